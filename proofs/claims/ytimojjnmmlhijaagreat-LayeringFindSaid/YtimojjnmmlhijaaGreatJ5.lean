/- Joined texts, part 5: lemmas for the statement. No condition. -/
import Derived.Test.YtimojjnmmlhijaaGreatJ4
import Derived.ChangeArms
import Derived.SizedLaws
import Derived.Test.YtimojjnmmlhijaaGreatJ1
import Derived.Test.YtimojjnmmlhijaaGreatJ3
import Derived.OpenShut
import Derived.ProofKit
import Derived.Carry
set_option linter.unusedSimpArgs false
set_option linter.unusedVariables false
open Nat (reduceEqDiff reduceLT reduceLeDiff reduceMul reduceAdd reduceSub)
namespace Go.Proofs.YtimojjnmmlhijaaGreat
open Go.Abs

theorem z00 {l:List Int} {n:Nat} (h:AscL l n):l.length≤n:=by
 have key:∀ i (hi:i < l.length),(i:Int)≤l[i]:=by
  intro i
  induction i with
  | zero=>intro hi; exact (h.range _ (List.getElem_mem hi)).1
  | succ i ih =>
   intro hi
   have h1:=ih (by omega)
   have h2:=(List.pairwise_iff_getElem.1 h.asc) i (i+1) (by omega) hi (by omega)
   omega
 rcases Nat.eq_zero_or_pos l.length with h0 | h0
 ·omega
 ·have h1:=key (l.length - 1) (by omega)
  have h2:=(h.range _ (List.getElem_mem (show l.length - 1 < l.length by omega))).2
  omega
structure FewR (r:zm):Prop where
 base:FewR0 r
 cond:cFew r.condition
 size:cSize r.condition≤1000
theorem z5l {r:zm} (hr:FewR0 r):∃ e,zb5 r=some e∧zii r=some (if e=0 then (if (decide r.into.nodes.Nodup && decide r.into.edges.Nodup)=true then 0 else 11) else e)∧(e=0→PartG r.left.graph r.keep∧OkG r.left.graph∧MorG (extP r.left.graph r.keep) r.right.graph r.into):=by
 have hk:=hr.keep
 have hi:=hr.into
 obtain ⟨e,h1,h2,h3⟩:=zst hr.left.graph (p:=r.keep) ⟨by omega,by omega⟩
 unfold zb5 zii
 by_cases h0:¬ (e=0)
 ·have hx:zed r.left.graph r.keep=some ((⟨[],[]⟩:Graph),(⟨[],[]⟩:zbo),e):=by
   unfold zed
   rw [zh h1,zo,if_neg h0]
  rw [zh h2,zh hx,zo (p:=e=0),zo (p:=e=0),if_neg h0,if_neg h0]
  exact ⟨e,rfl,by rw [if_neg h0],fun h=>absurd h h0⟩
 have h0:=Decidable.of_not_not h0
 subst h0
 obtain ⟨hp,hg⟩:=h3 rfl
 have hx:=zbfd hp ⟨by omega,by omega⟩ h1
 have hy:=z0p hp ⟨by omega,by omega⟩ h2
 rw [zh h2,zh hx,decide_eq_true rfl,cond_true,cond_true,zh hy]
 have hfe:FewG (extP r.left.graph r.keep):=by
  have a1:=z00 hp.nodes
  have a2:=z00 hp.edges
  have b1:=hg.nodes
  have b2:=hg.edges
  exact ⟨by simp [extP]; omega,by simp [extP]; omega⟩
 obtain ⟨e2,hm1,hm2⟩:=z6k hfe hr.right.graph (m:=r.into)
 simp only [zw6]
 rw [zh hm1,zh hm1]
 refine ⟨e2,rfl,?_,fun h=>⟨hp,hg,(hm2 h).1⟩⟩
 rw [zo]
 by_cases h4:¬ (e2=0)
 ·rw [if_neg h4,if_neg h4]
 have h4:=Decidable.of_not_not h4
 subst h4
 rw [if_pos rfl,if_pos rfl,zh (zx6 hfe hr.right.graph ⟨by omega,by omega⟩ hm1).1]
 cases decide r.into.nodes.Nodup && decide r.into.edges.Nodup <;> rfl
theorem z0j {t:Types} {p:zx} (h:patE t p=0):OkG p.graph∧typedB t p.graph=true:=by
 unfold patE at h
 split at h
 ·rename_i h1; exact absurd h h1
 split at h
 ·rename_i h1; exact absurd h h1
 split at h
 ·cases h
 rename_i _ h1 h2
 exact ⟨okG (Decidable.of_not_not h1),by simpa using h2⟩
structure OkR (t:Types) (r:zm):Prop where
 types:OkT t
 left:OkG r.left.graph
 right:OkG r.right.graph
 ltyped:typedB t r.left.graph=true
 rtyped:typedB t r.right.graph=true
theorem ziw {n:Nat} {l:List Int} : ∀ x∈restL n l,0≤x∧x < n:=fun _ hx=>(z5g.1 hx).1
noncomputable def ruleE (t:Types) (r:zm):Int:=(zb1 t r).getD 0
theorem zi7 {t:Types} (ht:FewT t) {r:zm} (hr:FewR r):zgd t r=some (ruleE t r)∧zb1 t r=some (ruleE t r)∧(ruleE t r=0→OkR t r):=by
 suffices h:∃ e,zgd t r=some e∧zb1 t r=some e∧(e=0→OkR t r) by
  obtain ⟨e,h1,h2,h3⟩:=h
  have:ruleE t r=e:=by unfold ruleE; rw [h2]; rfl
  rw [this]
  exact ⟨h1,h2,h3⟩
 have hb:=hr.base
 unfold zgd zb1
 rw [zh (zk9 ht),zh (zhj ht),zo (p:=(validT t).2=0),zo (p:=(validT t).2=0)]
 by_cases h1:¬ ((validT t).2=0)
 ·rw [if_neg h1,if_neg h1]; exact ⟨_,rfl,rfl,fun h=>absurd h h1⟩
 have h1:=Decidable.of_not_not h1
 have hT:=okTypes ht h1
 rw [if_pos h1,if_pos h1,zh (zbb4 (by have:=hb.name; omega)),zh (zve (by have:=hb.name; omega))]
 cases nameB r.name with
 | false=>exact ⟨_,rfl,rfl,fun h=>by cases h⟩
 | true =>
 rw [cond_true,cond_true,zh (zhh ht hb.left),zh (zf7 ht hb.left),zo (p:=patE t r.left=0),zo (p:=patE t r.left=0)]
 by_cases h2:¬ (patE t r.left=0)
 ·rw [if_neg h2,if_neg h2]; exact ⟨_,rfl,rfl,fun h=>absurd h h2⟩
 have h2:=Decidable.of_not_not h2
 rw [if_pos h2,if_pos h2,zh (zwb (r:=r) hT hb),zh (zo8 (r:=r) hT hb),zo (p:=rightE t r=0),zo (p:=rightE t r=0)]
 by_cases h3:¬ (rightE t r=0)
 ·rw [if_neg h3,if_neg h3]; exact ⟨_,rfl,rfl,fun h=>absurd h h3⟩
 have h3:=Decidable.of_not_not h3
 obtain ⟨g1,g2⟩:=z0j h2
 obtain ⟨g3,g4⟩:=zup h3
 have hOk:OkR t r:=⟨hT,g1,g3,g2,g4⟩
 obtain ⟨e,k1,k2,k3⟩:=z5l hb
 have hi:=hb.into
 rw [if_pos h3,if_pos h3,zh (show zii ⟨r.name,r.left,r.right,r.keep,r.into,r.injective,r.condition⟩=_ from k2),zh (show zb5 ⟨r.name,r.left,r.right,r.keep,r.into,r.injective,r.condition⟩=_ from k1),zo (p:=e=0),zh (zi6 (by omega)),zo (p:=r.into.nodes.Nodup)]
 by_cases h4:¬ (e=0)
 ·rw [if_neg h4,if_neg h4,zo,if_neg h4]; exact ⟨_,rfl,rfl,fun h=>absurd h h4⟩
 have h4:=Decidable.of_not_not h4
 rw [if_pos h4,if_pos h4,zh (zi6 (by omega)),zo (p:=r.into.edges.Nodup)]
 by_cases n1:¬ r.into.nodes.Nodup
 ·rw [if_neg n1,decide_eq_false n1]; exact ⟨_,rfl,rfl,fun h=>by cases h⟩
 have n1:=Decidable.of_not_not n1
 by_cases n2:¬ r.into.edges.Nodup
 ·rw [if_pos n1,if_neg n2,decide_eq_false n2,Bool.and_false]; exact ⟨_,rfl,rfl,fun h=>by cases h⟩
 have n2:=Decidable.of_not_not n2
 rw [if_pos n1,if_pos n2,decide_eq_true n1,decide_eq_true n2,Bool.and_self,if_pos rfl,decide_eq_true rfl,cond_true]
 rw [zh (show zf2 ⟨r.name,r.left,r.right,r.keep,r.into,r.injective,r.condition⟩=_ from (zkv hb).1),zh (show zcd ⟨r.name,r.left,r.right,r.keep,r.into,r.injective,r.condition⟩=_ from (zkv hb).2)]
 have hrn:=hb.right.graph.nodes
 have hre:=hb.right.graph.edges
 have l1:=zhu r.right.graph.nodes.length r.into.nodes
 have l2:=zhu r.right.graph.edges.length r.into.edges
 obtain ⟨m1,m2⟩:=zvf ht g3 g4 (nodes:=madeN r) (edges:=madeE r) ziw ziw (by unfold madeN; omega) (by unfold madeE; omega)
 rw [zh (show zgu ⟨t.nodes,t.edges⟩ r.right.graph (madeN r) (madeE r)=_ from m1),zh m2]
 cases makeB t r.right.graph (madeN r) (madeE r) with
 | false=>exact ⟨_,rfl,rfl,fun h=>by cases h⟩
 | true =>
 obtain ⟨e2,c1,c2⟩:=z7b hT hb.left hr.size hr.cond
 rw [cond_true,cond_true,zh c1,zh c2]
 exact ⟨e2,rfl,rfl,fun _=>hOk⟩
theorem zqf {t:Types} (ht:FewT t) {r:zm} (hr:FewR r):zhq t r=some (if ruleE t r=0 then (goneN r,goneE r,0) else ([],[],ruleE t r))∧zde t r=some (if ruleE t r=0 then (goneN r,goneE r,0) else ([],[],ruleE t r)):=by
 obtain ⟨h1,h2,_⟩:=zi7 ht hr
 unfold zhq zde
 rw [zh (show zgd t ⟨r.name,r.left,r.right,r.keep,r.into,r.injective,r.condition⟩=_ from h1),zh (show zb1 t ⟨r.name,r.left,r.right,r.keep,r.into,r.injective,r.condition⟩=_ from h2),zo (p:=ruleE t r=0),zo (p:=ruleE t r=0)]
 rw [zh (show zgv ⟨r.name,r.left,r.right,r.keep,r.into,r.injective,r.condition⟩=_ from (zud hr.base).1),zh (show zdf ⟨r.name,r.left,r.right,r.keep,r.into,r.injective,r.condition⟩=_ from (zud hr.base).2)]
 constructor <;> split <;> rfl
theorem zuw {t:Types} (ht:FewT t) {r:zm} (hr:FewR r):zgt t r=some (if ruleE t r=0 then (madeN r,madeE r,0) else ([],[],ruleE t r))∧zd4 t r=some (if ruleE t r=0 then (madeN r,madeE r,0) else ([],[],ruleE t r)):=by
 obtain ⟨h1,h2,_⟩:=zi7 ht hr
 unfold zgt zd4
 rw [zh h1,zh h2,zo (p:=ruleE t r=0),zo (p:=ruleE t r=0),zh (zkv hr.base).1,zh (zkv hr.base).2]
 constructor <;> split <;> rfl

def rawL (t:Types) (g:Graph) (nodes edges:List Int):List Int:=nodes.map (fun n=>g.nodes.getD n.toNat default)++edges.map fun n=>(t.nodes.length:Int)+(g.edges.getD n.toNat default).type
def placesL (t:Types) (g:Graph) (nodes edges:List Int):List Int:=((List.range (t.nodes.length+t.edges.length)).filter fun p:Nat=>decide ((p:Int)∈rawL t g nodes edges)).map fun p:Nat=>(p:Int)
theorem zzg (t:Types) (g:Graph) (nodes edges:List Int):(placesL t g nodes edges).Pairwise (· < ·):=by
 unfold placesL
 rw [List.pairwise_map]
 exact ((List.pairwise_lt_range).filter _).imp fun h=>by omega
theorem zm5 {t:Types} {g:Graph} {nodes edges:List Int} {x:Int} : x∈placesL t g nodes edges↔(0≤x∧x < (t.nodes.length+t.edges.length:Nat))∧x∈rawL t g nodes edges:=by
 unfold placesL
 simp only [List.mem_map,List.mem_filter,List.mem_range,decide_eq_true_eq]
 constructor
 ·rintro ⟨i,⟨h1,h2⟩,rfl⟩; exact ⟨⟨by omega,by omega⟩,h2⟩
 ·rintro ⟨⟨h1,h2⟩,h3⟩; exact ⟨x.toNat,⟨by omega,by rwa [Int.toNat_of_nonneg h1]⟩,by omega⟩
theorem zrm (t:Types) (g:Graph) (nodes edges:List Int):(placesL t g nodes edges).length≤t.nodes.length+t.edges.length:=by
 unfold placesL
 rw [List.length_map]
 exact Nat.le_trans (List.length_filter_le _ _) (by simp)
theorem z0t {t:Types} (ht:OkT t) {g:Graph} (hg:OkG g) (hb:typedB t g=true) {nodes edges:List Int} (hn:∀ x∈nodes,0≤x∧x < g.nodes.length) (he:∀ x∈edges,0≤x∧x < g.edges.length):∀ x∈rawL t g nodes edges,0≤x∧x < (t.nodes.length+t.edges.length:Nat):=by
 intro x hx
 unfold rawL at hx
 rcases List.mem_append.1 hx with hx | hx
 ·obtain ⟨i,hi,rfl⟩:=List.mem_map.1 hx
  have h1:=hn i hi
  have h2:i.toNat < g.nodes.length:=by omega
  have:=zjl hb hg h2
  rw [zb6 h2]
  omega
 ·obtain ⟨i,hi,rfl⟩:=List.mem_map.1 hx
  have h1:=he i hi
  have h2:i.toNat < g.edges.length:=by omega
  have h3:=(hg.edge _ h2).1
  unfold typedB at hb
  rw [Bool.and_eq_true] at hb
  have h4:=of_decide_eq_true (List.all_eq_true.1 hb.2 _ (List.getElem_mem h2))
  rw [zb6 h2] at h3 ⊢
  omega
theorem zq1 {g:Graph} {x:Int} (h:0≤x∧x < g.nodes.length):atZ g.nodes x=some (g.nodes.getD x.toNat default):=by
 have hi:x.toNat < g.nodes.length:=by omega
 unfold atZ; rw [if_pos h.1,List.getElem?_eq_getElem hi,zb6 hi]
theorem z0f {g:Graph} {x:Int} (h:0≤x∧x < g.edges.length):atZ g.edges x=some (g.edges.getD x.toNat default):=by
 have hi:x.toNat < g.edges.length:=by omega
 unfold atZ; rw [if_pos h.1,List.getElem?_eq_getElem hi,zb6 hi]
section
variable {t:Types} (ht:OkT t) {g:Graph} (hg:OkG g) (hb:typedB t g=true) {nodes edges:List Int} (hn:∀ x∈nodes,0≤x∧x < g.nodes.length) (he:∀ x∈edges,0≤x∧x < g.edges.length) (hnl:nodes.length≤1000) (hel:edges.length≤1000)
include ht hg hb hn he
theorem wrapType {x:Int} (hx:x∈edges):IntKind.i64.wrap (((t.nodes.length:Nat):Int)+(g.edges.getD x.toNat default).type)=(t.nodes.length:Int)+(g.edges.getD x.toNat default).type:=by
 have h1:=z0t ht hg hb hn he ((t.nodes.length:Int)+(g.edges.getD x.toNat default).type) (by unfold rawL; exact List.mem_append_right _ (List.mem_map.2 ⟨x,hx,rfl⟩))
 have:=ht.n12
 have:=ht.m20
 exact wrapI (by omega)
include hnl hel
theorem zya:zd0 t g nodes edges=some (placesL t g nodes edges):=by
 unfold zd0
 rw [chk_t (zbi (by omega))]
 rw [(zgr nodes (fun s n=>s++[g.nodes.getD n.toNat default]) (fun i s=>s.length=i) rfl (fun i hi s hs=>⟨fun nxt=>by rw [zb3 hi,zh (zq1 (hn _ (List.getElem_mem hi))),chk_t (by omega)],by simp [hs]⟩)).1]
 rw [zsq,List.nil_append,chk_t (zbi (by omega))]
 rw [(zgr edges (fun s n=>s++[(t.nodes.length:Int)+(g.edges.getD n.toNat default).type]) (fun i s=>s.length=nodes.length+i) (by simp) (fun i hi s hs=>⟨fun nxt=>by
  rw [zb3 hi,zh (z0f (he _ (List.getElem_mem hi))),chk_t (by omega),wrapType ht hg hb hn he (List.getElem_mem hi)],by simp [hs]; omega⟩)).1]
 rw [zsq]
 have hl:(rawL t g nodes edges).length≤1000000:=by simp [rawL]; omega
 show (thn (zgj (rawL t g nodes edges)) fun r=>thn (zfn r) fun r=>some r)=_
 rw [zh (z65 hl),zh (zu1 (by rw [zqh]; exact hl))]
 congr 1
 obtain ⟨h1,h2⟩:=zrf (zqu (rawL t g nodes edges))
 refine zbev h1 (zzg _ _ _ _) fun x=>?_
 rw [h2,(zon _).mem_iff,zm5]
 exact ⟨fun h=>⟨z0t ht hg hb hn he x h,h⟩,fun h=>h.2⟩
theorem zut:zch t g nodes edges=some (placesL t g nodes edges):=by
 have h12:=ht.n12
 have h20:=ht.m20
 have hw:(IntKind.i64.wrap (((t.nodes.length:Nat):Int)+((t.edges.length:Nat):Int))).toNat=t.nodes.length+t.edges.length:=by rw [wrapI (by omega)]; omega
 unfold zch
 rw [hw,chk_t (zbi (by omega))]
 have anyfold:∀ (q:Int→Bool) (l:List Int) (b:Bool),l.foldl (fun s a=>s || q a) b=(b || l.any q):=by
  intro q l
  induction l with
  | nil=>intro b; simp
  | cons a l ih=>intro b; rw [List.foldl_cons,ih,List.any_cons,Bool.or_assoc]
 have e:=zgr (K:=fun s3356=>some s3356) (s:=([]:List Int)) (List.range (t.nodes.length+t.edges.length)) (fun (s:List Int) (p:Nat)=>if decide ((p:Int)∈rawL t g nodes edges)=true then s++[(p:Int)] else s) (fun i s=>s.length≤i) (Nat.le_refl _)
  (f:=fun i3356 (s3356:(List Int)) nxts3356 brks3356=>chk (nodes.length≤fuel) <| forN (fun i3388 (s3388:Bool) nxts3388 brks3388=>cond s3388 (nxts3388 true) <| thn (nodes[i3388]?) fun e3393=>thn (atZ g.nodes e3393) fun e3394=>nxts3388 (decide (e3394=((i3356:Nat):Int)))) (nodes.length - 0) 0 false fun s3388=>chk (edges.length≤fuel) <| forN (fun i3400 (s3400:Bool) nxts3400 brks3400=>cond s3400 (nxts3400 true) <| thn (edges[i3400]?) fun e3405=>thn (atZ g.edges e3405) fun e3406=>nxts3400 (decide ((IntKind.i64.wrap (((t.nodes.length:Nat):Int)+e3406.type))=((i3356:Nat):Int)))) (edges.length - 0) 0 s3388 fun s3400=>cond s3400 (chk (s3356.length+1≤68719476736) <| nxts3356 (s3356++[((i3356:Nat):Int)])) <| nxts3356 s3356)
  (fun i hi s hs=>⟨fun nxt=>?_,?_⟩)
 ·rw [List.length_range] at e
  rw [e.1]
  congr 1
  unfold placesL
  have:∀ (q:List Nat) (s:List Int),q.foldl (fun (s:List Int) (p:Nat)=>if decide ((p:Int)∈rawL t g nodes edges)=true then s++[(p:Int)] else s) s=s++(q.filter fun p:Nat=>decide ((p:Int)∈rawL t g nodes edges)).map fun p:Nat=>(p:Int):=by
   intro q
   induction q with
   | nil=>intro s; simp
   | cons a q ih =>
    intro s
    rw [List.foldl_cons,ih,List.filter_cons]
    split <;> simp
  rw [this,List.nil_append]
 ·rw [List.getElem_range,chk_t (zbi (by omega))]
  rw [(zgr nodes (fun (s:Bool) n=>s || decide (g.nodes.getD n.toNat default=(i:Int))) (fun _ _=>True) trivial (fun j hj s _=>⟨fun nxt=>by
   cases s with
   | true=>rfl
   | false=>rw [cond_false,zb3 hj,zh (zq1 (hn _ (List.getElem_mem hj))),Bool.false_or],trivial⟩)).1]
  rw [anyfold,Bool.false_or,chk_t (zbi (by omega))]
  rw [(zgr edges (fun (s:Bool) n=>s || decide ((t.nodes.length:Int)+(g.edges.getD n.toNat default).type=(i:Int))) (fun _ _=>True) trivial (fun j hj s _=>⟨fun nxt=>by
   cases s with
   | true=>rfl
   | false=>rw [cond_false,zb3 hj,zh (z0f (he _ (List.getElem_mem hj))),wrapType ht hg hb hn he (List.getElem_mem hj),Bool.false_or],trivial⟩)).1]
  rw [anyfold]
  have hi':i < t.nodes.length+t.edges.length:=by simpa using hi
  have hm:(nodes.any (fun n=>decide (g.nodes.getD n.toNat default=(i:Int))) || edges.any fun n=>decide ((t.nodes.length:Int)+(g.edges.getD n.toNat default).type=(i:Int)))=decide ((i:Int)∈rawL t g nodes edges):=by
   rw [Bool.eq_iff_iff]
   unfold rawL
   simp only [Bool.or_eq_true,List.any_eq_true,decide_eq_true_eq,List.mem_append,List.mem_map]
  rw [hm]
  cases decide ((i:Int)∈rawL t g nodes edges) with
  | true=>rw [cond_true,if_pos rfl,chk_t (by omega)]
  | false=>simp
 ·rw [List.getElem_range]
  split
  ·simp; omega
  ·omega
end
end Go.Proofs.YtimojjnmmlhijaaGreat
namespace Go.Proofs.YtimojjnmmlhijaaGreat
open Go.Abs

theorem zbfp {α:Type} [Inhabited α] {l:List α} {q:Nat} (h:q < l.length):atZ l (q:Int)=some (l.getD q default):=by
 unfold atZ; rw [if_pos (Int.natCast_nonneg q),Int.toNat_natCast,List.getElem?_eq_getElem h,zb6 h]
theorem z8j {α:Type} (e:α→Int) (a:α) (l:List α):errL e (a :: l)=if e a=0 then errL e l else e a:=by
 unfold errL
 rw [List.find?_cons]
 by_cases h:e a=0
 ·rw [if_pos h,decide_eq_true h]; rfl
 ·rw [if_neg h,decide_eq_false h]; rfl
theorem zbak {α β O : Type} {f : Nat → List β → (List β → Option O) → (List β → Option O) → Option O} {K : List β → Option O} (l : List α) (e : α → Int) (g : α → β) (X : Int → Option O) (h : ∀ i (hi : i < l.length) s nxt, s.length = i → f i s nxt K = if e l[i] = 0 then nxt (s ++ [g l[i]]) else X (e l[i])) :
  forN f (l.length - 0) 0 [] K=if errL e l=0 then K (l.map g) else X (errL e l):=by
 have key:∀ (k i:Nat),i+k=l.length→∀ s:List β,s.length=i→forN f k i s K=if errL e (l.drop i)=0 then K (s++(l.drop i).map g) else X (errL e (l.drop i)):=by
  intro k
  induction k with
  | zero =>
   intro i hk s hs
   rw [List.drop_eq_nil_of_le (by omega)]
   show K s=if (0:Int)=0 then _ else _
   rw [if_pos rfl,List.map_nil,List.append_nil]
  | succ k ih =>
   intro i hk s hs
   rw [forN,h i (by omega) s _ hs,List.drop_eq_getElem_cons (by omega),z8j]
   by_cases h0:e l[i]=0
   ·rw [if_pos h0,if_pos h0,ih (i+1) (by omega) _ (by simp [hs])]
    rw [List.map_cons,List.append_assoc,List.singleton_append]
   ·rw [if_neg h0,if_neg h0,if_neg h0]
 have:=key (l.length - 0) 0 (by omega) [] rfl
 simpa using this

def kidB (t:Types) (a:Int):Bool:=t.nodes.any fun x=>decide (x.parent=a)
theorem zr9 {t:Types} (ht:OkT t) {q:Nat} (h:q < t.nodes.length):isB t (q:Int) (q:Int)=true:=by
 rw [zkk (ht.par' h)]; simp
theorem zba8 {t:Types} (ht:OkT t) (b:Int) (hb:0≤b):∀ (n:Nat) (a:Int),a+1 < n→-1≤a→a < t.nodes.length→zcv n t a b=some (isB t a b):=by
 intro n
 induction n with
 | zero=>intro a h h1; omega
 | succ n ih =>
  intro a h h1 h2
  rw [zcv,zo (p:=a=b)]
  by_cases e:a=b
  ·rw [if_pos e]
   subst e
   obtain ⟨q,rfl⟩:∃ q:Nat,a=q:=⟨_,(Int.toNat_of_nonneg hb).symm⟩
   rw [zr9 ht (by omega)]
  ·rw [if_neg e,zo (p:=0≤a)]
   by_cases h0:0≤a
   ·obtain ⟨q,rfl⟩:∃ q:Nat,a=q:=⟨_,(Int.toNat_of_nonneg h0).symm⟩
    have hq:q < t.nodes.length:=by omega
    have hp:=ht.par q hq
    rw [if_pos h0,zh (zbfp hq),zh (ih _ (by omega) hp.1 (by omega)),zkk (ht.par' hq),decide_eq_false e,Bool.false_or]
   ·rw [if_neg h0,zq3 (by omega)]
def belowL (t:Types) (a:Int):List Nat:=(List.range t.nodes.length).filter fun j:Nat=>isB t (j:Int) a
theorem zbek {t:Types} (ht:OkT t) (hv:(validT t).2=0) {a:Int} (h:0≤a∧a < t.nodes.length):zem t a=some ((belowL t a).map fun j:Nat=>(j:Int),0):=by
 have h12:=ht.n12
 have hg:zel t a a=some 0:=by
  unfold zel zfm
  rw [zh (zhj ht.few),hv,wrapI (by omega)]
  simp only [decide_eq_true h.1,decide_eq_true (show a≤((t.nodes.length:Nat):Int) - 1 by omega),cond_true,z97,decide_true]
 unfold zem
 rw [zh hg,decide_eq_true rfl,cond_true,chk_t (zbi (by omega))]
 have e:=zgr (K:=fun s:List Int=>some (s,(0:Int))) (s:=([]:List Int)) (List.range t.nodes.length) (fun (s:List Int) (j:Nat)=>if isB t (j:Int) a=true then s++[(j:Int)] else s) (fun i s=>s.length≤i) (Nat.le_refl _)
  (f:=fun i3209 (s3209:(List Int)) nxts3209 brks3209=>thn (zcv fuel t ((i3209:Nat):Int) a) fun r3215=>cond r3215 (chk (s3209.length+1≤68719476736) <| nxts3209 (s3209++[((i3209:Nat):Int)])) <| nxts3209 s3209)
  (fun i hi s hs=>by
   have hi':i < t.nodes.length:=by simpa using hi
   rw [List.getElem_range]
   refine ⟨fun nxt=>?_,?_⟩
   ·rw [zh (zba8 ht a h.1 fuel (i:Int) (by unfold fuel; omega) (by omega) (by omega))]
    cases isB t (i:Int) a with
    | true=>rw [cond_true,if_pos rfl,chk_t (by omega)]
    | false=>simp
   ·split
    ·simp; omega
    ·omega)
 rw [List.length_range] at e
 rw [e.1]
 have:∀ (q:List Nat) (s:List Int),q.foldl (fun (s:List Int) (j:Nat)=>if isB t (j:Int) a=true then s++[(j:Int)] else s) s=s++(q.filter fun j:Nat=>isB t (j:Int) a).map fun j:Nat=>(j:Int):=by
  intro q
  induction q with
  | nil=>intro s; simp
  | cons b q ih =>
   intro s
   rw [List.foldl_cons,ih,List.filter_cons]
   split <;> simp
 rw [this,List.nil_append]
 rfl
theorem zbd1 {t:Types} (ht:OkT t) {a:Int} (h:0≤a∧a < t.nodes.length):(1:Int) < ((((belowL t a).map fun j:Nat=>(j:Int)).length:Nat):Int)↔kidB t a=true:=by
 obtain ⟨q,rfl⟩:∃ q:Nat,a=q:=⟨_,(Int.toNat_of_nonneg h.1).symm⟩
 have hq:q < t.nodes.length:=by omega
 rw [List.length_map]
 have hn:(belowL t (q:Int)).Nodup:=(List.nodup_range).filter _
 have hm:∀ j,j∈belowL t (q:Int)↔j < t.nodes.length∧isB t (j:Int) (q:Int)=true:=by
  intro j; unfold belowL; rw [List.mem_filter,List.mem_range]
 constructor
 ·intro h1
  refine Decidable.byContradiction fun hk=>?_
  have hno:∀ j,j < t.nodes.length→(t.nodes.getD j default).parent≠(q:Int):=by
   intro j hj he
   refine hk ?_
   unfold kidB
   refine List.any_eq_true.2 ⟨t.nodes.getD j default,?_,decide_eq_true he⟩
   rw [zb6 hj]; exact List.getElem_mem hj
  have hall:∀ n j,j < n→j < t.nodes.length→isB t (j:Int) (q:Int)=true→j=q:=by
   intro n
   induction n with
   | zero=>intro j hj; omega
   | succ n ih =>
    intro j hjn hj hb
    have hp:=ht.par j hj
    rw [zkk (ht.par' hj),Bool.or_eq_true] at hb
    rcases hb with hb | hb
    ·have:=of_decide_eq_true hb; omega
    ·by_cases h0:(t.nodes.getD j default).parent < 0
     ·rw [zq3 h0] at hb; cases hb
     ·obtain ⟨p,hpe⟩:∃ p:Nat,(t.nodes.getD j default).parent=p:=⟨_,(Int.toNat_of_nonneg (by omega)).symm⟩
      rw [hpe] at hb hp
      have:=ih p (by omega) (by omega) hb
      exact absurd (by rw [hpe,this]) (hno j hj)
  match hL:belowL t (q:Int),hn,hm,h1 with
  | [],_,_,h1=>simp at h1
  | [x],_,_,h1=>simp at h1
  | x :: y :: l,hn,hm,_ =>
   have hx:=(hm x).1 (by simp)
   have hy:=(hm y).1 (by simp)
   have e1:=hall _ x (Nat.lt_succ_self x) hx.1 hx.2
   have e2:=hall _ y (Nat.lt_succ_self y) hy.1 hy.2
   simp [e1,e2] at hn
 ·intro hk
  unfold kidB at hk
  obtain ⟨x,hx,he⟩:=List.any_eq_true.1 hk
  obtain ⟨j,hj,rfl⟩:=memD hx
  have he:=of_decide_eq_true he
  have hp:=ht.par j hj
  rw [he] at hp
  have m1:j∈belowL t (q:Int):=(hm j).2 ⟨hj,by rw [zkk (ht.par' hj),he,zr9 ht hq,Bool.or_true]⟩
  have m2:q∈belowL t (q:Int):=(hm q).2 ⟨hq,zr9 ht hq⟩
  match hL:belowL t (q:Int),m1,m2 with
  | [x],m1,m2 =>
   simp only [List.mem_singleton] at m1 m2
   omega
  | x :: y :: l,_,_=>simp only [List.length_cons]; omega

noncomputable def ruleG (t:Types) (r:zm):Int:=if ruleE t r=0 then (if (goneN r).any (fun n=>kidB t (r.left.graph.nodes.getD n.toNat default))=true then 13 else 0) else ruleE t r
def effL (t:Types) (r:zm):zl:=⟨placesL t r.left.graph (goneN r) (goneE r),placesL t r.right.graph (madeN r) (madeE r)⟩
theorem zq6 {r:zm} : ∀ x∈goneN r,0≤x∧x < r.left.graph.nodes.length:=ziw
theorem zwa {r:zm} : ∀ x∈goneE r,0≤x∧x < r.left.graph.edges.length:=ziw
theorem z0e {r:zm} : ∀ x∈madeN r,0≤x∧x < r.right.graph.nodes.length:=ziw
theorem zxa {r:zm} : ∀ x∈madeE r,0≤x∧x < r.right.graph.edges.length:=ziw
theorem zol {r:zm} (hr:FewR r):(goneN r).length≤1000∧(goneE r).length≤1000∧(madeN r).length≤1000∧(madeE r).length≤1000:=by
 have h1:=hr.base.left.graph
 have h2:=hr.base.right.graph
 have:=h1.nodes; have:=h1.edges; have:=h2.nodes; have:=h2.edges
 have a1:=zhu r.left.graph.nodes.length r.keep.nodes
 have a2:=zhu r.left.graph.edges.length r.keep.edges
 have a3:=zhu r.right.graph.nodes.length r.into.nodes
 have a4:=zhu r.right.graph.edges.length r.into.edges
 unfold goneN goneE madeN madeE
 omega
theorem l_of {t:Types} (ht:FewT t) {r:zm} (hr:FewR r):zia t r=some (if ruleG t r=0 then (effL t r,0) else (⟨[],[]⟩,ruleG t r)):=by
 obtain ⟨_,_,hOk⟩:=zi7 ht hr
 unfold zia
 rw [zh (zqf ht hr).1]
 by_cases h0:¬ (ruleE t r=0)
 ·have hG:ruleG t r=ruleE t r:=by unfold ruleG; rw [if_neg h0]
  rw [if_neg h0,zo (p:=ruleE t r=0),if_neg h0,hG,if_neg h0]
 have h0:=Decidable.of_not_not h0
 have hO:=hOk h0
 have hl:=zol hr
 rw [if_pos h0,decide_eq_true rfl,cond_true]
 show chk ((goneN r).length≤fuel) _=_
 rw [chk_t (zbi (by omega))]
 rw [zcp (goneN r) (fun n=>!kidB t (r.left.graph.nodes.getD n.toNat default)) (fun _=>some ((⟨[],[]⟩:zl),13)) (fun i hi nxt=>by
  have hm:=zq6 _ (List.getElem_mem hi)
  show (thn (goneN r)[i]? _)=_
  rw [zb3 hi,zh (by
   refine zkf (fun x=>decide (x.parent=r.left.graph.nodes.getD (goneN r)[i].toNat default)) (by have:=hO.types.n12; omega) (fun x _=>?_)
   unfold zg5
   rw [zh (zq1 hm)]),zmx]
  rfl)]
 rw [zd1]
 have hG:ruleG t r=if (goneN r).any (fun n=>kidB t (r.left.graph.nodes.getD n.toNat default))=true then 13 else 0:=by unfold ruleG; rw [if_pos h0]
 have hall:((goneN r).all fun n=>!kidB t (r.left.graph.nodes.getD n.toNat default)) = !(goneN r).any fun n=>kidB t (r.left.graph.nodes.getD n.toNat default):=by rw [List.not_any_eq_all_not]
 rw [hG,hall]
 cases (goneN r).any (fun n=>kidB t (r.left.graph.nodes.getD n.toNat default)) with
 | true=>rfl
 | false =>
  show (thn (zgt t r) _)=_
  rw [zh (zuw ht hr).1,if_pos h0]
  show (thn (zd0 t r.left.graph (goneN r) (goneE r)) fun r961=>thn (zd0 t r.right.graph (madeN r) (madeE r)) fun r962=>some ((⟨r961,r962⟩:zl),(0:Int)))=_
  rw [zh (zya hO.types hO.left hO.ltyped zq6 zwa hl.1 hl.2.1),zh (zya hO.types hO.right hO.rtyped z0e zxa hl.2.2.1 hl.2.2.2)]
  rfl
theorem zta {t:Types} (ht:FewT t) {r:zm} (hr:FewR r) (h0:ruleE t r=0):zcm t r=some (effL t r).deletes:=by
 have hO:=(zi7 ht hr).2.2 h0
 have hl:=zol hr
 unfold zcm
 rw [zh (zqf ht hr).2,if_pos h0]
 show (thn (zch t r.left.graph (goneN r) (goneE r)) _)=_
 rw [zh (zut hO.types hO.left hO.ltyped zq6 zwa hl.1 hl.2.1)]
 rfl
theorem z1y {t:Types} (ht:FewT t) {r:zm} (hr:FewR r) (h0:ruleE t r=0):zdc t r=some (effL t r).creates:=by
 have hO:=(zi7 ht hr).2.2 h0
 have hl:=zol hr
 unfold zdc
 rw [zh (zuw ht hr).2,if_pos h0]
 show (thn (zch t r.right.graph (madeN r) (madeE r)) _)=_
 rw [zh (zut hO.types hO.right hO.rtyped z0e zxa hl.2.2.1 hl.2.2.2)]
 rfl
noncomputable def givenE (t:Types) (rules:List zm):Int:=if (validT t).2=0 then (if 6 < rules.length then 3 else errL (ruleG t) rules) else (validT t).2
structure FewRs (t:Types) (rules:List zm):Prop where
 types:FewT t
 len:rules.length≤1000
 each:∀ r∈rules,FewR r
theorem zt8 {t:Types} {rules:List zm} (h:FewRs t rules):ze1 t rules=some (if givenE t rules=0 then (rules.map (effL t),0) else ([],givenE t rules)):=by
 have hlen:=h.len
 unfold ze1
 rw [zh (zk9 h.types),zo (p:=(validT t).2=0)]
 by_cases hv:¬ ((validT t).2=0)
 ·have hE:givenE t rules=(validT t).2:=by unfold givenE; rw [if_neg hv]
  rw [if_neg hv,hE,if_neg hv]
 have hv:=Decidable.of_not_not hv
 rw [if_pos hv,zo (p:=(6:Int) < ((rules.length:Nat):Int))]
 by_cases h6:(6:Int) < ((rules.length:Nat):Int)
 ·have hE:givenE t rules=3:=by unfold givenE; rw [if_pos hv,if_pos (show 6 < rules.length by omega)]
  rw [if_pos h6,hE]; rfl
 have hE:givenE t rules=errL (ruleG t) rules:=by unfold givenE; rw [if_pos hv,if_neg (show ¬ 6 < rules.length by omega)]
 rw [if_neg h6,chk_t (zbi (by omega)),hE]
 refine (zbak rules (ruleG t) (effL t) (fun e=>some ([],e)) fun i hi s nxt hs=>?_).trans ?_
 ·rw [zb3 hi,zh (l_of h.types (h.each _ (List.getElem_mem hi)))]
  by_cases h0:ruleG t rules[i]=0
  ·rw [if_pos h0,if_pos h0,decide_eq_true rfl,cond_true,chk_t (by omega)]
  ·rw [if_neg h0,if_neg h0,zo (p:=ruleG t rules[i]=0),if_neg h0]
 ·split <;> rfl
theorem zbbt {t:Types} {rules:List zm} (h:FewRs t rules):zej t rules=some (givenE t rules):=by
 have hlen:=h.len
 unfold zej
 rw [zh (zhj h.types),zo (p:=(validT t).2=0)]
 by_cases hv:¬ ((validT t).2=0)
 ·have hE:givenE t rules=(validT t).2:=by unfold givenE; rw [if_neg hv]
  rw [if_neg hv,hE]
 have hv:=Decidable.of_not_not hv
 rw [if_pos hv,zo (p:=(6:Int) < ((rules.length:Nat):Int))]
 by_cases h6:(6:Int) < ((rules.length:Nat):Int)
 ·have hE:givenE t rules=3:=by unfold givenE; rw [if_pos hv,if_pos (show 6 < rules.length by omega)]
  rw [if_pos h6,hE]
 have hE:givenE t rules=errL (ruleG t) rules:=by unfold givenE; rw [if_pos hv,if_neg (show ¬ 6 < rules.length by omega)]
 rw [if_neg h6,chk_t (zbi (by omega)),hE]
 refine (zcp rules (fun r=>decide (ruleG t r=0)) (fun r=>some (ruleG t r)) fun i hi nxt=>?_).trans (zhv rfl)
 have hr:=h.each _ (List.getElem_mem hi)
 rw [zb3 hi,zh (zqf h.types hr).2,zo (p:=ruleG t rules[i]=0)]
 generalize rules[i]=r at hr ⊢
 by_cases h0:¬ (ruleE t r=0)
 ·have hG:ruleG t r=ruleE t r:=by unfold ruleG; rw [if_neg h0]
  rw [if_neg h0,zo (p:=ruleE t r=0),if_neg h0,hG,if_neg h0]
 have h0:=Decidable.of_not_not h0
 have hO:=(zi7 h.types hr).2.2 h0
 have hl:=zol hr
 rw [if_pos h0,decide_eq_true rfl,cond_true]
 show chk ((goneN r).length≤fuel) _=_
 rw [chk_t (zbi (by omega))]
 rw [zcp (goneN r) (fun n=>!kidB t (r.left.graph.nodes.getD n.toNat default)) (fun _=>some 13) (fun i hi nxt=>by
  have hm:=zq6 _ (List.getElem_mem hi)
  have h2:0≤r.left.graph.nodes.getD (goneN r)[i].toNat default∧r.left.graph.nodes.getD (goneN r)[i].toNat default < t.nodes.length:=by
   have hi':(goneN r)[i].toNat < r.left.graph.nodes.length:=by omega
   rw [zb6 hi']
   exact zjl hO.ltyped hO.left hi'
  show (thn (goneN r)[i]? _)=_
  rw [zb3 hi,zh (zq1 hm),zh (zbek hO.types hv h2),zmx,zo (p:=(1:Int) < ((((belowL t (r.left.graph.nodes.getD (goneN r)[i].toNat default)).map fun j:Nat=>(j:Int)).length:Nat):Int))]
  have hk:=zbd1 hO.types h2
  cases hb:kidB t (r.left.graph.nodes.getD (goneN r)[i].toNat default) with
  | true=>rw [if_pos (hk.2 hb),cond_true]
  | false=>rw [if_neg (fun h=>by rw [hk.1 h] at hb; cases hb),cond_false])]
 rw [zd1]
 have hG:ruleG t r=if (goneN r).any (fun n=>kidB t (r.left.graph.nodes.getD n.toNat default))=true then 13 else 0:=by unfold ruleG; rw [if_pos h0]
 have hall:((goneN r).all fun n=>!kidB t (r.left.graph.nodes.getD n.toNat default)) = !(goneN r).any fun n=>kidB t (r.left.graph.nodes.getD n.toNat default):=by rw [List.not_any_eq_all_not]
 rw [hG,hall]
 cases (goneN r).any (fun n=>kidB t (r.left.graph.nodes.getD n.toNat default)) <;> rfl
structure zq4 (t:Types) (rules:List zm):Prop where
 types:OkT t
 valid:(validT t).2=0
 six:rules.length≤6
 each:∀ r∈rules,ruleE t r=0
theorem ziz {t:Types} {rules:List zm} (h:FewRs t rules) (h0:givenE t rules=0):zq4 t rules:=by
 unfold givenE at h0
 split at h0
 ·rename_i hv
  split at h0
  ·cases h0
  ·rename_i h6
   refine ⟨okTypes h.types hv,hv,by omega,fun r hr=>?_⟩
   have:=zk6.1 h0 r hr
   unfold ruleG at this
   split at this
   ·assumption
   ·assumption
 ·rename_i hv; exact absurd h0 hv
end Go.Proofs.YtimojjnmmlhijaaGreat
namespace Go.Abs.Lay
def g (x:List Int) (p:Int):Int:=x.getD p.toNat 0
def m (D:List Int) (x:List Int):Int:=D.foldl (fun n q=>max n (g x q)) 0
def upd (U:List (Int×Int)) (x:List Int):List Int:=U.foldl (fun x u=>x.set u.1.toNat (max (g x u.1) u.2)) x
abbrev Eff:=List Int×List Int
def ups (E:List Eff) (x:List Int):List (Int×Int):=E.flatMap fun e=>e.2.map fun p=>(p,m e.1 x+1)
def FF (E:List Eff) (x:List Int):List Int:=upd (ups E x) x
def jac (E:List Eff):Nat→List Int→Option (List Int)
 | 0,_=>none
 | k+1,x=>if x=FF E x then some x else jac E k (FF E x)

theorem zw9 (D x:List Int):∀ n:Int,n≤D.foldl (fun n q=>max n (g x q)) n∧(∀ q∈D,g x q≤D.foldl (fun n q=>max n (g x q)) n)∧(D.foldl (fun n q=>max n (g x q)) n=n∨∃ q∈D,D.foldl (fun n q=>max n (g x q)) n=g x q):=by
 induction D with
 | nil=>intro n; simp
 | cons a D ih =>
  intro n
  simp only [List.foldl_cons]
  obtain ⟨h1,h2,h3⟩:=ih (max n (g x a))
  refine ⟨by omega,fun q hq=>?_,?_⟩
  ·rcases List.mem_cons.1 hq with rfl | hq
   ·omega
   ·exact h2 q hq
  ·rcases h3 with h3 | ⟨q,hq,h3⟩
   ·rcases Int.le_total n (g x a) with h4 | h4
    ·exact .inr ⟨a,List.mem_cons_self,by rw [h3]; omega⟩
    ·exact .inl (by rw [h3]; omega)
   ·exact .inr ⟨q,List.mem_cons_of_mem _ hq,h3⟩
theorem m_nn (D x:List Int):0≤m D x:=(zw9 D x 0).1
theorem m_ge {D x:List Int} {q:Int} (h:q∈D):g x q≤m D x:=(zw9 D x 0).2.1 q h
theorem m_at (D x:List Int):m D x=0∨∃ q∈D,m D x=g x q:=(zw9 D x 0).2.2
theorem m_le {D x:List Int} {b:Int} (h0:0≤b) (h:∀ q∈D,g x q≤b):m D x≤b:=by
 rcases m_at D x with h1 | ⟨q,hq,h1⟩
 ·omega
 ·rw [h1]; exact h q hq

def In (n:Nat) (p:Int):Prop:=0≤p∧p < n
theorem g_set {x:List Int} {n:Nat} (hx:x.length=n) {p q:Int} (hp:In n p) (hq:In n q) (v:Int):g (x.set p.toNat v) q=if q=p then v else g x q:=by
 unfold g
 obtain ⟨h1,h2⟩:=hp
 obtain ⟨h3,h4⟩:=hq
 simp only [List.getD_eq_getElem?_getD,List.getElem?_set]
 by_cases h:q=p
 ·subst h
  simp only [if_true]
  rw [if_pos (by omega)]
  rfl
 ·rw [if_neg (by omega),if_neg h]
theorem zbdm (U:List (Int×Int)) (x:List Int):(upd U x).length=x.length:=by
 unfold upd
 induction U generalizing x with
 | nil=>rfl
 | cons u U ih=>rw [List.foldl_cons,ih,List.length_set]
theorem ztd {n : Nat} (U : List (Int × Int)) : ∀ (x : List Int), x.length = n → (∀ u ∈ U, In n u.1) → ∀ p, In n p →
  g x p≤g (upd U x) p∧(∀ v,(p,v)∈U→v≤g (upd U x) p)∧(g (upd U x) p=g x p∨∃ v,(p,v)∈U∧g (upd U x) p=v):=by
 induction U with
 | nil=>intro x _ _ p _; simp [upd]
 | cons u U ih =>
  intro x hx hU p hp
  have hu:=hU u List.mem_cons_self
  obtain ⟨h1,h2,h3⟩:=ih (x.set u.1.toNat (max (g x u.1) u.2)) (by simpa using hx) (fun w hw=>hU w (List.mem_cons_of_mem _ hw)) p hp
  have e:upd (u :: U) x=upd U (x.set u.1.toNat (max (g x u.1) u.2)):=rfl
  rw [e]
  rw [g_set hx hu hp] at h1 h3
  by_cases hpu:p=u.1
  ·subst hpu
   simp only [if_true] at h1 h3
   refine ⟨by omega,fun v hv=>?_,?_⟩
   ·rcases List.mem_cons.1 hv with h4 | h4
    ·have:v=u.2:=by rw [← h4]
     omega
    ·exact h2 v h4
   ·rcases h3 with h3 | ⟨v,h4,h3⟩
    ·rcases Int.le_total (g x u.1) u.2 with h5 | h5
     ·exact .inr ⟨u.2,by simp,by omega⟩
     ·exact .inl (by omega)
    ·exact .inr ⟨v,List.mem_cons_of_mem _ h4,h3⟩
  ·rw [if_neg hpu] at h1 h3
   refine ⟨h1,fun v hv=>?_,?_⟩
   ·rcases List.mem_cons.1 hv with h4 | h4
    ·exact absurd (by rw [← h4]) hpu
    ·exact h2 v h4
   ·rcases h3 with h3 | ⟨v,h4,h3⟩
    ·exact .inl h3
    ·exact .inr ⟨v,List.mem_cons_of_mem _ h4,h3⟩
def Ok (E:List Eff) (n:Nat):Prop:=∀ e∈E,(∀ q∈e.1,In n q)∧(∀ p∈e.2,In n p)
theorem zt0 {E:List Eff} {x:List Int} {p v:Int} : (p,v)∈ups E x↔∃ e∈E,p∈e.2∧v=m e.1 x+1:=by
 unfold ups
 simp only [List.mem_flatMap,List.mem_map,Prod.mk.injEq]
 constructor
 ·rintro ⟨e,he,a,ha,rfl,rfl⟩; exact ⟨e,he,ha,rfl⟩
 ·rintro ⟨e,he,hp,rfl⟩; exact ⟨e,he,p,hp,rfl,rfl⟩
theorem zwt {E:List Eff} {n:Nat} (hE:Ok E n) {x:List Int} : ∀ u∈ups E x,In n u.1:=by
 rintro ⟨p,v⟩ hu
 obtain ⟨e,he,hp,_⟩:=zt0.1 hu
 exact (hE e he).2 p hp
theorem FF_len (E:List Eff) (x:List Int):(FF E x).length=x.length:=zbdm _ _
section
variable {E:List Eff} {n:Nat} (hE:Ok E n) {x:List Int} (hx:x.length=n)
include hE hx
theorem FF_ge {p:Int} (hp:In n p):g x p≤g (FF E x) p:=(ztd _ x hx (zwt hE) p hp).1
theorem FF_up {e:Eff} (he:e∈E) {p:Int} (hp:p∈e.2):m e.1 x+1≤g (FF E x) p:=(ztd _ x hx (zwt hE) p ((hE e he).2 p hp)).2.1 _ (zt0.2 ⟨e,he,hp,rfl⟩)
theorem FF_at {p:Int} (hp:In n p):g (FF E x) p=g x p∨∃ e∈E,p∈e.2∧g (FF E x) p=m e.1 x+1:=by
 rcases (ztd _ x hx (zwt hE) p hp).2.2 with h | ⟨v,h,h'⟩
 ·exact .inl h
 ·obtain ⟨e,he,hp,rfl⟩:=zt0.1 h
  exact .inr ⟨e,he,hp,h'⟩
end
theorem g_ext {n:Nat} {x y:List Int} (hx:x.length=n) (hy:y.length=n) (h:∀ p,In n p→g x p=g y p):x=y:=by
 refine List.ext_getElem (by omega) fun i h1 h2=>?_
 have:=h i ⟨by omega,by omega⟩
 unfold g at this
 simpa [h1,h2] using this

def Sol (E:List Eff) (n:Nat) (f:Int→Int):Prop:=(∀ p,In n p→0≤f p)∧∀ e∈E,∀ q∈e.1,∀ p∈e.2,f q < f p
def Full (E:List Eff):Prop:=∀ e∈E,e.1≠[]

section
variable {E:List Eff} {n:Nat} (hE:Ok E n) (hF:Full E)
include hE hF
theorem mx_lt {f:Int→Int} (hf:Sol E n f) {e:Eff} (he:e∈E) {x:List Int} (hx:∀ p,In n p→g x p≤f p) {p:Int} (hp:p∈e.2):m e.1 x+1≤f p:=by
 rcases m_at e.1 x with h | ⟨q,hq,h⟩
 ·obtain ⟨q,hq⟩:=List.exists_mem_of_ne_nil _ (hF e he)
  have h1:=hf.2 e he q hq p hp
  have h2:=hf.1 q ((hE e he).1 q hq)
  omega
 ·have h1:=hf.2 e he q hq p hp
  have h2:=hx q ((hE e he).1 q hq)
  omega
theorem FF_le {f:Int→Int} (hf:Sol E n f) {x:List Int} (hx:x.length=n) (h:∀ p,In n p→g x p≤f p):∀ p,In n p→g (FF E x) p≤f p:=by
 intro p hp
 rcases FF_at hE hx hp with h1 | ⟨e,he,h2,h1⟩
 ·rw [h1]; exact h p hp
 ·rw [h1]; exact mx_lt hE hF hf he h h2
omit hF in
theorem fix_sol {x:List Int} (hx:x.length=n) (h0:∀ p,In n p→0≤g x p) (h:x=FF E x):Sol E n (g x):=by
 refine ⟨h0,fun e he q hq p hp=>?_⟩
 have h1:=FF_up hE hx he hp
 rw [← h] at h1
 have:=m_ge (x:=x) hq
 omega
omit hF in
theorem sol_small {f:Int→Int} (hf:Sol E n f):∃ f',Sol E n f'∧∀ p,In n p→f' p < n:=by
 refine ⟨fun p=>(((List.range n).countP fun i:Nat=>decide (f (i:Int) < f p)):Int),⟨fun p _=>Int.natCast_nonneg _,fun e he q hq p hp=>?_⟩,fun p hp=>?_⟩
 ·simp only
  have hlt:=hf.2 e he q hq p hp
  have hqn:=(hE e he).1 q hq
  have key:∀ l:List Nat,(l.countP fun i:Nat=>decide (f (i:Int) < f q))≤(l.countP fun i:Nat=>decide (f (i:Int) < f p))∧(q.toNat∈l→(l.countP fun i:Nat=>decide (f (i:Int) < f q)) < (l.countP fun i:Nat=>decide (f (i:Int) < f p))):=by
   intro l
   induction l with
   | nil=>exact ⟨Nat.le_refl _,fun h=>by cases h⟩
   | cons a l ih =>
    obtain ⟨h1,h2⟩:=ih
    simp only [List.countP_cons]
    by_cases c1:f (a:Int) < f q
    ·have c2:f (a:Int) < f p:=by omega
     simp only [c1,c2,decide_true,if_true]
     refine ⟨by omega,fun h=>?_⟩
     rcases List.mem_cons.1 h with h | h
     ·exfalso
      rw [← h,Int.toNat_of_nonneg hqn.1] at c1
      omega
     ·have:=h2 h; omega
    ·by_cases c2:f (a:Int) < f p
     ·simp only [c1,c2,decide_true,decide_false,if_true]
      exact ⟨by simp; omega,fun _=>by simp; omega⟩
     ·simp only [c1,c2,decide_false]
      refine ⟨by simpa using h1,fun h=>?_⟩
      rcases List.mem_cons.1 h with h | h
      ·exfalso
       rw [← h,Int.toNat_of_nonneg hqn.1] at c2
       omega
      ·simpa using h2 h
  have:=(key (List.range n)).2 (List.mem_range.2 (by have:=hqn.1; have:=hqn.2; omega))
  omega
 ·simp only
  have key:∀ l:List Nat,p.toNat∈l→(l.countP fun i:Nat=>decide (f (i:Int) < f p)) < l.length:=by
   intro l
   induction l with
   | nil=>intro h; cases h
   | cons a l ih =>
    intro h
    simp only [List.countP_cons,List.length_cons]
    rcases List.mem_cons.1 h with h | h
    ·rw [← h,Int.toNat_of_nonneg hp.1]
     have:¬ f p < f p:=by omega
     simp only [this,decide_false]
     have:=List.countP_le_length (p:=fun i:Nat=>decide (f (i:Int) < f p)) (l:=l)
     simp
     omega
    ·have:=ih h
     split <;> omega
  have:=key (List.range n) (List.mem_range.2 (by have:=hp.1; have:=hp.2; omega))
  simp only [List.length_range] at this
  omega
omit hE hF in
theorem z03:∀ p,In n p→0≤g (List.replicate n 0) p:=by
 intro p hp
 unfold g
 rw [List.getD_eq_getElem?_getD,List.getElem?_replicate]
 split <;> simp
theorem zbdc {f : Int → Int} (hf : Sol E n f) (hfn : ∀ p, In n p → f p < n) : ∀ (k j : Nat) (x : List Int), x.length = n → (∀ p, In n p → 0 ≤ g x p ∧ g x p ≤ f p) → (∀ p, In n p → g x p ≠ g (FF E x) p → (j : Int) + 1 ≤ g (FF E x) p) → n ≤ j + k →
  ∃ y,jac E (k+1) x=some y:=by
 intro k
 induction k with
 | zero =>
  intro j x hx hb hch hj
  refine ⟨x,?_⟩
  have:x=FF E x:=by
   refine g_ext hx (by rw [FF_len,hx]) fun p hp=>?_
   by_cases h:g x p=g (FF E x) p
   ·exact h
   ·have h1:=hch p hp h
    have h2:=FF_le hE hF hf hx (fun p hp=>(hb p hp).2) p hp
    have h3:=hfn p hp
    omega
  rw [jac,if_pos this]
 | succ k ih =>
  intro j x hx hb hch hj
  by_cases h:x=FF E x
  ·exact ⟨x,by rw [jac,if_pos h]⟩
  rw [jac,if_neg h]
  refine ih (j+1) (FF E x) (by rw [FF_len,hx]) (fun p hp=>⟨?_,FF_le hE hF hf hx (fun p hp=>(hb p hp).2) p hp⟩) ?_ (by omega)
  ·have:=FF_ge hE hx hp; have:=(hb p hp).1; omega
  intro p hp hne
  rcases FF_at hE (x:=FF E x) (by rw [FF_len,hx]) hp with h1 | ⟨e,he,h2,h1⟩
  ·exact absurd h1.symm hne
  have h3:=FF_up hE hx he h2
  have h4:=FF_ge hE (x:=FF E x) (by rw [FF_len,hx]) hp
  have h5:=m_nn e.1 x
  rcases m_at e.1 (FF E x) with h6 | ⟨q,hq,h6⟩
  ·omega
  ·have h7:=m_ge (x:=x) hq
   have h8:=hch q ((hE e he).1 q hq) (by omega)
   omega
theorem z8w {f:Int→Int} (hf:Sol E n f):∃ y,jac E (n+2) (List.replicate n 0)=some y:=by
 obtain ⟨f',h1,h2⟩:=sol_small hE hf
 have hz:∀ p,In n p→g (List.replicate n 0) p=0:=by
  intro p hp
  unfold g
  rw [List.getD_eq_getElem?_getD,List.getElem?_replicate]
  split <;> rfl
 refine zbdc hE hF h1 h2 (n+1) 0 _ (by simp) (fun p hp=>⟨by rw [hz p hp]; omega,by rw [hz p hp]; exact h1.1 p hp⟩) (fun p hp hne=>?_) (by omega)
 have:=FF_ge hE (x:=List.replicate n 0) (by simp) hp
 rw [hz p hp] at hne this
 omega
theorem jac_least:∀ (k:Nat) (x y:List Int),x.length=n→(∀ p,In n p→0≤g x p)→jac E k x=some y→y.length=n∧(∀ p,In n p→0≤g y p)∧y=FF E y∧∀ f,Sol E n f→(∀ p,In n p→g x p≤f p)→∀ p,In n p→g y p≤f p:=by
 intro k
 induction k with
 | zero=>intro x y _ _ h; cases h
 | succ k ih =>
  intro x y hx h0 h
  rw [jac] at h
  split at h
  ·cases h
   rename_i h1
   exact ⟨hx,h0,h1,fun f _ h2=>h2⟩
  ·obtain ⟨q1,q2,q3,q4⟩:=ih (FF E x) y (by rw [FF_len,hx]) (fun p hp=>by have:=FF_ge hE hx hp; have:=h0 p hp; omega) h
   exact ⟨q1,q2,q3,fun f hf h2=>q4 f hf (FF_le hE hF hf hx h2)⟩
theorem jac_eq {y:List Int} (hy:y.length=n) (hs:Sol E n (g y)) (hl:∀ f,Sol E n f→∀ p,In n p→g y p≤f p):jac E (n+2) (List.replicate n 0)=some y:=by
 obtain ⟨z,hz⟩:=z8w hE hF hs
 obtain ⟨q1,q2,q3,q4⟩:=jac_least hE hF _ _ _ (by simp) (z03) hz
 have h1:=fix_sol hE q1 q2 q3
 rw [hz]
 congr 1
 refine g_ext q1 hy fun p hp=>?_
 have a:=hl _ h1 p hp
 have b:=q4 _ hs (fun p hp=>by
  have:g (List.replicate n 0) p=0:=by
   unfold g
   rw [List.getD_eq_getElem?_getD,List.getElem?_replicate]
   split <;> rfl
  rw [this]; exact hs.1 p hp) p hp
 omega
theorem jac_none (h:∀ f,¬ Sol E n f):jac E (n+2) (List.replicate n 0)=none:=by
 cases hz:jac E (n+2) (List.replicate n 0) with
 | none=>rfl
 | some z =>
  obtain ⟨q1,q2,q3,_⟩:=jac_least hE hF _ _ _ (by simp) (z03) hz
  exact absurd (fix_sol hE q1 q2 q3) (h _)
end
end Go.Abs.Lay
namespace Go.Proofs.YtimojjnmmlhijaaGreat
open Go.Abs

theorem zbd9 (l:List Int) (v:Int):∀ (i:Nat) (h:i < l.length),(l.set i v).sum=l.sum+v - l[i]:=by
 induction l with
 | nil=>intro i h; simp at h
 | cons a l ih =>
  intro i h
  cases i with
  | zero=>simp only [List.set_cons_zero,List.sum_cons,List.getElem_cons_zero]; omega
  | succ i =>
   have:=ih i (by simpa using h)
   simp only [List.set_cons_succ,List.sum_cons,List.getElem_cons_succ]; omega
theorem z4v (l:List Int) (h:∀ a∈l,a≤101):l.sum≤101 * l.length:=by
 induction l with
 | nil=>simp
 | cons a l ih =>
  have h1:=h a List.mem_cons_self
  have h2:=ih fun b hb=>h b (List.mem_cons_of_mem _ hb)
  simp only [List.sum_cons,List.length_cons]
  omega
theorem g_nat {x:List Int} {i:Nat} (h:i < x.length):Lay.g x (i:Int)=x[i]:=by
 unfold Lay.g; simp [h]
theorem g_mem {x:List Int} {a:Int} (h:a∈x):∃ p:Int,Lay.In x.length p∧Lay.g x p=a:=by
 obtain ⟨i,hi,rfl⟩:=List.mem_iff_getElem.1 h
 exact ⟨i,⟨by omega,by omega⟩,g_nat hi⟩
theorem atZ_g {x:List Int} {n:Nat} (hx:x.length=n) {p:Int} (h:Lay.In n p):atZ x p=some (Lay.g x p):=by
 obtain ⟨h1,h2⟩:=h
 have hi:p.toNat < x.length:=by omega
 unfold atZ Lay.g; rw [if_pos h1,List.getElem?_eq_getElem hi]; simp [hi]
theorem at_g {x:List Int} {i:Nat} (h:i < x.length):x[i]? = some (Lay.g x (i:Int)):=by
 rw [g_nat h,List.getElem?_eq_getElem h]
theorem g_sum {x:List Int} {n:Nat} (hx:x.length=n) {p:Int} (h:Lay.In n p) (v:Int):(x.set p.toNat v).sum=x.sum+v - Lay.g x p:=by
 obtain ⟨h1,h2⟩:=h
 have hi:p.toNat < x.length:=by omega
 rw [zbd9 x v _ hi]
 unfold Lay.g; simp [hi]
theorem zbfk {D:List Int} {n:Nat} (hD:∀ q∈D,Lay.In n q) {x y:List Int} (h:∀ p,Lay.In n p→Lay.g x p≤Lay.g y p):Lay.m D x≤Lay.m D y :=
 Lay.m_le (Lay.m_nn _ _) fun q hq=>by have:=h q (hD q hq); have:=Lay.m_ge (x:=y) hq; omega

def EE (es:List zl):List Lay.Eff:=es.map fun e=>(e.deletes,e.creates)
structure EOk (es:List zl) (n:Nat):Prop where
 few:es.length≤6
 n32:n≤32
 each:∀ e∈es,(∀ q∈e.deletes,Lay.In n q)∧(∀ p∈e.creates,Lay.In n p)∧e.deletes.length≤32∧e.creates.length≤32
theorem EOk.ok {es:List zl} {n:Nat} (h:EOk es n):Lay.Ok (EE es) n:=by
 intro e he
 obtain ⟨a,ha,rfl⟩:=List.mem_map.1 he
 have:=h.each a ha
 exact ⟨this.1,this.2.1⟩
def noneB (es:List zl):Bool:=es.any fun e=>decide (((e.deletes.length:Nat):Int)=0)
theorem znw {es:List zl} (h:noneB es=false):Lay.Full (EE es):=by
 intro e he
 obtain ⟨a,ha,rfl⟩:=List.mem_map.1 he
 intro h0
 have h0:a.deletes=[]:=h0
 have:noneB es=true:=List.any_eq_true.2 ⟨a,ha,decide_eq_true (by rw [h0]; rfl)⟩
 rw [h] at this; cases this
def leastL (es:List zl) (n:Nat):Option (List Int):=if noneB es=true then none else Lay.jac (EE es) (n+2) (List.replicate n 0)
def rulesL (es:List zl) (y:List Int):List Int:=es.map fun e=>Lay.m e.deletes y

structure InvL (es:List zl) (n:Nat) (x r:List Int):Prop where
 xl:x.length=n
 rl:r.length=es.length
 xnn:∀ p,Lay.In n p→0≤Lay.g x p
 low:∀ f,Lay.Sol (EE es) n f→∀ p,Lay.In n p→Lay.g x p≤f p
 rr:∀ i (hi:i < es.length),0≤Lay.g r (i:Int)∧Lay.g r (i:Int)≤Lay.m es[i].deletes x
section
variable {es:List zl} {n:Nat} (hE:EOk es n) (hF:noneB es=false)
include hE hF
omit hF in
theorem InvL.rule {x r:List Int} (h:InvL es n x r) {i:Nat} (hi:i < es.length) {q:Int} (hq:q∈es[i].deletes):InvL es n x (r.set i (Lay.g x q)):=by
 refine ⟨h.xl,by simp [h.rl],h.xnn,h.low,fun j hj=>?_⟩
 have e:=Lay.g_set (x:=r) h.rl (p:=(i:Int)) (q:=(j:Int)) ⟨by omega,by omega⟩ ⟨by omega,by omega⟩ (Lay.g x q)
 rw [Int.toNat_natCast] at e
 rw [e]
 split
 ·have:j=i:=by omega
  subst this
  exact ⟨h.xnn q ((hE.each _ (List.getElem_mem hi)).1 q hq),Lay.m_ge hq⟩
 ·exact h.rr j hj
theorem InvL.place {x r:List Int} (h:InvL es n x r) {i:Nat} (hi:i < es.length) {p:Int} (hp:p∈es[i].creates) (hle:Lay.g x p≤Lay.g r (i:Int)):InvL es n (x.set p.toNat (Lay.g r (i:Int)+1)) r∧∀ q,Lay.In n q→Lay.g x q≤Lay.g (x.set p.toNat (Lay.g r (i:Int)+1)) q:=by
 have hpn:=(hE.each _ (List.getElem_mem hi)).2.1 p hp
 have hri:=h.rr i hi
 have e:=fun q (hq:Lay.In n q)=>Lay.g_set (x:=x) h.xl (p:=p) (q:=q) hpn hq (Lay.g r (i:Int)+1)
 have hge:∀ q,Lay.In n q→Lay.g x q≤Lay.g (x.set p.toNat (Lay.g r (i:Int)+1)) q:=by
  intro q hq
  rw [e q hq]
  split
  ·rename_i h1; subst h1; omega
  ·omega
 refine ⟨⟨by simp [h.xl],h.rl,fun q hq=>?_,fun f hf q hq=>?_,fun j hj=>⟨(h.rr j hj).1,?_⟩⟩,hge⟩
 ·have:=h.xnn q hq; have:=hge q hq; omega
 ·rw [e q hq]
  split
  ·rename_i h1; subst h1
   have:=Lay.mx_lt hE.ok (znw hF) hf (List.mem_map.2 ⟨_,List.getElem_mem hi,rfl⟩) (h.low f hf) (p:=q) hp
   simp only at this
   omega
  ·exact h.low f hf q hq
 ·have:=(h.rr j hj).2
  have:=zbfk (hE.each _ (List.getElem_mem hj)).1 hge
  omega
theorem InvL.big {x r:List Int} (h:InvL es n x r) {i:Nat} (hi:i < es.length) (hb:100 < Lay.g r (i:Int)):leastL es n=none:=by
 unfold leastL
 rw [if_neg (by rw [hF]; decide)]
 refine Lay.jac_none hE.ok (znw hF) fun f hf=>?_
 obtain ⟨f',h1,h2⟩:=Lay.sol_small hE.ok hf
 have hr:=(h.rr i hi).2
 have h32:=hE.n32
 have:Lay.m es[i].deletes x≤32:=Lay.m_le (by omega) fun q hq=>by
  have hq':=(hE.each _ (List.getElem_mem hi)).1 q hq
  have:=h.low f' h1 q hq'
  have:=h2 q hq'
  omega
 omega
theorem InvL.done {x r:List Int} (h:InvL es n x r) (hs:∀ j (hj:j < es.length),(∀ q∈es[j].deletes,Lay.g x q≤Lay.g r (j:Int))∧∀ p∈es[j].creates,Lay.g r (j:Int) < Lay.g x p):leastL es n=some x∧r=rulesL es x:=by
 constructor
 ·unfold leastL
  rw [if_neg (by rw [hF]; decide)]
  refine Lay.jac_eq hE.ok (znw hF) h.xl ⟨h.xnn,fun e he q hq p hp=>?_⟩ h.low
  obtain ⟨a,ha,rfl⟩:=List.mem_map.1 he
  obtain ⟨j,hj,rfl⟩:=List.mem_iff_getElem.1 ha
  have h1:=(hs j hj).1 q hq
  have h2:=(hs j hj).2 p hp
  omega
 ·refine List.ext_getElem (by simp [rulesL,h.rl]) fun j h1 h2=>?_
  have hj:j < es.length:=by rw [← h.rl]; exact h1
  have e1:=(h.rr j hj)
  have e2:=Lay.m_le (D:=es[j].deletes) (x:=x) e1.1 fun q hq=>(hs j hj).1 q hq
  rw [g_nat h1] at e1 e2
  simp only [rulesL,List.getElem_map]
  omega
end
def totL (x r:List Int):Int:=x.sum+r.sum
theorem zbes {es:List zl} {n:Nat} (hE:EOk es n):zgz es (n:Int)=some (match leastL es n with | some y=>(rulesL es y,y,true) | none=>([],[],false)):=by
 have hfew:=hE.few
 have h32:=hE.n32
 unfold zgz
 rw [chk_t (by omega),chk_t ⟨by omega,by omega⟩]
 rw [zh (zio (p:=fun x=>zf8 x) (fun e=>decide (((e.deletes.length:Nat):Int)=0)) (by omega) (fun _ _=>rfl))]
 show cond (noneB es) _ _=_
 cases hF:noneB es with
 | true=>rw [cond_true]; unfold leastL; rw [if_pos hF]
 | false =>
 rw [cond_false]
 refine Ok.eq ?_
 refine zlw (fun s:Bool×List Int×List Int=>InvL es n s.2.1 s.2.2∧(∀ p,Lay.In n p→Lay.g s.2.1 p≤101)∧(∀ i,i < es.length→Lay.g s.2.2 (i:Int)≤100)∧(s.1=false→∀ j (hj:j < es.length),(∀ q∈es[j].deletes,Lay.g s.2.1 q≤Lay.g s.2.2 (j:Int))∧∀ p∈es[j].creates,Lay.g s.2.2 (j:Int) < Lay.g s.2.1 p))
  (fun s=>2 * (101 * (n+es.length) - totL s.2.1 s.2.2).toNat+(if s.1=true then 1 else 0)) ?_ ?_ ?_
 ·have hz:∀ (k:Nat) (p:Int),Lay.g (List.replicate k 0) p=0:=by
   intro k p; unfold Lay.g; rw [List.getD_eq_getElem?_getD,List.getElem?_replicate]; split <;> rfl
  rw [Int.toNat_natCast]
  refine ⟨⟨by simp,by simp,fun p _=>by rw [hz]; omega,fun f hf p hp=>by rw [hz]; exact hf.1 p hp,fun i hi=>⟨by rw [hz]; omega,by rw [hz]; exact Lay.m_nn _ _⟩⟩,fun p _=>by rw [hz]; omega,fun i _=>by rw [hz]; omega,fun h=>absurd (show true=false from h) (by decide)⟩
 ·have:totL (List.replicate n 0) (List.replicate es.length 0)=0:=by simp [totL]
  simp only [Int.toNat_natCast,this,if_true,fuel]
  omega
 ·rintro ⟨c,x0,r0⟩ nxt ⟨hI,hx,hr,hs⟩ hn
  cases c with
  | false =>
   rw [cond_false]
   obtain ⟨e1,e2⟩:=hI.done hE hF (hs rfl)
   refine Ok.mk ?_
   rw [e1]
   exact congrArg (·,_) e2
  | true =>
  rw [cond_true]
  refine zcz (zbi (by omega)) ?_
  refine zgf (fun i (s:Bool×List Int×List Int)=>InvL es n s.2.1 s.2.2∧(∀ p,Lay.In n p→Lay.g s.2.1 p≤101)∧(∀ i,i < es.length→Lay.g s.2.2 (i:Int)≤100)∧totL x0 r0≤totL s.2.1 s.2.2∧(s.1=true→totL x0 r0 < totL s.2.1 s.2.2)∧(s.1=false→∀ j (hj:j < es.length),j < i→(∀ q∈es[j].deletes,Lay.g s.2.1 q≤Lay.g s.2.2 (j:Int))∧∀ p∈es[j].creates,Lay.g s.2.2 (j:Int) < Lay.g s.2.1 p)) (Nat.zero_le _) ⟨hI,hx,hr,Int.le_refl _,fun h=>absurd (show false=true from h) Bool.false_ne_true,fun _ j _ h=>by omega⟩ ?_ ?_
  ·rintro i ⟨c,x,r⟩ nxt2 _ hi ⟨hI,hx,hr,ht,hc,hs⟩ hn2
   refine ok_at hi ?_
   obtain ⟨hd,hcr,hdl,hcl⟩:=hE.each _ (List.getElem_mem hi)
   refine zcz (zbi (by omega)) ?_
   have hIn:Lay.In r.length (i:Int):=⟨by omega,by have:=hI.rl; simp only at this; omega⟩
   refine zgf (fun d (s:Bool×List Int)=>InvL es n x s.2∧(∀ j,j < es.length→j≠i→Lay.g s.2 (j:Int)≤100)∧Lay.g s.2 (i:Int)≤101∧totL x r≤totL x s.2∧(s.1=true→c=true∨totL x r < totL x s.2)∧(s.1=false→c=false∧s.2=r)∧∀ k (hk:k < es[i].deletes.length),k < d→Lay.g x es[i].deletes[k]≤Lay.g s.2 (i:Int)) (Nat.zero_le _) ⟨hI,fun j hj _=>hr j hj,by have:=hr i hi; simp only at this ⊢; omega,Int.le_refl _,fun h=>.inl h,fun h=>⟨h,rfl⟩,fun k _ h=>by omega⟩ ?_ ?_
   ·rintro d ⟨c1,r1⟩ nxt3 _ hdd ⟨hI1,hr1,hri,ht1,hc1,hc2,hk1⟩ hn3
    dsimp only at hI hx hr ht hc hs hI1 hr1 hri ht1 hc1 hc2 hk1 ⊢
    have hq:=List.getElem_mem hdd
    have hqn:=hd _ hq
    have hl1:r1.length=es.length:=hI1.rl
    refine ok_at hdd (ok_eq (atZ_g hI.xl hqn) (ok_eq (at_g (show i < r1.length by omega)) ?_))
    refine zbt (fun h=>?_) (fun h=>?_)
    ·have h:=of_decide_eq_true h
     have hset:=fun j (hj:j < es.length)=>Lay.g_set (x:=r1) hl1 (p:=(i:Int)) (q:=(j:Int)) ⟨by omega,by omega⟩ ⟨by omega,by omega⟩ (Lay.g x es[i].deletes[d])
     simp only [Int.toNat_natCast] at hset
     have hsum:=g_sum (x:=r1) hl1 (p:=(i:Int)) ⟨by omega,by omega⟩ (Lay.g x es[i].deletes[d])
     rw [Int.toNat_natCast] at hsum
     have hxq:=hx _ hqn
     have htt:totL x r1 < totL x (r1.set i (Lay.g x es[i].deletes[d])):=by unfold totL; rw [hsum]; omega
     refine hn3 _ ⟨hI1.rule hE hi hq,fun j hj hne=>?_,?_,?_,fun _=>.inr ?_,(fun h=>absurd (show true=false from h) (by decide)),fun k hk hlt=>?_⟩
     ·simp only; rw [hset j hj,if_neg (by omega)]; exact hr1 j hj hne
     ·simp only; rw [hset i hi,if_pos rfl]; exact hxq
     ·simp only; omega
     ·simp only; omega
     ·simp only
      rw [hset i hi,if_pos rfl]
      by_cases hkd:k=d
      ·subst hkd; exact Int.le_refl _
      ·have:=hk1 k hk (by omega); omega
    ·have h:=of_decide_eq_false h
     refine hn3 _ ⟨hI1,hr1,hri,ht1,hc1,hc2,fun k hk hlt=>?_⟩
     by_cases hkd:k=d
     ·subst hkd; simp only; omega
     ·exact hk1 k hk (by omega)
   ·rintro ⟨c1,r1⟩ ⟨hI1,hr1,hri,ht1,hc1,hc2,hk1⟩
    have hl1:r1.length=es.length:=hI1.rl
    simp only at hri ht1 hc1 hc2 hk1
    refine zcz (zbi (by omega)) ?_
    refine zgf (fun d (s:Bool×List Int)=>InvL es n s.2 r1∧(∀ p,Lay.In n p→Lay.g s.2 p≤101∨Lay.g s.2 p≤Lay.g r1 (i:Int)+1)∧totL x r1≤totL s.2 r1∧(s.1=true→c1=true∨totL x r1 < totL s.2 r1)∧(s.1=false→c1=false∧s.2=x)∧∀ k (hk:k < es[i].creates.length),k < d→Lay.g r1 (i:Int) < Lay.g s.2 es[i].creates[k]) (Nat.zero_le _) ⟨hI1,fun p hp=>.inl (hx p hp),Int.le_refl _,fun h=>.inl h,fun h=>⟨h,rfl⟩,fun k _ h=>by omega⟩ ?_ ?_
    ·rintro d ⟨c2,x2⟩ nxt3 _ hdd ⟨hI2,hx2,ht2,hc3,hc4,hk2⟩ hn3
     dsimp only at hI hx hr ht hc hs hI1 hr1 hri ht1 hc1 hc2 hk1 hI2 hx2 ht2 hc3 hc4 hk2 ⊢
     have hp:=List.getElem_mem hdd
     have hpn:=hcr _ hp
     refine ok_at hdd (ok_eq (atZ_g hI2.xl hpn) (ok_eq (at_g (show i < r1.length by omega)) ?_))
     refine zbt (fun h=>?_) (fun h=>?_)
     ·have h:=of_decide_eq_true h
      have hr0:=(hI1.rr i hi).1
      rw [wrapI (by omega)]
      obtain ⟨k1,k2⟩:=hI2.place hE hF hi hp h
      have hset:=fun q (hq:Lay.In n q)=>Lay.g_set (x:=x2) hI2.xl (p:=es[i].creates[d]) (q:=q) hpn hq (Lay.g r1 (i:Int)+1)
      have hsum:=g_sum (x:=x2) hI2.xl hpn (Lay.g r1 (i:Int)+1)
      have htt:totL x2 r1 < totL (x2.set es[i].creates[d].toNat (Lay.g r1 (i:Int)+1)) r1:=by unfold totL; rw [hsum]; omega
      refine hn3 _ ⟨k1,fun q hq=>?_,?_,fun _=>.inr ?_,(fun h=>absurd (show true=false from h) (by decide)),fun k hk hlt=>?_⟩
      ·simp only; rw [hset q hq]
       split
       ·right; omega
       ·exact hx2 q hq
      ·simp only; omega
      ·simp only; omega
      ·simp only
       by_cases hkd:k=d
       ·subst hkd; rw [hset _ hpn,if_pos rfl]; omega
       ·have a:=hk2 k hk (by omega)
        have b:=k2 _ (hcr _ (List.getElem_mem hk))
        omega
     ·have h:=of_decide_eq_false h
      refine hn3 _ ⟨hI2,hx2,ht2,hc3,hc4,fun k hk hlt=>?_⟩
      by_cases hkd:k=d
      ·subst hkd; simp only; omega
      ·exact hk2 k hk (by omega)
    ·rintro ⟨c2,x2⟩ ⟨hI2,hx2,ht2,hc3,hc4,hk2⟩
     simp only at hx2 ht2 hc3 hc4 hk2
     refine ok_eq (at_g (show i < r1.length by omega)) ?_
     refine zbt (fun h=>?_) (fun h=>?_)
     ·have h:=of_decide_eq_true h
      refine Ok.mk ?_
      rw [hI1.big hE hF hi h]
     ·have h:=of_decide_eq_false h
      dsimp only at h ht hc hs hx
      have a1:totL x r1≤totL x2 r1:=ht2
      refine hn2 _ ⟨hI2,fun p hp=>by have:=hx2 p hp; simp only; omega,fun j hj=>?_,by simp only; omega,fun hcc=>?_,fun hcc j hj hlt=>?_⟩
      ·simp only
       by_cases hji:j=i
       ·subst hji; omega
       ·exact hr1 j hj hji
      ·simp only at hcc ⊢
       rcases hc3 hcc with h1 | h1
       ·rcases hc1 h1 with h2 | h2
        ·have:=hc h2; omega
        ·omega
       ·omega
      ·simp only at hcc ⊢
       obtain ⟨h1,h2⟩:=hc4 hcc
       obtain ⟨h3,h4⟩:=hc2 h1
       subst h2; subst h4
       by_cases hji:j=i
       ·subst hji
        refine ⟨fun q hq=>?_,fun p hp=>?_⟩
        ·obtain ⟨k,hk,rfl⟩:=List.mem_iff_getElem.1 hq
         exact hk1 k hk hk
        ·obtain ⟨k,hk,rfl⟩:=List.mem_iff_getElem.1 hp
         exact hk2 k hk hk
       ·exact hs h3 j hj (by omega)
  ·rintro ⟨c,x,r⟩ ⟨hI1,hx1,hr1,ht1,hc1,hs1⟩
   refine hn _ ⟨hI1,hx1,hr1,fun h j hj=>hs1 h j hj hj⟩ ?_
   simp only at ht1 hc1 ⊢
   have hb:totL x r≤101 * (n+es.length):=by
    have b1:=z4v x (fun a ha=>by
     obtain ⟨p,hp,rfl⟩:=g_mem ha
     have e:=hI1.xl
     simp only at e
     exact hx1 p (by rwa [e] at hp))
    have b2:=z4v r (fun a ha=>by
     obtain ⟨i,hi,rfl⟩:=List.mem_iff_getElem.1 ha
     have e:=hI1.rl
     have:=hr1 i (by simp only at e; omega)
     simp only [g_nat hi] at this
     omega)
    have e1:=hI1.xl
    have e2:=hI1.rl
    simp only at e1 e2
    unfold totL
    rw [e1] at b1; rw [e2] at b2
    omega
   cases c with
   | false=>simp only [Bool.false_eq_true,if_false,if_true]; omega
   | true =>
    have:=hc1 rfl
    simp only [if_true]
    omega
end Go.Proofs.YtimojjnmmlhijaaGreat
namespace Go.Proofs.YtimojjnmmlhijaaGreat
open Go.Abs

theorem z74 {α:Type} [Inhabited α] [DecidableEq α] (a b:List α) (h:a.length=b.length):((List.range a.length).all fun i:Nat=>decide (a.getD i default=b.getD i default))=decide (a=b):=by
 rw [Bool.eq_iff_iff,List.all_eq_true,decide_eq_true_eq]
 constructor
 ·intro k
  refine List.ext_getElem h fun i h1 h2=>?_
  have:=of_decide_eq_true (k i (List.mem_range.2 h1))
  rwa [zb6 h1,zb6 h2] at this
 ·rintro rfl i _
  exact decide_eq_true rfl
theorem zkb {a b:List Int} (ha:a.length≤1000000):zca a b=some (decide (a=b)):=by
 unfold zca
 rw [zo (p:=((a.length:Nat):Int)=((b.length:Nat):Int))]
 by_cases h:((a.length:Nat):Int)=((b.length:Nat):Int)
 ·have h':a.length=b.length:=by omega
  rw [if_pos h,chk_t (zbi (by omega))]
  rw [zi4 (n:=a.length) (fun i=>decide (a.getD i default=b.getD i default)) (fun _=>some false) (fun i hi nxt=>by
   rw [zb3 hi,zb3 (show i < b.length by omega),zb6 hi,zb6 (show i < b.length by omega)])]
  rw [zd1,z74 a b h']
  cases decide (a=b) <;> rfl
 ·rw [if_neg h,decide_eq_false (fun e=>h (by rw [e]))]
theorem zrk {a b:List Int} (ha:a.length≤1000000):zf9 a b=some (decide (a=b)):=zkb ha
theorem zbav {t : Types} {rules : List zm} (hF : FewRs t rules) (hG : zq4 t rules) {n : Nat} (hE : EOk (rules.map (effL t)) n) {x : List Int} (hx : x.length = n) (hb : ∀ p, Lay.In n p → 0 ≤ Lay.g x p ∧ Lay.g x p ≤ 1000) :
  zds t rules x=some (rulesL (rules.map (effL t)) x,Lay.FF (EE (rules.map (effL t))) x):=by
 have h32:=hE.n32
 have h6:=hG.six
 unfold zds
 rw [chk_t (by omega),chk_t (zbi (by omega))]
 let step:List Int×List Int→zm→List Int×List Int:=fun s r=>(s.1++[Lay.m (effL t r).deletes x],(effL t r).creates.foldl (fun y p=>y.set p.toNat (max (Lay.g y p) (Lay.m (effL t r).deletes x+1))) s.2)
 have setlen:∀ (v:Int) (l:List Int) (y:List Int),(l.foldl (fun y p=>y.set p.toNat (max (Lay.g y p) v)) y).length=y.length:=by
  intro v l
  induction l with
  | nil=>intro y; rfl
  | cons a l ih=>intro y; rw [List.foldl_cons,ih]; simp
 have e:=zgr (K:=fun s3542:List Int×List Int=>some (s3542.1,s3542.2)) (s:=(([]:List Int),x)) rules step (fun i s=>s.1.length=i∧s.2.length=n) ⟨rfl,hx⟩
  (f:=fun i3542 (s3542:(List Int)×(List Int)) nxts3542 brks3542=>thn (rules[i3542]?) fun e3570=>thn (zcm t e3570) fun r3571=>thn (zdc t e3570) fun r3572=>chk (r3571.length≤fuel) <| forN (fun i3577 (s3577:Int) nxts3577 brks3577=>thn (r3571[i3577]?) fun e3580=>thn (atZ x e3580) fun e3581=>nxts3577 (max s3577 e3581)) (r3571.length - 0) 0 0 fun s3577=>chk (s3542.1.length+1≤68719476736) <| chk (r3572.length≤fuel) <| forN (fun i3590 (s3590:(List Int)) nxts3590 brks3590=>thn (r3572[i3590]?) fun e3594=>thn (atZ s3590 e3594) fun e3595=>nxts3590 (s3590.set e3594.toNat (max e3595 (IntKind.i64.wrap (s3577+1))))) (r3572.length - 0) 0 s3542.2 fun s3590=>nxts3542 ((s3542.1++[s3577]),s3590))
  (fun i hi s hs=>by
   have hm:=List.getElem_mem hi
   have h0:=hG.each _ hm
   have hr:=hF.each _ hm
   obtain ⟨hd,hc,hdl,hcl⟩:=hE.each _ (List.mem_map.2 ⟨_,hm,rfl⟩)
   refine ⟨fun nxt=>?_,by simp [step,hs.1],by simp only [step]; rw [setlen,hs.2]⟩
   rw [zb3 hi,zh (zta hF.types hr h0),zh (z1y hF.types hr h0),chk_t (zbi (by omega))]
   generalize rules[i]=r at hm h0 hr hd hc hdl hcl ⊢
   rw [(zgr (effL t r).deletes (fun (s:Int) q=>max s (Lay.g x q)) (fun _ _=>True) trivial (fun j hj s _=>⟨fun nxt=>by
    rw [zb3 hj,zh (atZ_g hx (hd _ (List.getElem_mem hj)))],trivial⟩)).1]
   rw [show (effL t r).deletes.foldl (fun (s:Int) q=>max s (Lay.g x q)) 0=Lay.m (effL t r).deletes x from rfl]
   have hmb:0≤Lay.m (effL t r).deletes x∧Lay.m (effL t r).deletes x≤1000:=⟨Lay.m_nn _ _,Lay.m_le (by omega) fun q hq=>(hb q (hd q hq)).2⟩
   rw [chk_t (by have:=hs.1; omega),chk_t (zbi (by omega)),wrapI (by omega)]
   rw [(zgr (effL t r).creates (fun (y:List Int) p=>y.set p.toNat (max (Lay.g y p) (Lay.m (effL t r).deletes x+1))) (fun _ y=>y.length=n) hs.2 (fun j hj y hy=>⟨fun nxt=>by
    rw [zb3 hj,zh (atZ_g hy (hc _ (List.getElem_mem hj)))],by simp [hy]⟩)).1])
 rw [e.1]
 have hfold:∀ (l:List zm) (s:List Int×List Int),l.foldl step s=(s.1++l.map (fun r=>Lay.m (effL t r).deletes x),(l.flatMap fun r=>(effL t r).creates.map fun p=>(p,Lay.m (effL t r).deletes x+1)).foldl (fun y u=>y.set u.1.toNat (max (Lay.g y u.1) u.2)) s.2):=by
  intro l
  induction l with
  | nil=>intro s; simp
  | cons a l ih =>
   intro s
   rw [List.foldl_cons,ih]
   simp only [step,List.map_cons,List.flatMap_cons,List.foldl_append,List.foldl_map,List.append_assoc,List.singleton_append]
 rw [hfold]
 simp only [rulesL,Lay.FF,Lay.upd,Lay.ups,EE,List.map_map,List.flatMap_map,List.nil_append,Function.comp_def]
def nT (t:Types):Nat:=t.nodes.length+t.edges.length
theorem zp6 {t:Types} {rules:List zm} (hG:zq4 t rules):EOk (rules.map (effL t)) (nT t):=by
 have h12:=hG.types.n12
 have h20:=hG.types.m20
 refine ⟨by simpa using hG.six,by unfold nT; omega,fun e he=>?_⟩
 obtain ⟨r,hr,rfl⟩:=List.mem_map.1 he
 refine ⟨fun q hq=>(zm5.1 hq).1,fun p hp=>(zm5.1 hp).1,?_,?_⟩
 ·exact Nat.le_trans (zrm _ _ _ _) (by omega)
 ·exact Nat.le_trans (zrm _ _ _ _) (by omega)
theorem wrapT {t:Types} (ht:OkT t):IntKind.i64.wrap (((t.nodes.length:Nat):Int)+((t.edges.length:Nat):Int))=((nT t:Nat):Int):=by
 have h12:=ht.n12
 have h20:=ht.m20
 rw [wrapI (by omega)]; unfold nT; omega
def layG (t:Types) (rules:List zm) (y:List Int):zbr:=⟨rulesL (rules.map (effL t)) y,y.take t.nodes.length,y.drop t.nodes.length⟩
theorem zbcm {t:Types} {rules:List zm} (hF:FewRs t rules) (hG:zq4 t rules):zdq t rules=some (match leastL (rules.map (effL t)) (nT t) with | some y=>(layG t rules y,true) | none=>(⟨[],[],[]⟩,false)):=by
 have hE:=zp6 hG
 have h32:=hE.n32
 have h6:=hG.six
 unfold zdq
 rw [chk_t (zbi (by omega))]
 rw [zcp rules (fun r=>!decide ((((effL t r).deletes.length:Nat):Int)=0)) (fun _=>some ((⟨[],[],[]⟩:zbr),false)) (fun i hi nxt=>by
  have hm:=List.getElem_mem hi
  rw [zb3 hi,zh (zta hF.types (hF.each _ hm) (hG.each _ hm)),zmx])]
 rw [zd1]
 have hall:(rules.all fun r=>!decide ((((effL t r).deletes.length:Nat):Int)=0)) = !noneB (rules.map (effL t)):=by
  unfold noneB; rw [List.any_map,List.not_any_eq_all_not]; rfl
 rw [hall]
 cases hN:noneB (rules.map (effL t)) with
 | true =>
  rw [if_neg (by decide)]
  unfold leastL; rw [if_pos hN]
 | false =>
 rw [if_pos (by decide)]
 have hL:leastL (rules.map (effL t)) (nT t)=Lay.jac (EE (rules.map (effL t))) (nT t+2) (List.replicate (nT t) 0):=by
  unfold leastL; rw [if_neg (by rw [hN]; decide)]
 rw [wrapT hG.types,chk_t ⟨by omega,by omega⟩,Int.toNat_natCast]
 rw [wrapI (n:=((nT t:Nat):Int)+1) (by omega),hL]
 refine Ok.eq ?_
 refine zlw (fun s:List Int×Int=>s.1.length=nT t∧(0≤s.2∧s.2≤nT t+2)∧(∀ p,Lay.In (nT t) p→0≤Lay.g s.1 p∧Lay.g s.1 p≤s.2)∧Lay.jac (EE (rules.map (effL t))) (nT t+2 - s.2.toNat) s.1=Lay.jac (EE (rules.map (effL t))) (nT t+2) (List.replicate (nT t) 0)) (fun s=>(nT t+2 - s.2).toNat) ?_ ?_ ?_
 ·have hz:∀ (k:Nat) (p:Int),Lay.g (List.replicate k 0) p=0:=by
   intro k p; unfold Lay.g; rw [List.getD_eq_getElem?_getD,List.getElem?_replicate]; split <;> rfl
  exact ⟨by simp,⟨by simp only; omega,by simp only; omega⟩,fun p _=>by rw [hz]; simp only; omega,rfl⟩
 ·simp only [fuel]; omega
 ·rintro ⟨x,k⟩ nxt ⟨hx,hk,hb,hj⟩ hn
  dsimp only at hx hk hb hj ⊢
  refine zbt (fun h=>?_) (fun h=>?_)
  ·have h:=of_decide_eq_true h
   have hr:=zbav hF hG hE hx (fun p hp=>by have:=hb p hp; omega)
   refine ok_eq (show zds ⟨t.nodes,t.edges⟩ rules x=_ from hr) ?_
   refine ok_eq (zkb (by omega)) ?_
   obtain ⟨m,hm⟩:∃ m,nT t+2 - k.toNat=m+1:=⟨nT t+2 - k.toNat - 1,by omega⟩
   rw [hm,Lay.jac] at hj
   by_cases he:x=Lay.FF (EE (rules.map (effL t))) x
   ·refine ok_t (decide_eq_true he) ?_
    rw [if_pos he] at hj
    have hnl:t.nodes.length≤x.length:=by rw [hx]; unfold nT; omega
    refine zcz (by omega) (zcz (by omega) ?_)
    refine Ok.mk ?_
    rw [← hj]; rfl
   ·refine ok_f (decide_eq_false he) ?_
    rw [if_neg he] at hj
    rw [wrapI (by omega)]
    refine hn _ ⟨by dsimp only; rw [Lay.FF_len,hx],⟨by dsimp only; omega,by dsimp only; omega⟩,fun p hp=>?_,?_⟩ (by dsimp only; omega)
    ·dsimp only
     have h1:=Lay.FF_ge hE.ok hx hp
     have h2:=hb p hp
     refine ⟨by omega,?_⟩
     rcases Lay.FF_at hE.ok hx hp with h3 | ⟨e,he,_,h3⟩
     ·omega
     ·rw [h3]
      have:=Lay.m_le (D:=e.1) (x:=x) (b:=k) (by omega) fun q hq=>(hb q ((hE.ok e he).1 q hq)).2
      omega
    ·dsimp only
     rw [show nT t+2 - (k+1).toNat=m by omega]; exact hj
  ·have h:=of_decide_eq_false h
   refine Ok.mk ?_
   rw [show nT t+2 - k.toNat=0 by omega,Lay.jac] at hj
   rw [← hj]
noncomputable def findR (t:Types) (rules:List zm):zbr×Int:=if givenE t rules=0 then (match leastL (rules.map (effL t)) (nT t) with | some y=>(layG t rules y,0) | none=>(⟨[],[],[]⟩,10)) else (⟨[],[],[]⟩,givenE t rules)
theorem zbdr {t:Types} {rules:List zm} (hF:FewRs t rules):zdx t rules=some (findR t rules):=by
 unfold zdx findR
 rw [zh (zbbt hF),zo (p:=givenE t rules=0)]
 by_cases h:¬ (givenE t rules=0)
 ·rw [if_neg h,if_neg h]
 have h:=Decidable.of_not_not h
 rw [if_pos h,if_pos h,zh (show zdq ⟨t.nodes,t.edges⟩ rules=_ from zbcm hF (ziz hF h))]
 cases leastL (rules.map (effL t)) (nT t) <;> rfl
theorem zoi {es:List zl} {n:Nat} (hE:EOk es n) {y:List Int} (h:leastL es n=some y):y.length=n∧noneB es=false∧y=Lay.FF (EE es) y∧(∀ p,Lay.In n p→0≤Lay.g y p∧Lay.g y p < n):=by
 unfold leastL at h
 split at h
 ·cases h
 ·rename_i hN
  have hN:noneB es=false:=by simpa using hN
  have hz:∀ (k:Nat) (p:Int),Lay.g (List.replicate k 0) p=0:=by
   intro k p; unfold Lay.g; rw [List.getD_eq_getElem?_getD,List.getElem?_replicate]; split <;> rfl
  obtain ⟨q1,q2,q3,q4⟩:=Lay.jac_least hE.ok (znw hN) _ _ _ (by simp) (fun p _=>by rw [hz]; omega) h
  refine ⟨q1,hN,q3,fun p hp=>⟨q2 p hp,?_⟩⟩
  obtain ⟨f,f1,f2⟩:=Lay.sol_small hE.ok (Lay.fix_sol hE.ok q1 q2 q3)
  have:=q4 f f1 (fun p hp=>by rw [hz]; exact f1.1 p hp) p hp
  have:=f2 p hp
  omega
theorem zx5 {t:Types} {rules:List zm} (hF:FewRs t rules):zdl t rules=some (findR t rules):=by
 unfold zdl findR
 rw [zh (zt8 hF)]
 by_cases h:¬ (givenE t rules=0)
 ·rw [if_neg h,if_neg h,zo (p:=givenE t rules=0),if_neg h]
 have h:=Decidable.of_not_not h
 have hG:=ziz hF h
 have hE:=zp6 hG
 rw [if_pos h,if_pos h,decide_eq_true rfl,cond_true,wrapT hG.types,zh (zbes hE)]
 cases hL:leastL (rules.map (effL t)) (nT t) with
 | none=>rfl
 | some y =>
  have hy:=(zoi hE hL).1
  have:t.nodes.length≤y.length:=by rw [hy]; unfold nT; omega
  dsimp only
  rw [cond_true,chk_t ⟨by omega,by omega,by omega,by omega⟩,chk_t ⟨by omega,by omega,by omega⟩]
  rfl
end Go.Proofs.YtimojjnmmlhijaaGreat
namespace Go.Proofs.YtimojjnmmlhijaaGreat
open Go.Abs

def inR (x:Int):Bool:=!(decide (x < 0) || decide (100 < x))
theorem zp7 {l:List Int} (hl:l.length≤1000000) (n:Int):zee l n=some (decide (((l.length:Nat):Int)=n) && l.all inR):=by
 unfold zee
 rw [zo (p:=((l.length:Nat):Int)=n)]
 by_cases h:((l.length:Nat):Int)=n
 ·rw [if_pos h,decide_eq_true h,Bool.true_and]
  rw [zh (zcl (p:=fun x=>zeh x) (fun x=>decide (x < 0) || decide (100 < x)) hl (fun x _=>by
   unfold zeh
   cases decide (x < 0) <;> rfl))]
  rw [List.not_any_eq_all_not]; rfl
 ·rw [if_neg h,decide_eq_false h,Bool.false_and]
theorem forN2 {σ O:Type} (f:Nat→σ→(σ→Option O)→(σ→Option O)→Option O) (i:Nat) (s:σ) (K:σ→Option O):forN f 2 i s K=f i s (fun s'=>f (i+1) s' (fun s''=>K s'') K) K:=rfl
theorem z9l {x y:List Int} (h:x.length≤1000∧y.length≤1000):zfv [x,y]=some (x++y):=by
 refine Ok.eq ?_
 unfold zfv
 refine zcz (by unfold fuel; simp) ?_
 show Ok (forN _ 2 0 0 _) _
 rw [forN2]
 refine ok_eq (r:=x) rfl ?_
 rw [wrapI (by omega)]
 refine ok_f (decide_eq_false (by omega)) ?_
 refine ok_eq (r:=y) rfl ?_
 rw [wrapI (by omega)]
 refine ok_f (decide_eq_false (by omega)) ?_
 refine ok_eq (r:=[]) (giv_t ⟨rfl,by omega,by omega⟩) ?_
 refine zcz (by unfold fuel; simp) ?_
 show Ok (forN _ 2 0 [] _) _
 rw [forN2]
 refine ok_eq (r:=x) rfl ?_
 refine zcz (by simp; omega) ?_
 refine ok_eq (r:=y) rfl ?_
 refine zcz (by simp; omega) ?_
 exact .mk rfl
def okI (es:List zl) (r c:List Int) (i:Nat):Bool:=!decide ((((es.getD i ⟨[],[]⟩).deletes.length:Nat):Int)=0) && (!((es.getD i ⟨[],[]⟩).deletes.any fun q=>decide (Lay.g r (i:Int) < Lay.g c q)) && !((es.getD i ⟨[],[]⟩).creates.any fun p=>decide (Lay.g c p≤Lay.g r (i:Int))))
def checkL (t:Types) (rules:List zm) (L:zbr):Bool:=((decide (((L.rules.length:Nat):Int)=((rules.length:Nat):Int)) && L.rules.all inR) && ((decide (((L.nodes.length:Nat):Int)=((t.nodes.length:Nat):Int)) && L.nodes.all inR) && (decide (((L.edges.length:Nat):Int)=((t.edges.length:Nat):Int)) && L.edges.all inR))) && (List.range rules.length).all (okI (rules.map (effL t)) L.rules (L.nodes++L.edges))
noncomputable def checkB (t:Types) (rules:List zm) (L:zbr):Bool:=decide (givenE t rules=0) && checkL t rules L
structure zx1 (L:zbr):Prop where
 rules:L.rules.length≤1000000
 nodes:L.nodes.length≤1000000
 edges:L.edges.length≤1000000
theorem zp2 {t:Types} {rules:List zm} {i:Nat} (h:i < rules.length):(rules.map (effL t)).getD i ⟨[],[]⟩=effL t rules[i]:=by
 simp [h]
theorem zbc5 {t:Types} {rules:List zm} (hF:FewRs t rules) {L:zbr} (hL:zx1 L):zf1 t rules L=some (checkB t rules L):=by
 have hl1:=hL.rules
 have hl2:=hL.nodes
 have hl3:=hL.edges
 unfold zf1 checkB checkL
 rw [zh (zt8 hF)]
 by_cases h:¬ (givenE t rules=0)
 ·rw [if_neg h,zo (p:=givenE t rules=0),if_neg h,decide_eq_false h,Bool.false_and]
 have h:=Decidable.of_not_not h
 have hG:=ziz hF h
 have hE:=zp6 hG
 have h6:=hG.six
 rw [if_pos h,decide_eq_true rfl,cond_true,decide_eq_true h,Bool.true_and,zh (zp7 hl1 _)]
 by_cases h1:¬ ((decide (((L.rules.length:Nat):Int)=((rules.length:Nat):Int)) && L.rules.all inR)=true)
 ·rw [Bool.not_eq_true] at h1; rw [h1]; rfl
 have h1:=Decidable.of_not_not h1
 rw [h1,cond_true,Bool.true_and,zh (zp7 hl2 _)]
 by_cases h2:¬ ((decide (((L.nodes.length:Nat):Int)=((t.nodes.length:Nat):Int)) && L.nodes.all inR)=true)
 ·rw [Bool.not_eq_true] at h2; rw [h2]; rfl
 have h2:=Decidable.of_not_not h2
 rw [h2,cond_true,Bool.true_and,zh (zp7 hl3 _)]
 by_cases h3:¬ ((decide (((L.edges.length:Nat):Int)=((t.edges.length:Nat):Int)) && L.edges.all inR)=true)
 ·rw [Bool.not_eq_true] at h3; rw [h3]; rfl
 have h3:=Decidable.of_not_not h3
 rw [h3,cond_true,Bool.true_and]
 have e1:L.rules.length=rules.length:=by have:=of_decide_eq_true (Bool.and_eq_true _ _ ▸ h1).1; omega
 have e2:(L.nodes++L.edges).length=nT t:=by
  have a:=of_decide_eq_true (Bool.and_eq_true _ _ ▸ h2).1
  have b:=of_decide_eq_true (Bool.and_eq_true _ _ ▸ h3).1
  rw [List.length_append]; unfold nT; omega
 have h32:=hE.n32
 rw [List.length_append] at e2
 rw [zh (z9l (x:=L.nodes) (y:=L.edges) ⟨by omega,by omega⟩)]
 rw [← List.length_append] at e2
 dsimp only
 rw [chk_t (zbi (by rw [List.length_map]; omega)),List.length_map]
 rw [zi4 (n:=rules.length) (okI (rules.map (effL t)) L.rules (L.nodes++L.edges)) (fun _=>some false) (fun i hi nxt=>by
  have hm:=List.getElem_mem hi
  obtain ⟨hd,hc,hdl,hcl⟩:=hE.each _ (List.mem_map.2 ⟨_,hm,rfl⟩)
  rw [zb3 (show i < (rules.map (effL t)).length by simpa using hi),List.getElem_map]
  unfold okI
  rw [zp2 hi]
  have hri:Lay.In L.rules.length (i:Int):=⟨by omega,by omega⟩
  generalize rules[i]=r at hd hc hdl hcl ⊢
  by_cases c1:(((effL t r).deletes.length:Nat):Int)=0
  ·rw [decide_eq_true c1]; rfl
  rw [decide_eq_false c1,cond_false,Bool.not_false,Bool.true_and]
  rw [zh (zcl (p:=fun x=>zfe x (L.nodes++L.edges) L ((i:Nat):Int)) (fun q=>decide (Lay.g L.rules (i:Int) < Lay.g (L.nodes++L.edges) q)) (by omega) (fun q hq=>by
   unfold zfe
   rw [zh (atZ_g e2 (hd q hq)),zh (atZ_g rfl hri)]))]
  cases (effL t r).deletes.any (fun q=>decide (Lay.g L.rules (i:Int) < Lay.g (L.nodes++L.edges) q)) with
  | true=>rfl
  | false =>
  rw [cond_false,Bool.not_false,Bool.true_and]
  rw [zh (zcl (p:=fun x=>ze4 x (L.nodes++L.edges) L ((i:Nat):Int)) (fun q=>decide (Lay.g (L.nodes++L.edges) q≤Lay.g L.rules (i:Int))) (by omega) (fun q hq=>by
   unfold ze4
   rw [zh (atZ_g e2 (hc q hq)),zh (atZ_g rfl hri)]))]
  cases (effL t r).creates.any (fun q=>decide (Lay.g (L.nodes++L.edges) q≤Lay.g L.rules (i:Int))) <;> rfl)]
 rw [zd1]
 cases (List.range rules.length).all (okI (rules.map (effL t)) L.rules (L.nodes++L.edges)) <;> rfl
theorem zpw {y:List Int} {n:Nat} (h:∀ a∈y,inR a=true):(y.take n).all inR=true∧(y.drop n).all inR=true :=
 ⟨List.all_eq_true.2 fun a ha=>h a (List.mem_of_mem_take ha),List.all_eq_true.2 fun a ha=>h a (List.mem_of_mem_drop ha)⟩
theorem zzc {t:Types} {rules:List zm} (hF:FewRs t rules) (h:givenE t rules=0) {y:List Int} (hy:leastL (rules.map (effL t)) (nT t)=some y):checkB t rules (layG t rules y)=true:=by
 have hG:=ziz hF h
 have hE:=zp6 hG
 have h32:=hE.n32
 obtain ⟨hl,hN,hf,hb⟩:=zoi hE hy
 have hin:∀ a∈y,inR a=true:=by
  intro a ha
  obtain ⟨p,hp,rfl⟩:=g_mem ha
  have:=hb p (by rwa [hl] at hp)
  unfold inR
  rw [decide_eq_false (by omega),decide_eq_false (by omega)]; rfl
 have hS:=Lay.fix_sol hE.ok hl (fun p hp=>(hb p hp).1) hf
 unfold checkB checkL layG
 rw [decide_eq_true h,Bool.true_and]
 have a1:(rulesL (rules.map (effL t)) y).length=rules.length:=by simp [rulesL]
 have a2:(y.take t.nodes.length).length=t.nodes.length:=by rw [List.length_take,hl]; unfold nT; omega
 have a3:(y.drop t.nodes.length).length=t.edges.length:=by rw [List.length_drop,hl]; unfold nT; omega
 dsimp only
 rw [a1,a2,a3,decide_eq_true rfl,decide_eq_true rfl,decide_eq_true rfl,(zpw hin).1,(zpw hin).2,List.take_append_drop]
 have a4:(rulesL (rules.map (effL t)) y).all inR=true:=by
  refine List.all_eq_true.2 fun a ha=>?_
  unfold rulesL at ha
  obtain ⟨e,he,rfl⟩:=List.mem_map.1 ha
  have b1:=Lay.m_nn e.deletes y
  have b2:Lay.m e.deletes y≤32:=Lay.m_le (by omega) fun q hq=>by have:=hb q ((hE.each e he).1 q hq); omega
  unfold inR
  rw [decide_eq_false (by omega),decide_eq_false (by omega)]; rfl
 rw [a4]
 simp only [Bool.true_and]
 refine List.all_eq_true.2 fun i hi=>?_
 have hi:=List.mem_range.1 hi
 have hm:=List.getElem_mem hi
 have hme:effL t rules[i]∈rules.map (effL t):=List.mem_map.2 ⟨_,hm,rfl⟩
 have hr:Lay.g (rulesL (rules.map (effL t)) y) (i:Int)=Lay.m (effL t rules[i]).deletes y:=by
  rw [g_nat (by omega)]; simp [rulesL]
 unfold okI
 rw [zp2 hi,hr]
 obtain ⟨hd,hc,hdl,hcl⟩:=hE.each _ hme
 have b0:¬ ((((effL t rules[i]).deletes.length:Nat):Int)=0):=by
  intro h0
  have:noneB (rules.map (effL t))=true:=List.any_eq_true.2 ⟨_,hme,decide_eq_true h0⟩
  rw [hN] at this; cases this
 have b1:((effL t rules[i]).deletes.any fun q=>decide (Lay.m (effL t rules[i]).deletes y < Lay.g y q))=false:=by
  refine List.any_eq_false.2 fun q hq=>?_
  have:=Lay.m_ge (x:=y) hq
  simp only [decide_eq_true_eq]; omega
 have b2:((effL t rules[i]).creates.any fun p=>decide (Lay.g y p≤Lay.m (effL t rules[i]).deletes y))=false:=by
  refine List.any_eq_false.2 fun p hp=>?_
  have:=Lay.mx_lt hE.ok (znw hN) hS (List.mem_map.2 ⟨_,hme,rfl⟩) (x:=y) (fun _ _=>Int.le_refl _) (p:=p) hp
  simp only [decide_eq_true_eq] at this ⊢; omega
 rw [b1,b2,decide_eq_false b0]; rfl
end Go.Proofs.YtimojjnmmlhijaaGreat
namespace Go.Proofs.YtimojjnmmlhijaaGreat
open Go.Abs

structure FitT (t:Types):Prop where
 attrs:∀ n∈t.nodes,n.attrs.length≤1125899906842624
theorem zbe7 {t:Types} (hm:FitT t):Ok (ze8 t) (fun b=>b=true→FewT t):=by
 have no:Ok (some false) (fun b=>b=true→FewT t):=Ok.mk (fun h=>absurd h (by decide))
 unfold ze8
 refine zbt (fun _=>no) (fun h1=>zbt (fun _=>no) (fun h2=>?_))
 have h1:=of_decide_eq_false h1
 have h2:=of_decide_eq_false h2
 refine zcz (zbi (by omega)) ?_
 refine zgf (fun i (s:Int)=>(0≤s∧s≤30)∧∀ j,j < i→(t.nodes.getD j default).attrs.length≤30∧(t.nodes.getD j default).name.size≤40∧∀ a∈(t.nodes.getD j default).attrs,a.name.size≤40∧a.names.length≤25∧∀ s∈a.names,s.size≤40) (Nat.zero_le _) ⟨⟨by omega,by omega⟩,fun j hj=>absurd hj (Nat.not_lt_zero j)⟩ ?_ ?_
 ·rintro i s nxt _ hi ⟨hs,hq⟩ hn
  have hA:=hm.attrs _ (List.getElem_mem hi)
  refine ok_at hi ?_
  rw [wrapI (by omega)]
  refine zbt (fun _=>no) (fun h3=>zbt (fun _=>no) (fun h4=>?_))
  have h3:=of_decide_eq_false h3
  have h4:=of_decide_eq_false h4
  refine zcz (zbi (by omega)) ?_
  refine zgf (fun k (_:Unit)=>∀ j,j < k→((t.nodes[i].attrs.getD j default).name.size≤40∧(t.nodes[i].attrs.getD j default).names.length≤25∧∀ s∈(t.nodes[i].attrs.getD j default).names,s.size≤40)) (Nat.zero_le _) (fun j hj=>absurd hj (Nat.not_lt_zero j)) ?_ ?_
  ·rintro k _ nxt2 _ hk hq2 hn2
   refine ok_at hk (zbt (fun _=>no) (fun h5=>zbt (fun _=>no) (fun h6=>?_)))
   have h5:=of_decide_eq_false h5
   have h6:=of_decide_eq_false h6
   refine zcz (zbi (by omega)) ?_
   refine zgf (fun m (_:Unit)=>∀ j,j < m→(t.nodes[i].attrs[k].names.getD j default).size≤40) (Nat.zero_le _) (fun j hj=>absurd hj (Nat.not_lt_zero j)) ?_ ?_
   ·rintro m _ nxt3 _ hm3 hq3 hn3
    refine ok_at hm3 (zbt (fun _=>no) (fun h7=>hn3 _ fun j hj=>?_))
    have h7:=of_decide_eq_false h7
    rcases Nat.lt_succ_iff_lt_or_eq.1 hj with h | h
    ·exact hq3 j h
    ·subst h; rw [zb6 hm3]; omega
   ·rintro _ hq3
    refine hn2 _ fun j hj=>?_
    rcases Nat.lt_succ_iff_lt_or_eq.1 hj with h | h
    ·exact hq2 j h
    ·subst h
     rw [zb6 hk]
     refine ⟨by omega,by omega,fun s hs=>?_⟩
     obtain ⟨j,hj,rfl⟩:=memD hs
     exact hq3 j hj
  ·rintro _ hq2
   refine hn _ ⟨⟨by omega,by omega⟩,fun j hj=>?_⟩
   rcases Nat.lt_succ_iff_lt_or_eq.1 hj with h | h
   ·exact hq j h
   ·subst h
    rw [zb6 hi]
    refine ⟨by omega,by omega,fun a ha=>?_⟩
    obtain ⟨j,hj,rfl⟩:=memD ha
    exact hq2 j hj
 ·rintro s ⟨_,hq⟩
  refine zcz (zbi (by omega)) ?_
  refine zgf (fun k (_:Unit)=>∀ j,j < k→(t.edges.getD j default).name.size≤40) (Nat.zero_le _) (fun j hj=>absurd hj (Nat.not_lt_zero j)) ?_ ?_
  ·rintro k _ nxt2 _ hk hq2 hn2
   refine ok_at hk (zbt (fun _=>no) (fun h5=>hn2 _ fun j hj=>?_))
   have h5:=of_decide_eq_false h5
   rcases Nat.lt_succ_iff_lt_or_eq.1 hj with h | h
   ·exact hq2 j h
   ·subst h; rw [zb6 hk]; omega
  ·rintro _ hq2
   have hall:∀ n∈t.nodes,n.attrs.length≤30∧n.name.size≤40∧∀ a∈n.attrs,a.name.size≤40∧a.names.length≤25∧∀ s∈a.names,s.size≤40:=fun n hn=>by
    obtain ⟨j,hj,rfl⟩:=memD hn
    exact hq j hj
   exact Ok.mk fun _=>⟨by omega,by omega,fun n hn=>(hall n hn).1,fun n hn=>(hall n hn).2.1,fun n hn a ha=>((hall n hn).2.2 a ha).1,fun n hn a ha=>((hall n hn).2.2 a ha).2.1,fun n hn a ha=>((hall n hn).2.2 a ha).2.2,fun e he=>by
    obtain ⟨j,hj,rfl⟩:=memD he
    exact hq2 j hj⟩
theorem zbe1 (g:Graph):Ok (zfb g) (fun b=>b=true→FewG g):=by
 unfold zfb
 refine zbt (fun h1=>Ok.mk fun h2=>?_) (fun _=>Ok.mk fun h=>absurd h (by decide))
 have h1:=of_decide_eq_true h1
 have h2:=of_decide_eq_true h2
 exact ⟨by omega,by omega⟩
theorem zwk (p:zx):Ok (zdj p) (fun b=>b=true→FewP p):=by
 unfold zdj
 refine zj4 (zbe1 p.graph) fun b hb=>?_
 refine zbt (fun h0=>zbt (fun h1=>Ok.mk fun h2=>?_) (fun _=>Ok.mk fun h=>absurd h (by decide))) (fun _=>Ok.mk fun h=>absurd h (by decide))
 have h1:=of_decide_eq_true h1
 have h2:=of_decide_eq_true h2
 exact ⟨hb h0,by omega,by omega⟩
def FitM (a b:List Int):Prop:=a.length≤1125899906842624∧b.length≤1125899906842624
theorem z7i (p:zcr) (h:FitM p.nodes p.edges):zfc p 140=some (decide (p.nodes.length+p.edges.length≤140)):=by
 have:=h.1; have:=h.2
 unfold zfc
 rw [wrapI (by omega)]
 congr 1
 rw [Bool.eq_iff_iff,decide_eq_true_eq,decide_eq_true_eq]; omega
theorem zxy (p:zbo) (h:FitM p.nodes p.edges):zd5 p 140=some (decide (p.nodes.length+p.edges.length≤140)):=by
 have:=h.1; have:=h.2
 unfold zd5
 rw [wrapI (by omega)]
 congr 1
 rw [Bool.eq_iff_iff,decide_eq_true_eq,decide_eq_true_eq]; omega
inductive CFit:zi→Prop
 | mk (c:zi):FitM c.map.nodes c.map.edges→(∀ k∈c.kids,CFit k)→CFit c
theorem CFit.map {c:zi} (h:CFit c):FitM c.map.nodes c.map.edges:=by cases h; assumption
theorem CFit.kids {c:zi} (h:CFit c):∀ k∈c.kids,CFit k:=by cases h; assumption
theorem z6t (l:List zi):cFewL l↔∀ k∈l,cFew k:=by
 induction l with
 | nil=>rw [cFewL]; simp
 | cons a l ih=>rw [cFewL,ih]; simp
theorem zvp (l m:List zi):cSizeL (l++m)=cSizeL l+cSizeL m:=by
 induction l with
 | nil=>rw [List.nil_append,cSizeL]; omega
 | cons a l ih=>rw [List.cons_append,cSizeL,cSizeL,ih]; omega
theorem zbfm:∀ (n:Nat) (c:zi) (most:Int),CFit c→0≤most→most≤1000→most < n→Ok (zdy n c most) (fun v=>(-1≤v∧v≤most - 1)∧(0≤v→cFew c∧(cSize c:Int)≤most - v)):=by
 intro n
 induction n with
 | zero=>intro c most _ h0 _ h; omega
 | succ n ih =>
  intro c most hc h0 h1 h2
  have no:Ok (some (-1:Int)) (fun v=>(-1≤v∧v≤most - 1)∧(0≤v→cFew c∧(cSize c:Int)≤most - v)):=Ok.mk ⟨⟨by omega,by omega⟩,fun h=>by omega⟩
  rw [zdy]
  refine zj4 (zwk c.pattern) fun b hb=>zbt (fun h3=>?_) (fun _=>no)
  refine ok_eq (zxy c.map hc.map) (zbt (fun h4=>?_) (fun _=>no))
  have h4:=of_decide_eq_true h4
  rw [wrapI (by omega)]
  have fin:∀ s:Int×Int,(-1≤s.1∧s.1≤most - 1)→(0≤s.1→(∀ k∈c.kids,cFew k)∧(cSizeL c.kids:Int)≤most - 1 - s.1)→Ok (some s.1) (fun v=>(-1≤v∧v≤most - 1)∧(0≤v→cFew c∧(cSize c:Int)≤most - v)):=fun s hs hk=>Ok.mk ⟨hs,fun h=>by
   obtain ⟨k1,k2⟩:=hk h
   refine ⟨?_,by rw [zop]; omega⟩
   have:=hb h3
   cases c
   rw [cFew]
   exact ⟨this,h4,(z6t _).2 k1⟩⟩
  refine zlw (fun s:Int×Int=>(-1≤s.1∧s.1≤most - 1 - s.2)∧(0≤s.2∧s.2≤c.kids.length)∧(0≤s.1→(∀ k∈c.kids.take s.2.toNat,cFew k)∧(cSizeL (c.kids.take s.2.toNat):Int)≤most - 1 - s.1)) (fun s=>(most+5 - s.2).toNat) ⟨⟨by dsimp only; omega,by dsimp only; omega⟩,⟨by dsimp only; omega,by dsimp only; omega⟩,fun h=>⟨fun k hk=>by simp at hk,by
   have:cSizeL (c.kids.take (0:Int).toNat)=0:=by rw [Int.toNat_zero,List.take_zero,cSizeL]
   dsimp only at h ⊢; rw [this]; omega⟩⟩ (by dsimp only; unfold fuel; omega) ?_
  rintro ⟨v,i⟩ nxt ⟨hv,hi,hk⟩ hn
  dsimp only at hv hi hk ⊢
  refine zbt (fun h5=>zbt (fun h6=>?_) (fun h6=>?_)) (fun h5=>?_)
  ·have h5:=of_decide_eq_true h5
   have h6:=of_decide_eq_true h6
   have hlt:i.toNat < c.kids.length:=by omega
   obtain ⟨k1,k2⟩:=hk h6
   refine zi2 hi.1 hlt ?_
   refine zj4 (ih _ v (hc.kids _ (List.getElem_mem hlt)) h6 (by omega) (by omega)) ?_
   rintro v2 ⟨hv2,hk2⟩
   rw [wrapI (by omega)]
   refine hn _ ⟨⟨by dsimp only; omega,by dsimp only; omega⟩,⟨by dsimp only; omega,by dsimp only; omega⟩,fun h7=>?_⟩ (by dsimp only; omega)
   dsimp only at h7 ⊢
   obtain ⟨k3,k4⟩:=hk2 h7
   have e:c.kids.take (i+1).toNat=c.kids.take i.toNat++[c.kids[i.toNat]]:=by
    rw [show (i+1).toNat=i.toNat+1 by omega,List.take_add_one,List.getElem?_eq_getElem hlt]; rfl
   rw [e,zvp,cSizeL,cSizeL]
   refine ⟨fun k hk=>?_,by omega⟩
   rcases List.mem_append.1 hk with hk | hk
   ·exact k1 k hk
   ·rw [List.mem_singleton.1 hk]; exact k3
  ·have h6:=of_decide_eq_false h6
   exact fin (v,i) ⟨hv.1,by dsimp only; omega⟩ fun h=>by dsimp only at h; omega
  ·have h5:=of_decide_eq_false h5
   refine fin (v,i) ⟨hv.1,by dsimp only; omega⟩ fun h=>?_
   have:=hk h
   rwa [List.take_of_length_le (by omega)] at this
structure FitR (r:zm):Prop where
 keep:FitM r.keep.nodes r.keep.edges
 into:FitM r.into.nodes r.into.edges
 cond:CFit r.condition
theorem z4i {r:zm} (h:FitR r):Ok (zfh r) (fun b=>b=true→FewR r):=by
 have no:Ok (some false) (fun b=>b=true→FewR r):=Ok.mk (fun h=>absurd h (by decide))
 unfold zfh
 refine zbt (fun h1=>?_) (fun _=>no)
 have h1:=of_decide_eq_true h1
 refine zj4 (zwk r.left) fun b2 hb2=>zbt (fun h2=>?_) (fun _=>no)
 refine zj4 (zwk r.right) fun b3 hb3=>zbt (fun h3=>?_) (fun _=>no)
 refine ok_eq (z7i r.keep h.keep) (zbt (fun h4=>?_) (fun _=>no))
 refine ok_eq (zxy r.into h.into) (zbt (fun h5=>?_) (fun _=>no))
 have h4:=of_decide_eq_true h4
 have h5:=of_decide_eq_true h5
 unfold zge
 refine zj4 (Q:=fun b=>b=true→FewR r) (R:=fun b=>b=true→cFew r.condition∧cSize r.condition≤1000) ?_ fun b6 hb6=>Ok.mk fun h6=>?_
 ·refine zj4 (zbfm fuel r.condition 40 h.cond (by omega) (by omega) (by unfold fuel; omega)) ?_
  rintro v ⟨_,hv⟩
  refine Ok.mk fun h6=>?_
  have h6:=of_decide_eq_true h6
  obtain ⟨k1,k2⟩:=hv h6
  exact ⟨k1,by omega⟩
 ·obtain ⟨k1,k2⟩:=hb6 h6
  exact ⟨⟨by omega,hb2 h2,hb3 h3,h4,h5⟩,k1,k2⟩
theorem l_Few {t:Types} {rules:List zm} (h1:FitT t) (h2:∀ r∈rules,FitR r):Ok (zd6 t rules) (fun b=>b=true→FewRs t rules):=by
 have no:Ok (some false) (fun b=>b=true→FewRs t rules):=Ok.mk (fun h=>absurd h (by decide))
 unfold zd6
 refine zj4 (zbe7 h1) fun b hb=>zbt (fun h3=>?_) (fun _=>no)
 refine zbt (fun _=>no) (fun h4=>?_)
 have h4:=of_decide_eq_false h4
 refine zcz (zbi (by omega)) ?_
 refine zgf (fun i (_:Unit)=>∀ j (hj:j < rules.length),j < i→FewR rules[j]) (Nat.zero_le _) (fun j _ hj=>absurd hj (Nat.not_lt_zero j)) ?_ ?_
 ·rintro i _ nxt _ hi hq hn
  refine ok_at hi (zj4 (z4i (h2 _ (List.getElem_mem hi))) fun b2 hb2=>zbt (fun h5=>hn _ fun j hj hlt=>?_) (fun _=>no))
  rcases Nat.lt_succ_iff_lt_or_eq.1 hlt with h | h
  ·exact hq j hj h
  ·subst h; exact hb2 h5
 ·rintro _ hq
  exact Ok.mk fun _=>⟨hb h3,by omega,fun r hr=>by
   obtain ⟨j,hj,rfl⟩:=List.mem_iff_getElem.1 hr
   exact hq j hj hj⟩
end Go.Proofs.YtimojjnmmlhijaaGreat
namespace Go.Proofs.YtimojjnmmlhijaaGreat
open Go.Abs

theorem zse {t:Types} {r:zm} (ht:FewT t) (hv:(validT t).2=0) (hr:FewR r) (h1:nameB r.name=true) (h2:patE t r.left=0) (h3:rightE t r=0) (h4:zb5 r=some 0) (h5:r.into.nodes.Nodup) (h6:r.into.edges.Nodup) (h7:makeB t r.right.graph (madeN r) (madeE r)=true) (h8:zcj t r.left r.condition=some 0):ruleE t r=0:=by
 have hb:=hr.base
 have hT:=okTypes ht hv
 have hi:=hb.into
 obtain ⟨g1,g2⟩:=z0j h2
 obtain ⟨g3,g4⟩:=zup h3
 have hrn:=hb.right.graph.nodes
 have hre:=hb.right.graph.edges
 have l1:=zhu r.right.graph.nodes.length r.into.nodes
 have l2:=zhu r.right.graph.edges.length r.into.edges
 obtain ⟨m1,m2⟩:=zvf ht g3 g4 (nodes:=madeN r) (edges:=madeE r) ziw ziw (by unfold madeN; omega) (by unfold madeE; omega)
 rw [h7] at m2
 have key:zb1 t r=some 0:=by
  unfold zb1
  rw [zh (zhj ht),zo (p:=(validT t).2=0),if_pos hv,zh (zve (by have:=hb.name; omega)),h1,cond_true,zh (zf7 ht hb.left),zo (p:=patE t r.left=0),if_pos h2,zh (zo8 (r:=r) hT hb),zo (p:=rightE t r=0),if_pos h3]
  rw [zh (show zb5 ⟨r.name,r.left,r.right,r.keep,r.into,r.injective,r.condition⟩=_ from h4),decide_eq_true rfl,cond_true,zh (zi6 (by omega)),decide_eq_true h5,cond_true,zh (zi6 (by omega)),decide_eq_true h6,cond_true]
  rw [zh (show zcd ⟨r.name,r.left,r.right,r.keep,r.into,r.injective,r.condition⟩=_ from (zkv hb).2),zh m2,cond_true,zh h8]
 unfold ruleE; rw [key]; rfl
theorem zt9 {r:zm} (hr:FewR0 r) (h0:validG r.left.graph=0) (h1:zc3 r.left.graph r.keep=some 0) (h2:zbn (extP r.left.graph r.keep) r.right.graph r.into=some 0):zb5 r=some 0:=by
 have hk:=hr.keep
 have hv:zcc r.left.graph r.keep=some 0:=by
  unfold zcc
  rw [zh (zc6 hr.left.graph),zo (p:=validG r.left.graph=0),if_pos h0,zh (show zc3 ⟨r.left.graph.nodes,r.left.graph.edges⟩ ⟨r.keep.nodes,r.keep.edges⟩=_ from h1)]
 obtain ⟨e,_,k2,k3⟩:=zst hr.left.graph (p:=r.keep) ⟨by omega,by omega⟩
 have he:e=0:=by rw [hv] at k2; exact (Option.some.inj k2).symm
 obtain ⟨hp,_⟩:=k3 he
 unfold zb5
 rw [zh hv,decide_eq_true rfl,cond_true,zh (z0p hp ⟨by omega,by omega⟩ hv),zh h2]
def exT:Types:=(zd2).get rfl
theorem zbe4:zd2=some exT:=rfl
theorem exFew:FewT exT:=⟨by decide +kernel,by decide +kernel,by decide +kernel,by decide +kernel,by decide +kernel,by decide +kernel,by decide +kernel,by decide +kernel⟩
theorem exValid:(validT exT).2=0:=by decide +kernel
def noP:zx:=⟨⟨[],[]⟩,[],0,[]⟩
def noC:zi:=⟨1,[],⟨[],[]⟩,noP⟩
theorem zlv:cFew noC∧cSize noC≤1000:=by
 unfold noC
 rw [cFew,cFewL,cSize,cSizeL]
 exact ⟨⟨⟨⟨by decide,by decide⟩,by decide,by decide⟩,by decide,trivial⟩,by decide⟩
theorem zpv {p:zx} (hp:FewP p) (h:patE exT p=0):zcj exT p noC=some 0:=by
 unfold zcj
 rw [zh (zf7 exFew hp),zo (p:=patE exT p=0),if_pos h]
 rw [zh (show zdr noC=some 0 by decide +kernel),decide_eq_true rfl,cond_true]
 rw [show fuel=4611686018427387903+1 from rfl,zb0]
 rfl
def pay0:zm:=(zb2 0).get rfl
theorem zbej:zb2 0=some pay0:=rfl
theorem zoa:FewR pay0:=⟨⟨by decide +kernel,⟨⟨by decide +kernel,by decide +kernel⟩,by decide +kernel,by decide +kernel⟩,⟨⟨by decide +kernel,by decide +kernel⟩,by decide +kernel,by decide +kernel⟩,by decide +kernel,by decide +kernel⟩,zlv.1,zlv.2⟩
theorem zxg:patE exT pay0.left=0:=by decide +kernel
theorem zbbw:zbn (extP pay0.left.graph pay0.keep) pay0.right.graph pay0.into=some 0:=by
 unfold zbn
 rw [zh (zc6 ⟨by decide +kernel,by decide +kernel⟩),zo (p:=validG (extP pay0.left.graph pay0.keep)=0),if_pos (show validG (extP pay0.left.graph pay0.keep)=0 by decide +kernel),zh (zc6 ⟨by decide +kernel,by decide +kernel⟩),zo (p:=validG pay0.right.graph=0),if_pos (show validG pay0.right.graph=0 by decide +kernel)]
 decide +kernel
theorem z7v:ruleE exT pay0=0 :=
 zse exFew exValid zoa (by decide +kernel) zxg (by decide +kernel) (zt9 zoa.base (by decide +kernel) (by decide +kernel) zbbw) (by decide +kernel) (by decide +kernel) (by decide +kernel) (zpv zoa.base.left zxg)
theorem z1b:givenE exT [pay0]=0:=by
 unfold givenE
 rw [if_pos exValid,if_neg (by decide)]
 refine zk6.2 fun r hr=>?_
 rw [List.mem_singleton.1 hr]
 unfold ruleG
 rw [if_pos z7v,if_neg (show ¬ ((goneN pay0).any (fun n=>kidB exT (pay0.left.graph.nodes.getD n.toNat default))=true) by decide +kernel)]
theorem z4c:FewRs exT [pay0]:=⟨exFew,by decide,fun r hr=>by rw [List.mem_singleton.1 hr]; exact zoa⟩
theorem z9c:effL exT pay0=⟨[5],[]⟩:=by
 have h1:(effL exT pay0).deletes=[5]:=by decide +kernel
 have h2:(effL exT pay0).creates=[]:=by decide +kernel
 show (⟨(effL exT pay0).deletes,(effL exT pay0).creates⟩:zl)=_
 rw [h1,h2]
def pay1:zm:=(zb2 1).get rfl
theorem zbep:zb2 1=some pay1:=rfl
theorem zo5:FewR pay1:=⟨⟨by decide +kernel,⟨⟨by decide +kernel,by decide +kernel⟩,by decide +kernel,by decide +kernel⟩,⟨⟨by decide +kernel,by decide +kernel⟩,by decide +kernel,by decide +kernel⟩,by decide +kernel,by decide +kernel⟩,zlv.1,zlv.2⟩
theorem zwu:patE exT pay1.left=0:=by decide +kernel
theorem zbbu:zbn (extP pay1.left.graph pay1.keep) pay1.right.graph pay1.into=some 0:=by
 unfold zbn
 rw [zh (zc6 ⟨by decide +kernel,by decide +kernel⟩),zo (p:=validG (extP pay1.left.graph pay1.keep)=0),if_pos (show validG (extP pay1.left.graph pay1.keep)=0 by decide +kernel),zh (zc6 ⟨by decide +kernel,by decide +kernel⟩),zo (p:=validG pay1.right.graph=0),if_pos (show validG pay1.right.graph=0 by decide +kernel)]
 decide +kernel
theorem z4l:ruleE exT pay1=0 :=
 zse exFew exValid zo5 (by decide +kernel) zwu (by decide +kernel) (zt9 zo5.base (by decide +kernel) (by decide +kernel) zbbu) (by decide +kernel) (by decide +kernel) (by decide +kernel) (zpv zo5.base.left zwu)
theorem z2s:givenE exT [pay1]=0:=by
 unfold givenE
 rw [if_pos exValid,if_neg (by decide)]
 refine zk6.2 fun r hr=>?_
 rw [List.mem_singleton.1 hr]
 unfold ruleG
 rw [if_pos z4l,if_neg (show ¬ ((goneN pay1).any (fun n=>kidB exT (pay1.left.graph.nodes.getD n.toNat default))=true) by decide +kernel)]
theorem z45:FewRs exT [pay1]:=⟨exFew,by decide,fun r hr=>by rw [List.mem_singleton.1 hr]; exact zo5⟩
theorem z9s:effL exT pay1=⟨[1,5],[2]⟩:=by
 have h1:(effL exT pay1).deletes=[1,5]:=by decide +kernel
 have h2:(effL exT pay1).creates=[2]:=by decide +kernel
 show (⟨(effL exT pay1).deletes,(effL exT pay1).creates⟩:zl)=_
 rw [h1,h2]
def pay2:zm:=(zb2 2).get rfl
theorem zbc8:zb2 2=some pay2:=rfl
theorem zob:FewR pay2:=⟨⟨by decide +kernel,⟨⟨by decide +kernel,by decide +kernel⟩,by decide +kernel,by decide +kernel⟩,⟨⟨by decide +kernel,by decide +kernel⟩,by decide +kernel,by decide +kernel⟩,by decide +kernel,by decide +kernel⟩,zlv.1,zlv.2⟩
theorem zwz:patE exT pay2.left=0:=by decide +kernel
theorem z8t:zbn (extP pay2.left.graph pay2.keep) pay2.right.graph pay2.into=some 0:=by
 unfold zbn
 rw [zh (zc6 ⟨by decide +kernel,by decide +kernel⟩),zo (p:=validG (extP pay2.left.graph pay2.keep)=0),if_pos (show validG (extP pay2.left.graph pay2.keep)=0 by decide +kernel),zh (zc6 ⟨by decide +kernel,by decide +kernel⟩),zo (p:=validG pay2.right.graph=0),if_pos (show validG pay2.right.graph=0 by decide +kernel)]
 decide +kernel
theorem z8h:ruleE exT pay2=0 :=
 zse exFew exValid zob (by decide +kernel) zwz (by decide +kernel) (zt9 zob.base (by decide +kernel) (by decide +kernel) z8t) (by decide +kernel) (by decide +kernel) (by decide +kernel) (zpv zob.base.left zwz)
theorem z11:givenE exT [pay2]=0:=by
 unfold givenE
 rw [if_pos exValid,if_neg (by decide)]
 refine zk6.2 fun r hr=>?_
 rw [List.mem_singleton.1 hr]
 unfold ruleG
 rw [if_pos z8h,if_neg (show ¬ ((goneN pay2).any (fun n=>kidB exT (pay2.left.graph.nodes.getD n.toNat default))=true) by decide +kernel)]
theorem z77:FewRs exT [pay2]:=⟨exFew,by decide,fun r hr=>by rw [List.mem_singleton.1 hr]; exact zob⟩
theorem zbap:effL exT pay2=⟨[5],[5]⟩:=by
 have h1:(effL exT pay2).deletes=[5]:=by decide +kernel
 have h2:(effL exT pay2).creates=[5]:=by decide +kernel
 show (⟨(effL exT pay2).deletes,(effL exT pay2).creates⟩:zl)=_
 rw [h1,h2]
theorem z59:zdl exT [pay0]=some (⟨[0],[0,0,0,0],[0,0]⟩,0):=by
 rw [zx5 z4c]
 unfold findR layG
 rw [if_pos z1b,List.map_singleton,z9c,show leastL [(⟨[5],[]⟩:zl)] (nT exT)=some [0,0,0,0,0,0] by decide +kernel]
 rfl
theorem z4h:zdl exT [pay1]=some (⟨[0],[0,0,1,0],[0,0]⟩,0):=by
 rw [zx5 z45]
 unfold findR layG
 rw [if_pos z2s,List.map_singleton,z9s,show leastL [(⟨[1,5],[2]⟩:zl)] (nT exT)=some [0,0,1,0,0,0] by decide +kernel]
 rfl
def exD:zbm:=⟨0,5,5,1⟩
theorem exDist:zfk [exD] 5 6=some [-1,-1,-1,-1,-1,0]:=by
 unfold zfk
 rw [zh (giv_t ⟨by decide,by decide,by decide,by decide,by decide⟩)]
 decide +kernel
theorem forN1 {σ O:Type} (f:Nat→σ→(σ→Option O)→(σ→Option O)→Option O) (i:Nat) (s:σ) (K:σ→Option O):forN f 1 i s K=f i s (fun s'=>K s') K:=rfl
theorem exCircle:zgk [exD] 6=some [exD]:=by
 refine Ok.eq ?_
 unfold zgk
 refine zcz (zbi (by decide)) ?_
 show Ok (forN _ 1 0 [] _) _
 rw [forN1]
 refine ok_eq (r:=exD) rfl ?_
 refine ok_eq exDist ?_
 refine ok_eq (r:=0) rfl ?_
 refine ok_f (by decide) (ok_f (by decide) ?_)
 refine zlw (fun s=>s=(5,[exD])) (fun _=>0) rfl (by unfold fuel; omega) ?_
 rintro s nxt rfl _
 exact ok_t (decide_eq_true rfl) (Ok.mk rfl)
theorem exReason:zgm exT [pay2]=some ([exD],0):=by
 unfold zgm
 rw [zh (zt8 z77),if_pos z11,decide_eq_true rfl,cond_true]
 dsimp only
 rw [List.map_singleton,zbap]
 rw [zh (zgp (p:=fun x=>zfy x) (fun e=>decide (((e.deletes.length:Nat):Int)=0)) (by decide) (fun _ _=>rfl))]
 rw [show idxQ (fun e:zl=>decide (((e.deletes.length:Nat):Int)=0)) [⟨[5],[5]⟩] = -1 by rfl]
 rw [decide_eq_false (by decide),cond_false]
 rw [zh (show zg6 [⟨[5],[5]⟩]=some [exD] by rfl)]
 rw [show IntKind.i64.wrap (((exT.nodes.length:Nat):Int)+((exT.edges.length:Nat):Int))=6 by decide +kernel,zh exCircle]
 rfl
theorem zsf:zc1=some true:=by
 unfold zc1
 rw [zh zbe4,zh zbej,zh z59,zh zbep,zh z4h,zh zbc8,zh exReason]
 rw [decide_eq_true rfl,cond_true,zh (zrk (by decide)),decide_eq_true rfl,cond_true,zh (zrk (by decide)),decide_eq_true rfl,cond_true]
 rfl
end Go.Proofs.YtimojjnmmlhijaaGreat
namespace Go.Proofs.YtimojjnmmlhijaaGreat
open Go.Abs

theorem zbfo {L:zbr} (h:zx1 L):zc8 L L=some true:=by
 unfold zc8
 rw [zh (zkb h.rules),decide_eq_true rfl,cond_true,zh (zkb h.nodes),decide_eq_true rfl,cond_true,zh (zkb h.edges),decide_eq_true rfl]
theorem zrh {t:Types} {rules:List zm} (hF:FewRs t rules):zx1 (findR t rules).1:=by
 have hl:=hF.len
 unfold findR
 split
 ·rename_i h
  split
  ·rename_i y hy
   have hE:=zp6 (ziz hF h)
   have h32:=hE.n32
   have:=(zoi hE hy).1
   exact ⟨by simp [layG,rulesL]; omega,by simp [layG]; omega,by simp [layG]; omega⟩
  ·exact ⟨by simp,by simp,by simp⟩
 ·exact ⟨by simp,by simp,by simp⟩
theorem zxb {l:List zm} (h:l.length≤1000000):zij l=some l:=giv_t h
theorem ztw (t:Types) (rules:List zm) (h1:FitT t) (h2:∀ r∈rules,FitR r):zc9 t rules=some true:=by
 unfold zc9
 rw [zh zsf,cond_true]
 obtain ⟨b,hb,hf⟩:=l_Few h1 h2
 rw [zh (show zd6 ⟨t.nodes,t.edges⟩ rules=_ from hb)]
 cases b with
 | false=>rw [cond_false,zh zsf]
 | true =>
 have hF:=hf rfl
 have hl:=hF.len
 rw [cond_true,zh (zxb (by omega)),zh (show zdl ⟨t.nodes,t.edges⟩ rules=_ from zx5 hF),zh (show zdx ⟨t.nodes,t.edges⟩ rules=_ from zbdr hF),decide_eq_true rfl,cond_true,zh (zbfo (zrh hF)),cond_true]
 rw [zo (p:=(findR t rules).2=0)]
 by_cases h0:¬ ((findR t rules).2=0)
 ·rw [if_neg h0]
 have h0:=Decidable.of_not_not h0
 rw [if_pos h0,zh (show zf1 ⟨t.nodes,t.edges⟩ rules (findR t rules).1=_ from zbc5 hF (zrh hF))]
 congr 1
 unfold findR at h0 ⊢
 by_cases hg:¬ (givenE t rules=0)
 ·rw [if_neg hg] at h0; exact absurd h0 hg
 have hg:=Decidable.of_not_not hg
 rw [if_pos hg] at h0 ⊢
 cases hy:leastL (rules.map (effL t)) (nT t) with
 | none=>rw [hy] at h0; cases h0
 | some y=>exact zzc hF hg hy
structure FitL (L:zbr):Prop where
 rules:L.rules.length≤1125899906842624
 nodes:L.nodes.length≤1125899906842624
 edges:L.edges.length≤1125899906842624
end Go.Proofs.YtimojjnmmlhijaaGreat
namespace Go.Abs
open Go.RowKit

variable {P:Program} {w:World} {H:Type} {enc:TypeId×Value→H}

def zhi (w:World) (cs:List Value) (ps:List PV):Prop:=cs.length=ps.length∧(∀ (j:Nat) u c,cs[j]? = some u→ps[j]? = some c→VR (snap w) u c)∧∀ u∈cs,u.oneCell'=true
def Light (P:Program) (t:TypeId) (d:DataW H):Prop:=∀ n∈d.weights P t,n≤reachBytes

structure Dec (P:Program) (w:World) {H:Type} (enc:TypeId×Value→H) {α:Type} (t:TypeId) (sz:Nat) (e:α→List PV) (G:α→Prop):Prop where
 len:∀ a,(e a).length=sz
 dec:∀ (sp:Nat→Bool) (hd:Bool) (fuel:Nat) (cs:List Value) (x:DataW H×List MemPlace),DataW.trod enc P w 0 sp hd fuel t cs=some x→Light P t x.1→∃ a,G a∧zhi w cs (e a)

theorem zhi.one {u:Value} {p:PV} (h:VR (snap w) u p) (h1:u.oneCell'=true):zhi w [u] [p] :=
 ⟨rfl,fun j u' c hu hc=>by
  cases j with
  | zero=>simp at hu hc; subst hu hc; exact h
  | succ j=>simp at hu,fun u' hu=>by simp at hu; subst hu; exact h1⟩

theorem Dec.int {t:TypeId} (ht:P.underlying t=some (.int .i64)):Dec P w enc t 1 (fun n:Int=>[.val (.int .i64 n)]) (fun _=>True) :=
 ⟨fun _=>rfl,fun sp hd fuel cs x h _=>by
  obtain ⟨n,rfl,_⟩:=DataW.trod_int ht h
  exact ⟨n,trivial,.one (.val _ rfl) rfl⟩⟩
theorem Dec.str {t:TypeId} (ht:P.underlying t=some .string):Dec P w enc t 1 (fun s:ByteArray=>[.val (.string s)]) (fun _=>True) :=
 ⟨fun _=>rfl,fun sp hd fuel cs x h _=>by
  obtain ⟨n,rfl,_⟩:=DataW.trod_string ht h
  exact ⟨n,trivial,.one (.val _ rfl) rfl⟩⟩
theorem Dec.bool {t:TypeId} (ht:P.underlying t=some .bool):Dec P w enc t 1 (fun b:Bool=>[.val (.bool b)]) (fun _=>True) :=
 ⟨fun _=>rfl,fun sp hd fuel cs x h _=>by
  obtain ⟨n,rfl,_⟩:=DataW.trod_bool ht h
  exact ⟨n,trivial,.one (.val _ rfl) rfl⟩⟩

theorem Dec.map {α β:Type} {t:TypeId} {sz:Nat} {e:α→List PV} {G:α→Prop} {e':β→List PV} {G':β→Prop} (g:α→β) (f:β→α) (hgf:∀ b,e (f b)=e' b) (hg:∀ a,e' (g a)=e a) (hG:∀ a,G a→G' (g a)) (h:Dec P w enc t sz e G):Dec P w enc t sz e' G' :=
 ⟨fun b=>by rw [← hgf]; exact h.len _,fun sp hd fuel cs x hx hw=>by
  obtain ⟨a,h1,h2⟩:=h.dec sp hd fuel cs x hx hw
  exact ⟨g a,hG a h1,by rw [hg]; exact h2⟩⟩

theorem zkm {e:TypeId} : ∀ {ds:List (DataW H)} {d:DataW H},d∈ds→∀ n∈d.weights P e,n∈DataW.weightsAll P e ds
 | d0 :: r,d,hd,n,hn=>by
  rw [DataW.weightsAll,List.mem_append]
  rcases List.mem_cons.1 hd with rfl | h
  ·exact .inl hn
  ·exact .inr (zkm h n hn)

theorem z4f {α β:Type} {f:α→Option β} : ∀ {l:List α} {r:List β},l.mapM f=some r→r.length=l.length∧∀ (i:Nat) a,l[i]? = some a→r[i]? = f a:=by
 intro l
 induction l with
 | nil=>intro r h; simp at h; subst h; exact ⟨rfl,by simp⟩
 | cons a l ih =>
  intro r h
  rw [List.mapM_cons] at h
  cases ha:f a with
  | none=>rw [ha] at h; cases h
  | some b =>
   rw [ha] at h
   cases hl:l.mapM f with
   | none=>rw [hl] at h; cases h
   | some r' =>
    rw [hl] at h
    have:r=b :: r':=by simpa using h.symm
    subst this
    obtain ⟨h1,h2⟩:=ih hl
    refine ⟨by simp [h1],fun i x hx=>?_⟩
    cases i with
    | zero=>simp at hx; subst hx; simp [ha]
    | succ i=>simpa using h2 i x (by simpa using hx)

theorem zo7 {a:Addr} {n:Nat} {cs:List Value} (h:w.cells? 0 a n=some cs):cs.length=n∧(∀ (i:Nat) u,cs[i]? = some u→w.cell? (a.add i)=some u):=by
 unfold World.cells? at h
 rw [if_pos (Nat.zero_le _)] at h
 obtain ⟨h1,h2⟩:=z4f h
 refine ⟨by simpa using h1,fun i u hu=>?_⟩
 have hi:i < n:=by
  have:=(List.getElem?_eq_some_iff.1 hu).1
  simpa [h1] using this
 rw [← h2 i i (by simp [hi]),hu]
theorem z5i {a:Addr} {u:Value} (h:w.cell? a=some u):a.spot=none:=by
 unfold World.cell? at h
 split at h
 ·split at h
  ·cases h
  ·rename_i hs
   cases hsp:a.spot with
   | none=>rfl
   | some _=>simp [hsp] at hs
 ·cases h

theorem zrq {α:Type} {n:Nat} {Q:Nat→α→Prop} (h:∀ i,i < n→∃ a,Q i a):∃ l:List α,l.length=n∧∀ (i:Nat) a,l[i]? = some a→Q i a:=by
 induction n with
 | zero=>exact ⟨[],rfl,by simp⟩
 | succ n ih =>
  obtain ⟨l,h1,h2⟩:=ih fun i hi=>h i (by omega)
  obtain ⟨a,ha⟩:=h n (by omega)
  refine ⟨l++[a],by simp [h1],fun i b hb=>?_⟩
  rcases Nat.lt_or_ge i l.length with hi | hi
  ·rw [List.getElem?_append_left hi] at hb
   exact h2 i b hb
  ·rw [List.getElem?_append_right hi] at hb
   have:i - l.length=0:=by
    have:=(List.getElem?_eq_some_iff.1 hb).1
    simp at this
    omega
   rw [this] at hb
   simp at hb
   subst hb
   have:i=n:=by omega
   subst this
   exact ha
end Go.Abs
namespace Go.Abs
open Go.RowKit

variable {P:Program} {w:World} {H:Type} {enc:TypeId×Value→H}

theorem zxm {a:Addr} (h:a.spot=none) (n:Nat):a.add n=⟨a.block,a.off+n,none⟩:=by
 obtain ⟨b,o,s⟩:=a
 simp only at h
 subst h
 unfold Addr.add
 split
 ·rename_i hn; simp [hn]
 ·rfl

theorem zxo {α : Type} {ec : α → List PV} {sz : Nat} (h0 : 0 < sz) (hlen : ∀ a, (ec a).length = sz) {a : Addr} {len cap : Nat} (hcap : len ≤ cap) {l : List (α × List Value)} (hl : l.length = len)
  (h:∀ (i:Nat) (x:α×List Value),l[i]? = some x→w.cells? 0 (a.add (i * sz)) sz=some x.2∧zhi w x.2 (ec x.1)):VR (snap w) (.slice (some a) len cap) (.lst ((l.map (·.1)).map ec)):=by
 have hall:∀ e∈(l.map (·.1)).map ec,e.length=sz:=fun e he=>by
  obtain ⟨x,_,rfl⟩:=List.mem_map.1 he
  exact hlen x
 have hcs:∀ c∈l.map (·.2),c.length=sz:=fun c hc=>by
  obtain ⟨x,hx,rfl⟩:=List.mem_map.1 hc
  obtain ⟨i,hi⟩:=List.mem_iff_getElem?.1 hx
  exact (zo7 (h i x hi).1).1
 have at':∀ (j:Nat) u,(l.map (·.2)).flatten[j]? = some u→∃ x,l[j / sz]? = some x∧x.2[j % sz]? = some u:=fun j u hu=>by
  have hj:j < (l.map (·.2)).flatten.length:=(List.getElem?_eq_some_iff.1 hu).1
  rw [zbw hcs,List.length_map] at hj
  have hd:j / sz < l.length:=(Nat.div_lt_iff_lt_mul h0).2 hj
  have e2:=zih hcs (j / sz) (j % sz) (by simpa using hd) (Nat.mod_lt _ h0)
  rw [Nat.div_add_mod' j sz,hu] at e2
  refine ⟨l[j / sz],List.getElem?_eq_getElem hd,?_⟩
  rw [e2]
  simp [hd]
 refine .lst (some a) len cap _ (l.map (·.2)).flatten sz (by simp [hl]) hall ?_ (fun j u c hu hc=>?_) (fun u hu=>?_) ?_ (by simp) hcap
 ·rw [zbw hcs,zbw hall]
  simp
 ·obtain ⟨x,hx,hxu⟩:=at' j u hu
  have hd:j / sz < l.length:=(List.getElem?_eq_some_iff.1 hx).1
  have e2:=zih hall (j / sz) (j % sz) (by simpa using hd) (Nat.mod_lt _ h0)
  rw [Nat.div_add_mod' j sz,hc] at e2
  have e3:((l.map (·.1)).map ec).getD (j / sz) []=ec x.1:=by
   have:l[j / sz]=x:=by
    have:=List.getElem?_eq_getElem hd
    rw [hx] at this
    exact (Option.some.inj this).symm
   simp [hd,this]
  rw [e3] at e2
  exact (h _ x hx).2.2.1 _ u c hxu e2.symm
 ·obtain ⟨c,hc,huc⟩:=List.mem_flatten.1 hu
  obtain ⟨x,hx,rfl⟩:=List.mem_map.1 hc
  obtain ⟨i,hi⟩:=List.mem_iff_getElem?.1 hx
  exact (h i x hi).2.2.2 u huc
 ·by_cases hn:(l.map (·.2)).flatten=[]
  ·exact .inl hn
  ·right
   have hpos:0 < l.length:=by
    rcases Nat.eq_zero_or_pos l.length with h' | h'
    ·exact absurd (by rw [List.length_eq_zero_iff.1 h']; rfl) hn
    ·exact h'
   have hsp:a.spot=none:=by
    have hx:=h 0 l[0] (List.getElem?_eq_getElem hpos)
    obtain ⟨k1,k2⟩:=zo7 hx.1
    have h00:0 < l[0].2.length:=by rw [k1]; exact h0
    have:=k2 0 l[0].2[0] (List.getElem?_eq_getElem h00)
    have:=z5i this
    simpa [Addr.add] using this
   refine ⟨a.block,a.off,?_,fun j u hu=>?_⟩
   ·obtain ⟨b,o,s⟩:=a
    simp only at hsp
    subst hsp
    rfl
   ·obtain ⟨x,hx,hxu⟩:=at' j u hu
    have:=(zo7 (h _ x hx).1).2 _ u hxu
    rw [zxm hsp,zxm rfl] at this
    simp only at this
    rw [Nat.add_assoc,Nat.div_add_mod' j sz] at this
    exact this

theorem Dec.slice {α : Type} {t e : TypeId} {sz : Nat} {ec : α → List PV} {G : α → Prop} (ht : P.underlying t = some (.slice e)) (hc : P.cellsOf e = sz) (h0 : 0 < sz) (hb : 0 < P.bytesOf e) (he : Dec P w enc e sz ec G) :
  Dec P w enc t 1 (fun l:List α=>[.lst (l.map ec)]) (fun l=>(∀ a∈l,G a)∧l.length≤reachBytes) :=
 ⟨fun _=>rfl,fun sp hd fuel cs x h hw=>by
  rcases DataW.trod_slice ht h with ⟨rfl,rfl⟩ | ⟨a,len,cap,elems,rest,n,_,rfl,rfl,_,hle,_,hlen,hel,_,_⟩
  ·exact ⟨[],⟨by simp,by simp⟩,.one (.lst none 0 0 [] [] 1 rfl (by simp) rfl (by simp) (by simp) (.inl rfl) (fun _=>⟨rfl,rfl⟩) (Nat.le_refl _)) rfl⟩
  ·have hwt:∀ k,k∈((elems.map (·.1)).length+(rest.map (·.1)).length) * P.bytesOf e :: (DataW.weightsAll P e (elems.map (·.1))++DataW.weightsAll P e (rest.map (·.1)))→k≤reachBytes:=fun k hk=>by
    refine hw k ?_
    simp only [DataW.weights,ht]
    exact hk
   obtain ⟨l,l1,l2⟩:=zrq (n:=len) (Q:=fun i (x:α×List Value)=>G x.1∧w.cells? 0 (a.add (i * sz)) sz=some x.2∧zhi w x.2 (ec x.1)) fun i hi=>by
    have h1:=hel i hi
    have hi':i < elems.length:=by omega
    rw [List.getElem?_eq_getElem hi',hc] at h1
    obtain ⟨cs',h2,h3⟩:=Option.bind_eq_some_iff.1 h1
    obtain ⟨b,h4,h5⟩:=he.dec sp hd n cs' _ h3 fun k hk=>hwt k (List.mem_cons_of_mem _ (List.mem_append_left _ (zkm (List.mem_map.2 ⟨elems[i],List.getElem_mem hi',rfl⟩) k hk)))
    exact ⟨(b,cs'),h4,h2,h5⟩
   refine ⟨l.map (·.1),⟨fun b hb'=>?_,?_⟩,.one (zxo h0 he.len hle l1 fun i x hx=>(l2 i x hx).2) rfl⟩
   ·obtain ⟨x,hx,rfl⟩:=List.mem_map.1 hb'
    obtain ⟨i,hi⟩:=List.mem_iff_getElem?.1 hx
    exact (l2 i x hi).1
   ·have:=hwt _ (List.mem_cons_self ..)
    rw [List.length_map,List.length_map,hlen] at this
    rw [List.length_map,l1]
    exact Nat.le_trans (Nat.le_trans (Nat.le_add_right len rest.length) (Nat.le_mul_of_pos_right _ hb)) this⟩

structure DecFs (P:Program) (w:World) {H:Type} (enc:TypeId×Value→H) {α:Type} (fs:List Field) (off sz:Nat) (e:α→List PV) (G:α→Prop):Prop where
 len:∀ a,(e a).length=sz
 dec:∀ (sp:Nat→Bool) (hd:Bool) (n:Nat) (cs:List Value) (ds:List (DataW H)),ds.length=fs.length→cs.length=off+sz→(∀ (i:Nat) f,fs[i]? = some f→∃ ps,DataW.trod enc P w 0 sp hd n f.type ((cs.drop f.offset).take (P.cellsOf f.type))=(ds[i]?).map fun d=>(d,ps)) →
  (∀ k∈DataW.weightsEach P (fs.map (·.type)) ds,k≤reachBytes)→∃ a,G a∧zhi w (cs.drop off) (e a)

theorem DecFs.nil (off:Nat):DecFs P w enc [] off 0 (fun _:Unit=>[]) (fun _=>True) :=
 ⟨fun _=>rfl,fun sp hd n cs ds _ hl _ _=>⟨(),trivial,by
  have:cs.drop off=[]:=List.drop_eq_nil_of_le (by omega)
  rw [this]
  exact ⟨rfl,by simp,by simp⟩⟩⟩
theorem zhi.append {cs ds:List Value} {ps qs:List PV} (h:zhi w cs ps) (k:zhi w ds qs):zhi w (cs++ds) (ps++qs):=by
 refine ⟨by simp [h.1,k.1],fun j u c hu hc=>?_,fun u hu=>?_⟩
 ·rcases Nat.lt_or_ge j cs.length with hj | hj
  ·rw [List.getElem?_append_left hj] at hu
   rw [List.getElem?_append_left (by rw [← h.1]; exact hj)] at hc
   exact h.2.1 j u c hu hc
  ·rw [List.getElem?_append_right hj] at hu
   rw [List.getElem?_append_right (by rw [← h.1]; exact hj),← h.1] at hc
   exact k.2.1 _ u c hu hc
 ·rcases List.mem_append.1 hu with hu | hu
  ·exact h.2.2 u hu
  ·exact k.2.2 u hu
theorem DecFs.cons {α β : Type} {f : Field} {fs : List Field} {off sz sz' : Nat} {e : α → List PV} {G : α → Prop} {e' : β → List PV} {G' : β → Prop} (ho : f.offset = off) (hc : P.cellsOf f.type = sz) (h : Dec P w enc f.type sz e G) (hr : DecFs P w enc fs (off + sz) sz' e' G') :
  DecFs P w enc (f :: fs) off (sz+sz') (fun x:α×β=>e x.1++e' x.2) (fun x=>G x.1∧G' x.2) :=
 ⟨fun x=>by rw [List.length_append,h.len,hr.len],fun sp hd n cs ds hl hcs hall hw=>by
  match ds,hl with
  | [],hl=>simp at hl
  | d :: ds,hl =>
   rw [List.map_cons,DataW.weightsEach] at hw
   obtain ⟨ps,h0⟩:=hall 0 f rfl
   simp only [List.getElem?_cons_zero,Option.map_some] at h0
   obtain ⟨a,a1,a2⟩:=h.dec sp hd n _ _ h0 fun k hk=>hw k (List.mem_append_left _ hk)
   obtain ⟨b,b1,b2⟩:=hr.dec sp hd n cs ds (by simpa using hl) (by omega) (fun i g hg=>by simpa using hall (i+1) g (by simpa using hg)) fun k hk=>hw k (List.mem_append_right _ hk)
   refine ⟨(a,b),⟨a1,b1⟩,?_⟩
   have e1:cs.drop off=(cs.drop off).take sz++cs.drop (off+sz):=by
    rw [← List.drop_drop,List.take_append_drop]
   rw [e1]
   rw [ho,hc] at a2
   exact a2.append b2⟩
theorem Dec.struct {α:Type} {t:TypeId} {fs:Array Field} {sz:Nat} {e:α→List PV} {G:α→Prop} (ht:P.underlying t=some (.struct fs)) (hc:P.cellsOf t=sz) (h:DecFs P w enc fs.toList 0 sz e G):Dec P w enc t sz e G :=
 ⟨h.len,fun sp hd fuel cs x hx hw=>by
  obtain ⟨xs,n,_,rfl,hl,hxs,hf⟩:=DataW.trod_struct ht hx
  obtain ⟨a,a1,a2⟩:=h.dec sp hd n cs (xs.map (·.1)) (by simp [hxs]) (by rw [hl,hc,Nat.zero_add]) (fun i f hi=>by
   have h1:=hf i f (by simpa using hi)
   have hlt:i < xs.length:=by
    have:=(List.getElem?_eq_some_iff.1 hi).1
    rw [hxs]; simpa using this
   refine ⟨xs[i].2,?_⟩
   rw [h1]
   simp [hlt]) fun k hk=>hw k (by
    simp only [DataW.weights,ht]
    exact hk)
  exact ⟨a,a1,by simpa using a2⟩⟩
end Go.Abs
namespace Go.Abs
open Go.RowKit

variable {P:Program} {w:World} {H:Type} {enc:TypeId×Value→H}

theorem Dec.intk {t:TypeId} (k:IntKind) (ht:P.underlying t=some (.int k)):Dec P w enc t 1 (fun n:Int=>[.val (.int k n)]) (fun n=>k.min≤n∧n≤k.max) :=
 ⟨fun _=>rfl,fun sp hd fuel cs x h _=>by
  obtain ⟨n,rfl,_,hw⟩:=DataW.trod_int ht h
  refine ⟨n,?_,.one (.val _ rfl) rfl⟩
  simpa [Lit.wf] using hw⟩
def arrF (e:TypeId) (off:Nat):Field:={ name := "",type:=e,offset:=off,embedded:=false,tag := "",pkgPath := "",byteOffset:=0 }
def arrFs (n:Nat) (e:TypeId) (sz:Nat):List Field:=(List.range n).map fun i=>arrF e (i * sz)
theorem zm0 {e:TypeId} : ∀ (n:Nat) (ds:List (DataW H)),ds.length=n→DataW.weightsEach P (List.replicate n e) ds=DataW.weightsAll P e ds
 | 0,[],_=>rfl
 | n+1,d :: r,h=>by
  rw [List.replicate_succ,DataW.weightsEach,DataW.weightsAll,zm0 n r (by simpa using h)]
 | n+1,[],h=>by simp at h
 | 0,d :: r,h=>by simp at h
theorem Dec.array {α:Type} {t e:TypeId} {n sz sz0:Nat} {ec:α→List PV} {G:α→Prop} (ht:P.underlying t=some (.array n e)) (hc:P.cellsOf t=sz) (h0:P.cellsOf e=sz0) (h:DecFs P w enc (arrFs n e sz0) 0 sz ec G):Dec P w enc t sz ec G :=
 ⟨h.len,fun sp hd fuel cs x hx hw=>by
  obtain ⟨xs,m,_,rfl,hl,hxs,hf⟩:=DataW.trod_array ht hx
  obtain ⟨a,a1,a2⟩:=h.dec sp hd m cs (xs.map (·.1)) (by simp [hxs,arrFs]) (by rw [hl,hc,Nat.zero_add]) (fun i f hi=>by
   have hlt:i < n:=by
    have:=(List.getElem?_eq_some_iff.1 hi).1
    simpa [arrFs] using this
   have hfe:f=arrF e (i * sz0):=by
    simpa [arrFs,hlt] using hi.symm
   subst hfe
   have h1:=hf i hlt
   refine ⟨(xs[i]'(by omega)).2,?_⟩
   subst h0
   show DataW.trod enc P w 0 sp hd m e (List.take (P.cellsOf e) (List.drop (i * P.cellsOf e) cs))=_
   rw [h1]
   simp [hxs,hlt]) fun k hk=>hw k (by
    simp only [DataW.weights,ht]
    have e1:(arrFs n e sz0).map (·.type)=List.replicate n e:=by
     unfold arrFs
     rw [List.map_map]
     exact (List.map_const' ..).trans (by rw [List.length_range])
    rw [e1,zm0 n _ (by simp [hxs])] at hk
    exact hk)
  exact ⟨a,a1,by simpa using a2⟩⟩
end Go.Abs
namespace Go.Abs
open Go.ChangeShapes Go.WideShapes Go.ChangeAt Go.RowKit

variable {P:Program} {W:World} {H:Type} {enc:TypeId×Value→H} {α β:Type}

structure DecV (P:Program) (W:World) {H:Type} (enc:TypeId×Value→H) {α:Type} (t:TypeId) (e:α→PV) (G:α→Prop):Prop where
 dec:∀ b0 v d ps,Value.okWide P W .any b0 t v→DataW.Trod enc P W 0 (fun _=>true) true t v d ps→Light P t d→∃ a,G a∧VR (snap W) v (e a)
 read:P.readableRec t=true
 size:t < P.types.size

theorem DecV.struct {t:TypeId} {fs:Array Field} {sz:Nat} {e:α→List PV} {G:α→Prop} (ht:P.underlying t=some (.struct fs)) (hdec:Dec P W enc t sz e G) (hr:P.readableRec t=true) (hs:t < P.types.size):DecV P W enc t (fun a=>.agg (e a)) G :=
 ⟨fun b0 v d ps hval h hw=>by
  unfold Value.okWide at hval
  rw [ht] at hval
  obtain ⟨cs,rfl,_⟩:=hval
  obtain ⟨fuel,hf⟩:=h
  obtain ⟨a,h1,h2⟩:=hdec.dec _ _ fuel _ _ hf hw
  refine ⟨a,h1,?_⟩
  have:VR (snap W) (.agg (cs.toList).toArray) (.agg (e a)):=.agg cs.toList (e a) h2.1 h2.2.1 h2.2.2
  simpa using this,hr,hs⟩
theorem DecV.array {t e':TypeId} {n sz:Nat} {e:α→List PV} {G:α→Prop} (ht:P.underlying t=some (.array n e')) (hdec:Dec P W enc t sz e G) (hr:P.readableRec t=true) (hs:t < P.types.size):DecV P W enc t (fun a=>.agg (e a)) G :=
 ⟨fun b0 v d ps hval h hw=>by
  unfold Value.okWide at hval
  rw [ht] at hval
  obtain ⟨cs,rfl,_⟩:=hval
  obtain ⟨fuel,hf⟩:=h
  obtain ⟨a,h1,h2⟩:=hdec.dec _ _ fuel _ _ hf hw
  refine ⟨a,h1,?_⟩
  have:VR (snap W) (.agg (cs.toList).toArray) (.agg (e a)):=.agg cs.toList (e a) h2.1 h2.2.1 h2.2.2
  simpa using this,hr,hs⟩
theorem DecV.one {t:TypeId} {e:α→PV} {G:α→Prop} (ht:∀ b0 v,Value.okWide P W .any b0 t v→v.cells.toList=[v]) (hdec:Dec P W enc t 1 (fun a=>[e a]) G) (hr:P.readableRec t=true) (hs:t < P.types.size):DecV P W enc t e G :=
 ⟨fun b0 v d ps hval h hw=>by
  obtain ⟨fuel,hf⟩:=h
  rw [ht b0 v hval] at hf
  obtain ⟨a,h1,h2⟩:=hdec.dec _ _ fuel _ _ hf hw
  exact ⟨a,h1,h2.2.1 0 v (e a) rfl rfl⟩,hr,hs⟩
theorem zz1 {t e:TypeId} (ht:P.underlying t=some (.slice e)) (b0:Nat) (v:Value) (h:Value.okWide P W .any b0 t v):v.cells.toList=[v]:=by
 unfold Value.okWide at h
 rw [ht] at h
 unfold Cell.okWide at h
 rw [ht] at h
 unfold Cell.ok at h
 rw [ht] at h
 cases v <;> first | rfl | cases h

theorem zri:∀ {ts:List TypeId} {vs:List Value} {ds:List (DataW H)} {ps:List MemPlace},DataW.TrodAll enc P W 0 (fun _=>true) true ts vs ds ps→ds.length=ts.length
 | [],vs,ds,ps,h=>by obtain ⟨rfl,rfl,rfl⟩:=trodAll_nil h; rfl
 | t :: ts,vs,ds,ps,h=>by
  obtain ⟨v,vs',d,ds',p,q,rfl,rfl,rfl,h1,h2⟩:=trodAll_cons h
  rw [List.length_cons,List.length_cons,zri h2]
structure DecVs (P:Program) (W:World) {H:Type} (enc:TypeId×Value→H) {α:Type} (ts:List TypeId) (e:α→List PV) (G:α→Prop):Prop where
 dec:∀ b0 vs ds ps,(∀ (j:Nat) t v,ts[j]? = some t→vs[j]? = some v→Value.okWide P W .any b0 t v)→DataW.TrodAll enc P W 0 (fun _=>true) true ts vs ds ps→(∀ n∈DataW.weightsEach P ts ds,n≤reachBytes) →
  ∃ a,G a∧vs.length=(e a).length∧∀ (j:Nat) u x,vs[j]? = some u→(e a)[j]? = some x→VR (snap W) u x
 stay:laidOutB P=true→∀ vs ds ps W',DataW.TrodAll enc P W 0 (fun _=>true) true ts vs ds ps→Below W.heap.size W W'→(∀ x∈ps,x.block < W.heap.size)→DataW.TrodAll enc P W' 0 (fun b=>decide (b < W.heap.size)) true ts vs ds ps
theorem DecVs.nil:DecVs P W enc [] (fun _:Unit=>[]) (fun _=>True) :=
 ⟨fun b0 vs ds ps _ h _=>by
  obtain ⟨rfl,rfl,rfl⟩:=trodAll_nil h
  exact ⟨(),trivial,rfl,fun j u x hu=>by simp at hu⟩,fun _ vs ds ps W' h _ _=>by
  obtain ⟨rfl,rfl,rfl⟩:=trodAll_nil h
  exact trodAll_mk0⟩
theorem DecVs.cons {t : TypeId} {ts : List TypeId} {e : α → PV} {G : α → Prop} {e' : β → List PV} {G' : β → Prop} (h : DecV P W enc t e G) (hr : DecVs P W enc ts e' G') :
  DecVs P W enc (t :: ts) (fun x:α×β=>e x.1 :: e' x.2) (fun x=>G x.1∧G' x.2) :=
 ⟨fun b0 vs ds ps hv ht hw=>by
  obtain ⟨v,vs',d,ds',p,q,rfl,rfl,rfl,h1,h2⟩:=trodAll_cons ht
  rw [DataW.weightsEach] at hw
  obtain ⟨a,a1,a2⟩:=h.dec b0 v d p (hv 0 t v rfl rfl) h1 fun n hn=>hw n (List.mem_append_left _ hn)
  obtain ⟨b,b1,b2,b3⟩:=hr.dec b0 vs' ds' q (fun j t v ht hv'=>hv (j+1) t v (by simpa using ht) (by simpa using hv')) h2 fun n hn=>hw n (List.mem_append_right _ hn)
  refine ⟨(a,b),⟨a1,b1⟩,by simp [b2],fun j u x hu hx=>?_⟩
  cases j with
  | zero=>simp at hu hx; subst hu hx; exact a2
  | succ j=>exact b3 j u x (by simpa using hu) (by simpa using hx),fun hl vs ds ps W' ht hb hlt=>by
  obtain ⟨v,vs',d,ds',p,q,rfl,rfl,rfl,h1,h2⟩:=trodAll_cons ht
  exact ⟨p,q,Below.trod hl h.read h.size h1 hb fun x hx=>hlt x (List.mem_append_left _ hx),hr.stay hl vs' ds' q W' h2 hb fun x hx=>hlt x (List.mem_append_right _ hx),rfl⟩⟩

theorem zbb5 {C : Checked} {os : Os} {f : FuncId} {fn : Func} {s : ChangeSpec} {conds : List PathCond} {apart fresh handsOn : Bool} {e : α → List PV} {G : α → Prop} {tb : TypeId}
  (own:ownKnob C.prog.godebug=none) (laid:laidOutB C.prog=true) (started:os.Started) (noInit:C.prog.inits.idxOf? f=none) (hfn:C.prog.funcs[f]? = some fn)
  (witness:∃ (w:World) (tape:Tape) (i:Input),w.os=os∧(w.forCall tape i).Shaped C.prog∧i.vars=[]∧Input.okWide C.prog (w.forCall tape i) .any w.heap.size f i ∧
   s.pre6 enc C.prog fn conds apart (w.forCall tape i).memory i.args∧({} : Assume).holds C.prog (lone (Frame.enter C.prog f i.args .normal) [] (w.forCall tape i)))
  (hres:fn.resultTypes = #[tb]) (hb:C.prog.underlying tb=some .bool) (hv:s.vars=[]) (hs:∀ ds:List (DataW H),ds.length=fn.params.size→(s.fn H ds).results=[.lit (.bool true)]∧(s.fn H ds).args=ds∧(s.fn H ds).vars=[])
  (hd:∀ W,DecVs C.prog W enc fn.params.toList e G) (ok:∀ a,G a→CallV C.prog f (e a) fun r=>r = .val (.bool true)) :
  ReturnsInHanded {} C os f .any (s.pre6 enc C.prog fn conds apart) (s.post enc C.prog fn apart fresh handsOn false):=by
 refine returnsInHanded_of_change_sized (C:=C) own started noInit hfn witness ?_
 intro W base args ds gs before hval hW _ hz _
 have hW':=hW
 obtain ⟨p,q,hA,hV,rfl,hfz,hnd⟩:=hW
 rw [hv] at hV
 have hg:gs=[]∧q=[]:=by
  cases gs with
  | nil=>exact ⟨rfl,hV⟩
  | cons=>exact hV.elim
 obtain ⟨rfl,rfl⟩:=hg
 have hvt:s.plain.varTypes C.prog=[]:=by
  have:s.plain.vars=[]:=hv
  unfold DataSpec.varTypes
  rw [this]
  rfl
 rw [hvt,List.append_nil,List.append_nil] at hz
 have hw:∀ n∈DataW.weightsEach C.prog fn.params.toList ds,n≤reachBytes:=fun n hn=>by
  have:=List.all_eq_true.1 hz n hn
  simpa using this
 obtain ⟨a,a1,a2,a3⟩:=(hd W).dec base args.toList ds p (fun j t v ht hv'=>hval j t v (by simpa using ht) (by simpa using hv')) hA hw
 have hlt:∀ x∈p,x.block < W.heap.size:=fun x hx=>hW'.lt x (List.mem_append_left _ hx)
 obtain ⟨s1,s2,s3⟩:=hs ds (by
  have:=zri hA
  simpa using this)
 refine ((ok a a1).2 (snap W) W args.toList (zr2 W) ⟨a2,a3⟩).mono ?_
 rintro e' W' ⟨v,r,I',rfl,rfl,hv',bel,_⟩
 have hvb:v = .bool true:=by cases hv'; rfl
 subst hvb
 refine ⟨_,rfl,ds,[],p++[],[],p,[],hW',?_,?_,?_,bel.frame _,fun h=>by cases h⟩
 ·rw [List.append_nil,s1,hres]
  exact trodAll_mk1 (shut_bool hb true)
 ·rw [List.append_nil,s2]
  exact (hd W).stay laid _ _ _ _ hA bel hlt
 ·rw [List.append_nil,s3,hv]
  rfl
end Go.Abs
namespace Go.Abs
open Go.RowKit

variable {P:Program} {w:World} {H:Type} {enc:TypeId×Value→H}

structure DecN (P:Program) (w:World) {H:Type} (enc:TypeId×Value→H) (N:Nat) {α:Type} (t:TypeId) (sz:Nat) (e:α→List PV) (G:α→Prop):Prop where
 len:∀ a,(e a).length=sz
 dec:∀ (sp:Nat→Bool) (hd:Bool) (fuel:Nat),fuel < N→∀ (cs:List Value) (x:DataW H×List MemPlace),DataW.trod enc P w 0 sp hd fuel t cs=some x→Light P t x.1→∃ a,G a∧zhi w cs (e a)
theorem Dec.toN {α:Type} {t:TypeId} {sz:Nat} {e:α→List PV} {G:α→Prop} (h:Dec P w enc t sz e G) (N:Nat):DecN P w enc N t sz e G:=⟨h.len,fun sp hd fuel _=>h.dec sp hd fuel⟩
theorem Dec.ofN {α:Type} {t:TypeId} {sz:Nat} {e:α→List PV} {G:α→Prop} (h:∀ N,DecN P w enc N t sz e G):Dec P w enc t sz e G:=⟨(h 0).len,fun sp hd fuel=>(h (fuel+1)).dec sp hd fuel (Nat.lt_succ_self _)⟩
theorem DecN.zero {α:Type} {t:TypeId} {sz:Nat} {e:α→List PV} {G:α→Prop} (h:∀ a,(e a).length=sz):DecN P w enc 0 t sz e G:=⟨h,fun _ _ _ h=>absurd h (Nat.not_lt_zero _)⟩
theorem DecN.map {N:Nat} {α β:Type} {t:TypeId} {sz:Nat} {e:α→List PV} {G:α→Prop} {e':β→List PV} {G':β→Prop} (g:α→β) (f:β→α) (hgf:∀ b,e (f b)=e' b) (hg:∀ a,e' (g a)=e a) (hG:∀ a,G a→G' (g a)) (h:DecN P w enc N t sz e G):DecN P w enc N t sz e' G' :=
 ⟨fun b=>by rw [← hgf]; exact h.len _,fun sp hd fuel hf cs x hx hw=>by
  obtain ⟨a,h1,h2⟩:=h.dec sp hd fuel hf cs x hx hw
  exact ⟨g a,hG a h1,by rw [hg]; exact h2⟩⟩
theorem DecN.slice {N : Nat} {α : Type} {t e : TypeId} {sz : Nat} {ec : α → List PV} {G : α → Prop} (ht : P.underlying t = some (.slice e)) (hc : P.cellsOf e = sz) (h0 : 0 < sz) (hb : 0 < P.bytesOf e) (he : DecN P w enc N e sz ec G) :
  DecN P w enc N t 1 (fun l:List α=>[.lst (l.map ec)]) (fun l=>(∀ a∈l,G a)∧l.length≤reachBytes) :=
 ⟨fun _=>rfl,fun sp hd fuel hN cs x h hw=>by
  rcases DataW.trod_slice ht h with ⟨rfl,rfl⟩ | ⟨a,len,cap,elems,rest,n,hfn,rfl,rfl,_,hle,_,hlen,hel,_,_⟩
  ·exact ⟨[],⟨by simp,by simp⟩,.one (.lst none 0 0 [] [] 1 rfl (by simp) rfl (by simp) (by simp) (.inl rfl) (fun _=>⟨rfl,rfl⟩) (Nat.le_refl _)) rfl⟩
  ·have hn:n < N:=by omega
   have hwt:∀ k,k∈((elems.map (·.1)).length+(rest.map (·.1)).length) * P.bytesOf e :: (DataW.weightsAll P e (elems.map (·.1))++DataW.weightsAll P e (rest.map (·.1)))→k≤reachBytes:=fun k hk=>by
    refine hw k ?_
    simp only [DataW.weights,ht]
    exact hk
   obtain ⟨l,l1,l2⟩:=zrq (n:=len) (Q:=fun i (x:α×List Value)=>G x.1∧w.cells? 0 (a.add (i * sz)) sz=some x.2∧zhi w x.2 (ec x.1)) fun i hi=>by
    have h1:=hel i hi
    have hi':i < elems.length:=by omega
    rw [List.getElem?_eq_getElem hi',hc] at h1
    obtain ⟨cs',h2,h3⟩:=Option.bind_eq_some_iff.1 h1
    obtain ⟨b,h4,h5⟩:=he.dec sp hd n hn cs' _ h3 fun k hk=>hwt k (List.mem_cons_of_mem _ (List.mem_append_left _ (zkm (List.mem_map.2 ⟨elems[i],List.getElem_mem hi',rfl⟩) k hk)))
    exact ⟨(b,cs'),h4,h2,h5⟩
   refine ⟨l.map (·.1),⟨fun b hb'=>?_,?_⟩,.one (zxo h0 he.len hle l1 fun i x hx=>(l2 i x hx).2) rfl⟩
   ·obtain ⟨x,hx,rfl⟩:=List.mem_map.1 hb'
    obtain ⟨i,hi⟩:=List.mem_iff_getElem?.1 hx
    exact (l2 i x hi).1
   ·have:=hwt _ (List.mem_cons_self ..)
    rw [List.length_map,List.length_map,hlen] at this
    rw [List.length_map,l1]
    exact Nat.le_trans (Nat.le_trans (Nat.le_add_right len rest.length) (Nat.le_mul_of_pos_right _ hb)) this⟩

structure zn0 (P:Program) (w:World) {H:Type} (enc:TypeId×Value→H) (N:Nat) {α:Type} (fs:List Field) (off sz:Nat) (e:α→List PV) (G:α→Prop):Prop where
 len:∀ a,(e a).length=sz
 dec:∀ (sp:Nat→Bool) (hd:Bool) (n:Nat),n < N→∀ (cs:List Value) (ds:List (DataW H)),ds.length=fs.length→cs.length=off+sz→(∀ (i:Nat) f,fs[i]? = some f→∃ ps,DataW.trod enc P w 0 sp hd n f.type ((cs.drop f.offset).take (P.cellsOf f.type))=(ds[i]?).map fun d=>(d,ps)) →
  (∀ k∈DataW.weightsEach P (fs.map (·.type)) ds,k≤reachBytes)→∃ a,G a∧zhi w (cs.drop off) (e a)
theorem zn0.nil {N:Nat} (off:Nat):zn0 P w enc N [] off 0 (fun _:Unit=>[]) (fun _=>True) :=
 ⟨fun _=>rfl,fun sp hd n _ cs ds _ hl _ _=>⟨(),trivial,by
  have:cs.drop off=[]:=List.drop_eq_nil_of_le (by omega)
  rw [this]
  exact ⟨rfl,by simp,by simp⟩⟩⟩
theorem zn0.cons {N : Nat} {α β : Type} {f : Field} {fs : List Field} {off sz sz' : Nat} {e : α → List PV} {G : α → Prop} {e' : β → List PV} {G' : β → Prop} (ho : f.offset = off) (hc : P.cellsOf f.type = sz) (h : DecN P w enc N f.type sz e G) (hr : zn0 P w enc N fs (off + sz) sz' e' G') :
  zn0 P w enc N (f :: fs) off (sz+sz') (fun x:α×β=>e x.1++e' x.2) (fun x=>G x.1∧G' x.2) :=
 ⟨fun x=>by rw [List.length_append,h.len,hr.len],fun sp hd n hn cs ds hl hcs hall hw=>by
  match ds,hl with
  | [],hl=>simp at hl
  | d :: ds,hl =>
   rw [List.map_cons,DataW.weightsEach] at hw
   obtain ⟨ps,h0⟩:=hall 0 f rfl
   simp only [List.getElem?_cons_zero,Option.map_some] at h0
   obtain ⟨a,a1,a2⟩:=h.dec sp hd n hn _ _ h0 fun k hk=>hw k (List.mem_append_left _ hk)
   obtain ⟨b,b1,b2⟩:=hr.dec sp hd n hn cs ds (by simpa using hl) (by omega) (fun i g hg=>by simpa using hall (i+1) g (by simpa using hg)) fun k hk=>hw k (List.mem_append_right _ hk)
   refine ⟨(a,b),⟨a1,b1⟩,?_⟩
   have e1:cs.drop off=(cs.drop off).take sz++cs.drop (off+sz):=by
    rw [← List.drop_drop,List.take_append_drop]
   rw [e1]
   rw [ho,hc] at a2
   exact a2.append b2⟩
theorem DecN.struct {N:Nat} {α:Type} {t:TypeId} {fs:Array Field} {sz:Nat} {e:α→List PV} {G:α→Prop} (ht:P.underlying t=some (.struct fs)) (hc:P.cellsOf t=sz) (h:zn0 P w enc N fs.toList 0 sz e G):DecN P w enc (N+1) t sz e G :=
 ⟨h.len,fun sp hd fuel hN cs x hx hw=>by
  obtain ⟨xs,n,hfn,rfl,hl,hxs,hf⟩:=DataW.trod_struct ht hx
  obtain ⟨a,a1,a2⟩:=h.dec sp hd n (by omega) cs (xs.map (·.1)) (by simp [hxs]) (by rw [hl,hc,Nat.zero_add]) (fun i f hi=>by
   have h1:=hf i f (by simpa using hi)
   have hlt:i < xs.length:=by
    have:=(List.getElem?_eq_some_iff.1 hi).1
    rw [hxs]; simpa using this
   refine ⟨xs[i].2,?_⟩
   rw [h1]
   simp [hlt]) fun k hk=>hw k (by
    simp only [DataW.weights,ht]
    exact hk)
  exact ⟨a,a1,by simpa using a2⟩⟩
end Go.Abs
set_option maxRecDepth 20000
namespace Go.Proofs.YtimojjnmmlhijaaGreat
open Go.Abs


noncomputable section
set_option maxHeartbeats 4000000 in
theorem zhe (a0:Int) (r:zm) (h:zb2 a0=some r):CallV Tryz.prog 25 [.val (.int .i64 a0)] (fun v=>v = .agg (z6 r)):=by
 refine CallV.ple ?_
 refine zc [] Ty.mixed Tryz.func25 rfl (by kernel_rfl) (by simp [Tryz.ntmps25]) ?_; rw [Tryz.ntmps25,Tryz.results25]
 unfold zb2 at h
 try simp -implicitDefEqProofs only [go_sem]
 refine zb (fun b22=>?_) (fun b22=>?_)
 ·replace h:=ze h b22
  cases h
  try simp -implicitDefEqProofs only [go_sem,b22]
  all_goals ((repeat' apply And.intro) <;> rfl)
 ·replace h:=zd h b22
  try simp -implicitDefEqProofs only [go_sem,b22]
  refine zb (fun b23=>?_) (fun b23=>?_)
  ·replace h:=ze h b23
   cases h
   try simp -implicitDefEqProofs only [go_sem,b22,b23]
   all_goals ((repeat' apply And.intro) <;> rfl)
  ·replace h:=zd h b23
   try simp -implicitDefEqProofs only [go_sem,b22,b23]
   refine zb (fun b24=>?_) (fun b24=>?_)
   ·replace h:=ze h b24
    cases h
    try simp -implicitDefEqProofs only [go_sem,b22,b23,b24]
    all_goals ((repeat' apply And.intro) <;> rfl)
   ·replace h:=zd h b24
    cases h
    try simp -implicitDefEqProofs only [go_sem,b22,b23,b24]
    all_goals ((repeat' apply And.intro) <;> rfl)

set_option maxHeartbeats 4000000 in
theorem zmc (a0:List Edge) (p1:Edge→Option Bool) (k1:FuncId) (fs1 cs1:List PV) (hp1:∀ x0 r,p1 x0=some r→CallV Tryz.prog k1 (fs1++[.agg (encEdge x0)]++cs1) (fun v=>v = .val (.bool r))) (r:Int) (h:zek a0 p1=some r):CallV Tryz.prog 232 [.lst (a0.map encEdge),.clo (.func k1) fs1 cs1] (fun v=>v = .val (.int .i64 r)):=by
 refine CallV.ple ?_
 refine zc [] Ty.mixed Tryz.func232 rfl (by kernel_rfl) (by simp [Tryz.ntmps232]) ?_; rw [Tryz.ntmps232,Tryz.results232]
 unfold zek at h
 obtain ⟨fus61,h⟩:=chk_s h
 unfold fuel at fus61
 try simp -implicitDefEqProofs only [go_sem]
 refine z7 (fun x:(Nat×(Unit))×(Unit)=>envL [(0,.p (.lst (a0.map encEdge))),(1,.p (.clo (.func k1) fs1 cs1)),(7,.p (.val (.int .i64 ((a0.length:Nat):Int)))),(8,.p (.val (.int .i64 ((x.1.1:Nat):Int))))]) (fun x=>heapL []) () h (weakL (by simp -implicitDefEqProofs only [go_sem] <;> ((repeat' apply And.intro) <;> rfl))) ?_ ?_
 ·intro i61 s61 g61 nxts61 Rs61 his61 hNs61 h
  have hws61:=zk (k:=i61) his61 (by omega)
  try dsimp only at h
  obtain ⟨e65,c65,g65,q65,h⟩:=idx_s encEdge h
  obtain ⟨r66,hr66,h⟩:=thn_s h
  try simp -implicitDefEqProofs only [go_sem,his61,hws61,c65,g65]
  refine callG (hp1 e65 r66 hr66) (by simp -implicitDefEqProofs only [go_sem,his61,hws61,c65,g65,zfd,ze5,Bool.or_false,Bool.false_or] <;> rfl) (za _) (by first | exact pers | exact scal rfl) ?_
  try simp -implicitDefEqProofs only [go_sem,his61,hws61,c65,g65]
  refine zb (fun b67=>?_) (fun b67=>?_)
  ·replace h:=ze h b67
   cases h
   try simp -implicitDefEqProofs only [go_sem,his61,hws61,c65,g65,b67]
   all_goals ((repeat' apply And.intro) <;> rfl)
  ·replace h:=zd h b67
   try simp -implicitDefEqProofs only [go_sem,his61,hws61,c65,g65,b67]
   exact hNs61 () () h (weakL (by simp -implicitDefEqProofs only [go_sem,his61,hws61,c65,g65,b67] <;> ((repeat' apply And.intro) <;> rfl)))
 ·intro i61 s61 g61 Rs61 hes61 h
  have hns61:¬ (i61 < a0.length):=by omega
  try dsimp only at h
  cases h
  try simp -implicitDefEqProofs only [go_sem,hns61]
  all_goals ((repeat' apply And.intro) <;> rfl)

set_option maxHeartbeats 4000000 in
theorem zpl (a0:Edge) (a1:Types) (r:Bool) (h:zfw a0 a1=some r):CallV Tryz.prog 184 [.agg (encEdge a0),.eptr [.lst (a1.nodes.map encNode),.lst (a1.edges.map encEdgeT)] 0] (fun v=>v = .val (.bool r)):=by
 refine CallV.ple ?_
 refine zc [] Ty.mixed Tryz.func184 rfl (by kernel_rfl) (by simp [Tryz.ntmps184]) ?_; rw [Tryz.ntmps184,Tryz.results184]
 unfold zfw at h
 cases h
 try simp -implicitDefEqProofs only [go_sem]
 all_goals ((repeat' apply And.intro) <;> rfl)

set_option maxHeartbeats 4000000 in
theorem zvv (a0:zbs) (a1:zbs) (r:Bool) (h:zg4 a0 a1=some r):CallV Tryz.prog 239 [.agg (zbk a0),.eptr (zbk a1) 0] (fun v=>v = .val (.bool r)):=by
 refine CallV.ple ?_
 refine zc [] Ty.mixed Tryz.func239 rfl (by kernel_rfl) (by simp [Tryz.ntmps239]) ?_; rw [Tryz.ntmps239,Tryz.results239]
 unfold zg4 at h
 try simp -implicitDefEqProofs only [go_sem]
 refine zj (fun b218=>?_) (fun b218=>?_)
 ·replace h:=ze h b218
  cases h
  try simp -implicitDefEqProofs only [go_sem,b218]
  all_goals ((repeat' apply And.intro) <;> rfl)
 ·replace h:=zd h b218
  cases h
  try simp -implicitDefEqProofs only [go_sem,b218]
  all_goals ((repeat' apply And.intro) <;> rfl)

set_option maxHeartbeats 4000000 in
theorem zd9 (rec245:zi→Option Bool) (hrec245:∀ (a0:zi) (r:Bool),rec245 a0=some r→CallV Tryz.prog 245 [.agg (zt a0)] (fun v=>v = .val (.bool r))) (a0:zi) (r:Bool) (h:zbp rec245 a0=some r):CallV Tryz.prog 274 [.agg (zt a0)] (fun v=>v = .val (.bool r)):=by
 refine CallV.ple ?_
 refine zc [] Ty.mixed Tryz.func274 rfl (by kernel_rfl) (by simp [Tryz.ntmps274]) ?_; rw [Tryz.ntmps274,Tryz.results274]
 unfold zbp at h
 obtain ⟨r704,hr704,h⟩:=thn_s h
 try simp -implicitDefEqProofs only [go_sem]
 refine callG (hrec245 a0 r704 hr704) (by simp -implicitDefEqProofs only [go_sem] <;> rfl) (za _) (by first | exact pers | exact scal rfl) ?_
 cases h
 try simp -implicitDefEqProofs only [go_sem]
 all_goals ((repeat' apply And.intro) <;> rfl)

set_option maxHeartbeats 4000000 in
theorem zpg (a0:zl) (r:Bool) (h:zfy a0=some r):CallV Tryz.prog 31 [.agg [.lst (a0.deletes.map encI),.lst (a0.creates.map encI)]] (fun v=>v = .val (.bool r)):=by
 refine CallV.ple ?_
 refine zc [] Ty.mixed Tryz.func31 rfl (by kernel_rfl) (by simp [Tryz.ntmps31]) ?_; rw [Tryz.ntmps31,Tryz.results31]
 unfold zfy at h
 cases h
 try simp -implicitDefEqProofs only [go_sem]
 all_goals ((repeat' apply And.intro) <;> rfl)

set_option maxHeartbeats 4000000 in
theorem zim (a0:List zbm) (p1:zbm→Option Bool) (k1:FuncId) (fs1 cs1:List PV) (hp1:∀ x0 r,p1 x0=some r→CallV Tryz.prog k1 (fs1++[.agg (zq x0)]++cs1) (fun v=>v = .val (.bool r))) (r:Int) (h:zfi a0 p1=some r):CallV Tryz.prog 61 [.lst (a0.map zq),.clo (.func k1) fs1 cs1] (fun v=>v = .val (.int .i64 r)):=by
 refine CallV.ple ?_
 refine zc [] Ty.mixed Tryz.func61 rfl (by kernel_rfl) (by simp [Tryz.ntmps61]) ?_; rw [Tryz.ntmps61,Tryz.results61]
 unfold zfi at h
 obtain ⟨fus1609,h⟩:=chk_s h
 unfold fuel at fus1609
 try simp -implicitDefEqProofs only [go_sem]
 refine z7 (fun x:(Nat×(Unit))×(Unit)=>envL [(0,.p (.lst (a0.map zq))),(1,.p (.clo (.func k1) fs1 cs1)),(7,.p (.val (.int .i64 ((a0.length:Nat):Int)))),(8,.p (.val (.int .i64 ((x.1.1:Nat):Int))))]) (fun x=>heapL []) () h (weakL (by simp -implicitDefEqProofs only [go_sem] <;> ((repeat' apply And.intro) <;> rfl))) ?_ ?_
 ·intro i1609 s1609 g1609 nxts1609 Rs1609 his1609 hNs1609 h
  have hws1609:=zk (k:=i1609) his1609 (by omega)
  try dsimp only at h
  obtain ⟨e1613,c1613,g1613,q1613,h⟩:=idx_s zq h
  obtain ⟨r1614,hr1614,h⟩:=thn_s h
  try simp -implicitDefEqProofs only [go_sem,his1609,hws1609,c1613,g1613]
  refine callG (hp1 e1613 r1614 hr1614) (by simp -implicitDefEqProofs only [go_sem,his1609,hws1609,c1613,g1613,zfd,ze5,Bool.or_false,Bool.false_or] <;> rfl) (za _) (by first | exact pers | exact scal rfl) ?_
  try simp -implicitDefEqProofs only [go_sem,his1609,hws1609,c1613,g1613]
  refine zb (fun b1615=>?_) (fun b1615=>?_)
  ·replace h:=ze h b1615
   cases h
   try simp -implicitDefEqProofs only [go_sem,his1609,hws1609,c1613,g1613,b1615]
   all_goals ((repeat' apply And.intro) <;> rfl)
  ·replace h:=zd h b1615
   try simp -implicitDefEqProofs only [go_sem,his1609,hws1609,c1613,g1613,b1615]
   exact hNs1609 () () h (weakL (by simp -implicitDefEqProofs only [go_sem,his1609,hws1609,c1613,g1613,b1615] <;> ((repeat' apply And.intro) <;> rfl)))
 ·intro i1609 s1609 g1609 Rs1609 hes1609 h
  have hns1609:¬ (i1609 < a0.length):=by omega
  try dsimp only at h
  cases h
  try simp -implicitDefEqProofs only [go_sem,hns1609]
  all_goals ((repeat' apply And.intro) <;> rfl)

set_option maxHeartbeats 4000000 in
theorem znf (a0:Types) (a1:zx) (a2:Int) (a3:Int) (r:Attr×Bool) (h:zet a0 a1 a2 a3=some r):CallV Tryz.prog 162 [.agg [.lst (a0.nodes.map encNode),.lst (a0.edges.map encEdgeT)],.agg (zbq a1),.val (.int .i64 a2),.val (.int .i64 a3)] (fun v=>v = .tup [.agg (encAttr r.1),.val (.bool r.2)]):=by
 refine CallV.ple ?_
 refine zc [] Ty.mixed Tryz.func162 rfl (by kernel_rfl) (by simp [Tryz.ntmps162]) ?_; rw [Tryz.ntmps162,Tryz.results162]
 unfold zet at h
 try simp -implicitDefEqProofs only [go_sem]
 refine zn (fun b2210=>?_) (fun b2210=>?_)
 ·replace h:=ze h b2210
  cases h
  try simp -implicitDefEqProofs only [go_sem,b2210]
  all_goals ((repeat' apply And.intro) <;> rfl)
 ·replace h:=zd h b2210
  try simp -implicitDefEqProofs only [go_sem,b2210]
  refine zb (fun b2211=>?_) (fun b2211=>?_)
  ·replace h:=ze h b2211
   cases h
   try simp -implicitDefEqProofs only [go_sem,b2210,b2211]
   all_goals ((repeat' apply And.intro) <;> rfl)
  ·replace h:=zd h b2211
   try simp -implicitDefEqProofs only [go_sem,b2210,b2211]
   refine zbd [.q,.q,.q,.q,.q,.q,.q,.q,.q,.q,.q,.q,.q] (by kernel_rfl) ?_
   obtain ⟨e2212,c2212a,c2212b,g2212,q2212,h⟩:=atZ_s encI h
   have c2212n:=zbj c2212a c2212b
   obtain ⟨r2213,hr2213,h⟩:=thn_s h
   try simp -implicitDefEqProofs only [go_sem,b2210,b2211,c2212a,c2212b,c2212n,g2212]
   refine calldG (zi9 a0 e2212 r2213 hr2213) (by simp -implicitDefEqProofs only [go_sem,b2210,b2211,c2212a,c2212b,c2212n,g2212] <;> rfl) (za _) (by first | exact pers | exact scal rfl) ?_
   try simp -implicitDefEqProofs only [go_sem,b2210,b2211,c2212a,c2212b,c2212n,g2212]
   refine zj (fun b2214=>?_) (fun b2214=>?_)
   ·replace h:=ze h b2214
    try simp -implicitDefEqProofs only [go_sem,b2210,b2211,c2212a,c2212b,c2212n,g2212,b2214]
    refine zn (fun b2215=>?_) (fun b2215=>?_)
    ·replace h:=ze h b2215
     cases h
     try simp -implicitDefEqProofs only [go_sem,b2210,b2211,c2212a,c2212b,c2212n,g2212,b2214,b2215]
     all_goals ((repeat' apply And.intro) <;> rfl)
    ·replace h:=zd h b2215
     try simp -implicitDefEqProofs only [go_sem,b2210,b2211,c2212a,c2212b,c2212n,g2212,b2214,b2215]
     refine zb (fun b2216=>?_) (fun b2216=>?_)
     ·replace h:=ze h b2216
      cases h
      try simp -implicitDefEqProofs only [go_sem,b2210,b2211,c2212a,c2212b,c2212n,g2212,b2214,b2215,b2216]
      all_goals ((repeat' apply And.intro) <;> rfl)
     ·replace h:=zd h b2216
      obtain ⟨e2217,c2217a,c2217b,g2217,q2217,h⟩:=atZ_s encAttr h
      have c2217n:=zbj c2217a c2217b
      cases h
      try simp -implicitDefEqProofs only [go_sem,b2210,b2211,c2212a,c2212b,c2212n,g2212,b2214,b2215,b2216,c2217a,c2217b,c2217n,g2217]
      all_goals ((repeat' apply And.intro) <;> rfl)
   ·replace h:=zd h b2214
    cases h
    try simp -implicitDefEqProofs only [go_sem,b2210,b2211,c2212a,c2212b,c2212n,g2212,b2214]
    all_goals ((repeat' apply And.intro) <;> rfl)

set_option maxHeartbeats 4000000 in
theorem zl6 (a0:zx) (a1:Int) (r:Bool) (h:zeb a0 a1=some r):CallV Tryz.prog 165 [.agg (zbq a0),.val (.int .i64 a1)] (fun v=>v = .val (.bool r)):=by
 refine CallV.ple ?_
 refine zc [] Ty.mixed Tryz.func165 rfl (by kernel_rfl) (by simp [Tryz.ntmps165]) ?_; rw [Tryz.ntmps165,Tryz.results165]
 unfold zeb at h
 obtain ⟨fus2275,h⟩:=chk_s h
 unfold fuel at fus2275
 try simp -implicitDefEqProofs only [go_sem]
 refine z7 (fun x:(Nat×(Unit))×(Unit)=>envL [(1,.p (.val (.int .i64 a1))),(2,.ptr 2 0),(5,.p (.val (.int .i64 ((x.1.1:Nat):Int))))]) (fun x=>heapL [(2,.box ((zbq a0).map .p))]) () h (weakL (by simp -implicitDefEqProofs only [go_sem] <;> ((repeat' apply And.intro) <;> rfl))) ?_ ?_
 ·intro i2275 s2275 g2275 nxts2275 Rs2275 his2275 hNs2275 h
  have hws2275:=zk (k:=i2275) his2275 (by omega)
  try dsimp only at h
  obtain ⟨e2278,c2278,g2278,q2278,h⟩:=idx_s zbk h
  try simp -implicitDefEqProofs only [go_sem,his2275,hws2275,c2278,g2278]
  refine zb (fun b2279=>?_) (fun b2279=>?_)
  ·replace h:=ze h b2279
   cases h
   try simp -implicitDefEqProofs only [go_sem,his2275,hws2275,c2278,g2278,b2279]
   all_goals ((repeat' apply And.intro) <;> rfl)
  ·replace h:=zd h b2279
   try simp -implicitDefEqProofs only [go_sem,his2275,hws2275,c2278,g2278,b2279]
   exact hNs2275 () () h (weakL (by simp -implicitDefEqProofs only [go_sem,his2275,hws2275,c2278,g2278,b2279] <;> ((repeat' apply And.intro) <;> rfl)))
 ·intro i2275 s2275 g2275 Rs2275 hes2275 h
  have hns2275:¬ (i2275 < a0.slots.length):=by omega
  try dsimp only at h
  cases h
  try simp -implicitDefEqProofs only [go_sem,hns2275]
  all_goals ((repeat' apply And.intro) <;> rfl)

set_option maxHeartbeats 4000000 in
theorem zg1 (a0:Graph) (a1:Graph) (a2:zbo) (r:Int) (h:zbn a0 a1 a2=some r):CallV Tryz.prog 167 [.agg [.lst (a0.nodes.map encI),.lst (a0.edges.map encEdge)],.agg [.lst (a1.nodes.map encI),.lst (a1.edges.map encEdge)],.agg [.lst (a2.nodes.map encI),.lst (a2.edges.map encI)]] (fun v=>v = .val (.int .i64 r)):=by
 refine CallV.ple ?_
 refine zc [] Ty.mixed Tryz.func167 rfl (by kernel_rfl) (by simp [Tryz.ntmps167]) ?_; rw [Tryz.ntmps167,Tryz.results167]
 unfold zbn at h
 obtain ⟨r2847,hr2847,h⟩:=thn_s h
 try simp -implicitDefEqProofs only [go_sem]
 refine callG (zeq a0 r2847 hr2847) (by simp -implicitDefEqProofs only [go_sem] <;> rfl) (za _) (by first | exact pers | exact scal rfl) ?_
 try simp -implicitDefEqProofs only [go_sem]
 refine zf (fun b2848=>?_) (fun b2848=>?_)
 ·replace h:=ze h b2848
  obtain ⟨r2849,hr2849,h⟩:=thn_s h
  try simp -implicitDefEqProofs only [go_sem,b2848]
  refine callG (zeq a1 r2849 hr2849) (by simp -implicitDefEqProofs only [go_sem,b2848] <;> rfl) (za _) (by first | exact pers | exact scal rfl) ?_
  try simp -implicitDefEqProofs only [go_sem,b2848]
  refine zf (fun b2850=>?_) (fun b2850=>?_)
  ·replace h:=ze h b2850
   try simp -implicitDefEqProofs only [go_sem,b2848,b2850]
   refine zj (fun b2851=>?_) (fun b2851=>?_)
   ·replace h:=ze h b2851
    try simp -implicitDefEqProofs only [go_sem,b2848,b2850,b2851]
    refine zf (fun b2852=>?_) (fun b2852=>?_)
    ·replace h:=ze h b2852
     obtain ⟨fus2861,h⟩:=chk_s h
     unfold fuel at fus2861
     try simp -implicitDefEqProofs only [go_sem,b2848,b2850,b2851,b2852]
     refine z7 (fun x:(Nat×(Unit))×(Unit)=>envL [(3,.ptr 3 0),(4,.ptr 4 0),(5,.ptr 5 0),(9,.p (.val (.int .i64 ((x.1.1:Nat):Int))))]) (fun x=>heapL [(3,.box [.p (.lst (a0.nodes.map encI)),.p (.lst (a0.edges.map encEdge))]),(4,.box [.p (.lst (a1.nodes.map encI)),.p (.lst (a1.edges.map encEdge))]),(5,.box [.p (.lst (a2.nodes.map encI)),.p (.lst (a2.edges.map encI))])]) () h (weakL (by simp -implicitDefEqProofs only [go_sem,b2848,b2850,b2851,b2852] <;> ((repeat' apply And.intro) <;> rfl))) ?_ ?_
     ·intro i2861 s2861 g2861 nxts2861 Rs2861 his2861 hNs2861 h
      have hws2861:=zk (k:=i2861) his2861 (by omega)
      try dsimp only at h
      try simp -implicitDefEqProofs only [go_sem,b2848,b2850,b2851,b2852,his2861,hws2861]
      refine zbd [.q,.q,.q,.q,.q,.q,.q,.q,.q,.q,.q,.q,.q,.q,.q,.q,.q] (by kernel_rfl) ?_
      obtain ⟨e2868,c2868,g2868,q2868,h⟩:=idx_s encI h
      try simp -implicitDefEqProofs only [go_sem,b2848,b2850,b2851,b2852,his2861,hws2861,c2868,g2868]
      refine zex (fun b2869=>?_) (fun b2869=>?_)
      ·replace h:=ze h b2869
       cases h
       try simp -implicitDefEqProofs only [go_sem,b2848,b2850,b2851,b2852,his2861,hws2861,c2868,g2868,b2869]
       all_goals ((repeat' apply And.intro) <;> rfl)
      ·replace h:=zd h b2869
       try simp -implicitDefEqProofs only [go_sem,b2848,b2850,b2851,b2852,his2861,hws2861,c2868,g2868,b2869]
       refine zb (fun b2870=>?_) (fun b2870=>?_)
       ·replace h:=ze h b2870
        cases h
        try simp -implicitDefEqProofs only [go_sem,b2848,b2850,b2851,b2852,his2861,hws2861,c2868,g2868,b2869,b2870]
        all_goals ((repeat' apply And.intro) <;> rfl)
       ·replace h:=zd h b2870
        try simp -implicitDefEqProofs only [go_sem,b2848,b2850,b2851,b2852,his2861,hws2861,c2868,g2868,b2869,b2870]
        refine zbd [.q,.q,.q,.q,.q,.q,.q,.q,.q,.q,.q,.q,.q,.q,.q] (by kernel_rfl) ?_
        obtain ⟨e2871,c2871a,c2871b,g2871,q2871,h⟩:=atZ_s encI h
        have c2871n:=zbj c2871a c2871b
        obtain ⟨e2872,c2872,g2872,q2872,h⟩:=idx_s encI h
        try simp -implicitDefEqProofs only [go_sem,b2848,b2850,b2851,b2852,his2861,hws2861,c2868,g2868,b2869,b2870,c2871a,c2871b,c2871n,g2871,c2872,g2872]
        refine zf (fun b2873=>?_) (fun b2873=>?_)
        ·replace h:=ze h b2873
         try simp -implicitDefEqProofs only [go_sem,b2848,b2850,b2851,b2852,his2861,hws2861,c2868,g2868,b2869,b2870,c2871a,c2871b,c2871n,g2871,c2872,g2872,b2873]
         exact hNs2861 () () h (weakL (by simp -implicitDefEqProofs only [go_sem,b2848,b2850,b2851,b2852,his2861,hws2861,c2868,g2868,b2869,b2870,c2871a,c2871b,c2871n,g2871,c2872,g2872,b2873] <;> ((repeat' apply And.intro) <;> rfl)))
        ·replace h:=zd h b2873
         cases h
         try simp -implicitDefEqProofs only [go_sem,b2848,b2850,b2851,b2852,his2861,hws2861,c2868,g2868,b2869,b2870,c2871a,c2871b,c2871n,g2871,c2872,g2872,b2873]
         all_goals ((repeat' apply And.intro) <;> rfl)
     ·intro i2861 s2861 g2861 Rs2861 hes2861 h
      have hns2861:¬ (i2861 < a0.nodes.length):=by omega
      try dsimp only at h
      obtain ⟨fus2886,h⟩:=chk_s h
      unfold fuel at fus2886
      try simp -implicitDefEqProofs only [go_sem,b2848,b2850,b2851,b2852,hns2861]
      refine z7 (fun x:(Nat×(Unit))×(Unit)=>envL [(3,.ptr 3 0),(4,.ptr 4 0),(5,.ptr 5 0),(10,.p (.val (.int .i64 ((x.1.1:Nat):Int))))]) (fun x=>heapL [(3,.box [.p (.lst (a0.nodes.map encI)),.p (.lst (a0.edges.map encEdge))]),(4,.box [.p (.lst (a1.nodes.map encI)),.p (.lst (a1.edges.map encEdge))]),(5,.box [.p (.lst (a2.nodes.map encI)),.p (.lst (a2.edges.map encI))])]) () h (weakL (by simp -implicitDefEqProofs only [go_sem,b2848,b2850,b2851,b2852,hns2861] <;> ((repeat' apply And.intro) <;> rfl))) ?_ ?_
      ·intro i2886 s2886 g2886 nxts2886 Rs2886 his2886 hNs2886 h
       have hws2886:=zk (k:=i2886) his2886 (by omega)
       try dsimp only at h
       try simp -implicitDefEqProofs only [go_sem,b2848,b2850,b2851,b2852,hns2861,his2886,hws2886]
       refine zbd [.q,.q,.q,.q,.q,.q,.q,.q,.q,.q,.q,.q,.q,.q,.q,.q,.q] (by kernel_rfl) ?_
       obtain ⟨e2897,c2897,g2897,q2897,h⟩:=idx_s encI h
       try simp -implicitDefEqProofs only [go_sem,b2848,b2850,b2851,b2852,hns2861,his2886,hws2886,c2897,g2897]
       refine zex (fun b2898=>?_) (fun b2898=>?_)
       ·replace h:=ze h b2898
        cases h
        try simp -implicitDefEqProofs only [go_sem,b2848,b2850,b2851,b2852,hns2861,his2886,hws2886,c2897,g2897,b2898]
        all_goals ((repeat' apply And.intro) <;> rfl)
       ·replace h:=zd h b2898
        try simp -implicitDefEqProofs only [go_sem,b2848,b2850,b2851,b2852,hns2861,his2886,hws2886,c2897,g2897,b2898]
        refine zb (fun b2899=>?_) (fun b2899=>?_)
        ·replace h:=ze h b2899
         cases h
         try simp -implicitDefEqProofs only [go_sem,b2848,b2850,b2851,b2852,hns2861,his2886,hws2886,c2897,g2897,b2898,b2899]
         all_goals ((repeat' apply And.intro) <;> rfl)
        ·replace h:=zd h b2899
         try simp -implicitDefEqProofs only [go_sem,b2848,b2850,b2851,b2852,hns2861,his2886,hws2886,c2897,g2897,b2898,b2899]
         refine zbd [.q,.q,.q,.q,.q,.o,.o,.o,.o,.o,.o,.o,.o,.o,.w,.w,.s,.s] (by kernel_rfl) ?_
         obtain ⟨e2900,c2900,g2900,q2900,h⟩:=idx_s encEdge h
         obtain ⟨e2901,c2901a,c2901b,g2901,q2901,h⟩:=atZ_s encEdge h
         have c2901n:=zbj c2901a c2901b
         try simp -implicitDefEqProofs only [go_sem,b2848,b2850,b2851,b2852,hns2861,his2886,hws2886,c2897,g2897,b2898,b2899,c2900,g2900,c2901a,c2901b,c2901n,g2901]
         refine zf (fun b2902=>?_) (fun b2902=>?_)
         ·replace h:=ze h b2902
          try simp -implicitDefEqProofs only [go_sem,b2848,b2850,b2851,b2852,hns2861,his2886,hws2886,c2897,g2897,b2898,b2899,c2900,g2900,c2901a,c2901b,c2901n,g2901,b2902]
          refine zbd [.q,.q,.q,.q,.q,.q,.q,.q,.q,.q,.q,.q,.q,.q,.q,.q,.q,.q,.q,.q] (by kernel_rfl) ?_
          obtain ⟨e2903,c2903a,c2903b,g2903,q2903,h⟩:=atZ_s encI h
          have c2903n:=zbj c2903a c2903b
          try simp -implicitDefEqProofs only [go_sem,b2848,b2850,b2851,b2852,hns2861,his2886,hws2886,c2897,g2897,b2898,b2899,c2900,g2900,c2901a,c2901b,c2901n,g2901,b2902,c2903a,c2903b,c2903n,g2903]
          refine zcu (fun b2904=>?_) (fun b2904=>?_)
          ·replace h:=ze h b2904
           obtain ⟨e2905,c2905a,c2905b,g2905,q2905,h⟩:=atZ_s encI h
           have c2905n:=zbj c2905a c2905b
           try simp -implicitDefEqProofs only [go_sem,b2848,b2850,b2851,b2852,hns2861,his2886,hws2886,c2897,g2897,b2898,b2899,c2900,g2900,c2901a,c2901b,c2901n,g2901,b2902,c2903a,c2903b,c2903n,g2903,b2904,c2905a,c2905b,c2905n,g2905]
           refine zf (fun b2906=>?_) (fun b2906=>?_)
           ·replace h:=ze h b2906
            try simp -implicitDefEqProofs only [go_sem,b2848,b2850,b2851,b2852,hns2861,his2886,hws2886,c2897,g2897,b2898,b2899,c2900,g2900,c2901a,c2901b,c2901n,g2901,b2902,c2903a,c2903b,c2903n,g2903,b2904,c2905a,c2905b,c2905n,g2905,b2906]
            exact hNs2886 () () h (weakL (by simp -implicitDefEqProofs only [go_sem,b2848,b2850,b2851,b2852,hns2861,his2886,hws2886,c2897,g2897,b2898,b2899,c2900,g2900,c2901a,c2901b,c2901n,g2901,b2902,c2903a,c2903b,c2903n,g2903,b2904,c2905a,c2905b,c2905n,g2905,b2906] <;> ((repeat' apply And.intro) <;> rfl)))
           ·replace h:=zd h b2906
            cases h
            try simp -implicitDefEqProofs only [go_sem,b2848,b2850,b2851,b2852,hns2861,his2886,hws2886,c2897,g2897,b2898,b2899,c2900,g2900,c2901a,c2901b,c2901n,g2901,b2902,c2903a,c2903b,c2903n,g2903,b2904,c2905a,c2905b,c2905n,g2905,b2906]
            all_goals ((repeat' apply And.intro) <;> rfl)
          ·replace h:=zd h b2904
           cases h
           try simp -implicitDefEqProofs only [go_sem,b2848,b2850,b2851,b2852,hns2861,his2886,hws2886,c2897,g2897,b2898,b2899,c2900,g2900,c2901a,c2901b,c2901n,g2901,b2902,c2903a,c2903b,c2903n,g2903,b2904]
           all_goals ((repeat' apply And.intro) <;> rfl)
         ·replace h:=zd h b2902
          cases h
          try simp -implicitDefEqProofs only [go_sem,b2848,b2850,b2851,b2852,hns2861,his2886,hws2886,c2897,g2897,b2898,b2899,c2900,g2900,c2901a,c2901b,c2901n,g2901,b2902]
          all_goals ((repeat' apply And.intro) <;> rfl)
      ·intro i2886 s2886 g2886 Rs2886 hes2886 h
       have hns2886:¬ (i2886 < a0.edges.length):=by omega
       try dsimp only at h
       cases h
       try simp -implicitDefEqProofs only [go_sem,b2848,b2850,b2851,b2852,hns2861,hns2886]
       all_goals ((repeat' apply And.intro) <;> rfl)
    ·replace h:=zd h b2852
     cases h
     try simp -implicitDefEqProofs only [go_sem,b2848,b2850,b2851,b2852]
     all_goals ((repeat' apply And.intro) <;> rfl)
   ·replace h:=zd h b2851
    cases h
    try simp -implicitDefEqProofs only [go_sem,b2848,b2850,b2851]
    all_goals ((repeat' apply And.intro) <;> rfl)
  ·replace h:=zd h b2850
   cases h
   try simp -implicitDefEqProofs only [go_sem,b2848,b2850]
   all_goals ((repeat' apply And.intro) <;> rfl)
 ·replace h:=zd h b2848
  cases h
  try simp -implicitDefEqProofs only [go_sem,b2848]
  all_goals ((repeat' apply And.intro) <;> rfl)

set_option maxHeartbeats 4000000 in
theorem zny (a0:List Int) (a1:Int) (r:Bool) (h:zfa a0 a1=some r):CallV Tryz.prog 170 [.lst (a0.map encI),.val (.int .i64 a1)] (fun v=>v = .val (.bool r)):=by
 refine CallV.ple ?_
 refine zc [] Ty.mixed Tryz.func170 rfl (by kernel_rfl) (by simp [Tryz.ntmps170]) ?_; rw [Tryz.ntmps170,Tryz.results170]
 unfold zfa at h
 obtain ⟨fus2958,h⟩:=chk_s h
 unfold fuel at fus2958
 try simp -implicitDefEqProofs only [go_sem]
 refine z7 (fun x:(Nat×(Unit))×(Unit)=>envL [(0,.p (.lst (a0.map encI))),(1,.p (.val (.int .i64 a1))),(5,.p (.val (.int .i64 ((x.1.1:Nat):Int))))]) (fun x=>heapL []) () h (weakL (by simp -implicitDefEqProofs only [go_sem] <;> ((repeat' apply And.intro) <;> rfl))) ?_ ?_
 ·intro i2958 s2958 g2958 nxts2958 Rs2958 his2958 hNs2958 h
  have hws2958:=zk (k:=i2958) his2958 (by omega)
  try dsimp only at h
  obtain ⟨e2961,c2961,g2961,q2961,h⟩:=idx_s encI h
  try simp -implicitDefEqProofs only [go_sem,his2958,hws2958,c2961,g2961]
  refine zb (fun b2962=>?_) (fun b2962=>?_)
  ·replace h:=ze h b2962
   cases h
   try simp -implicitDefEqProofs only [go_sem,his2958,hws2958,c2961,g2961,b2962]
   all_goals ((repeat' apply And.intro) <;> rfl)
  ·replace h:=zd h b2962
   try simp -implicitDefEqProofs only [go_sem,his2958,hws2958,c2961,g2961,b2962]
   exact hNs2958 () () h (weakL (by simp -implicitDefEqProofs only [go_sem,his2958,hws2958,c2961,g2961,b2962] <;> ((repeat' apply And.intro) <;> rfl)))
 ·intro i2958 s2958 g2958 Rs2958 hes2958 h
  have hns2958:¬ (i2958 < a0.length):=by omega
  try dsimp only at h
  cases h
  try simp -implicitDefEqProofs only [go_sem,hns2958]
  all_goals ((repeat' apply And.intro) <;> rfl)
end
end Go.Proofs.YtimojjnmmlhijaaGreat
set_option maxRecDepth 20000
namespace Go.Proofs.YtimojjnmmlhijaaGreat
open Go.Abs


noncomputable section
set_option maxHeartbeats 4000000 in
theorem zga (a0:Int) (a1:Int) (a2:Int) (r:Bool) (h:zda a0 a1 a2=some r):CallV Tryz.prog 185 [.val (.int .i64 a0),.val (.int .i64 a1),.val (.int .i64 a2)] (fun v=>v = .val (.bool r)):=by
 refine CallV.ple ?_
 refine zc [] Ty.mixed Tryz.func185 rfl (by kernel_rfl) (by simp [Tryz.ntmps185]) ?_; rw [Tryz.ntmps185,Tryz.results185]
 unfold zda at h
 try simp -implicitDefEqProofs only [go_sem]
 refine zj (fun b72=>?_) (fun b72=>?_)
 ·replace h:=ze h b72
  cases h
  try simp -implicitDefEqProofs only [go_sem,b72]
  all_goals ((repeat' apply And.intro) <;> rfl)
 ·replace h:=zd h b72
  cases h
  try simp -implicitDefEqProofs only [go_sem,b72]
  all_goals ((repeat' apply And.intro) <;> rfl)

set_option maxHeartbeats 4000000 in
theorem ztr (a0:Edge) (a1:Types) (r:Bool) (h:zhk a0 a1=some r):CallV Tryz.prog 237 [.agg (encEdge a0),.eptr [.lst (a1.nodes.map encNode),.lst (a1.edges.map encEdgeT)] 0] (fun v=>v = .val (.bool r)):=by
 refine CallV.ple ?_
 refine zc [] Ty.mixed Tryz.func237 rfl (by kernel_rfl) (by simp [Tryz.ntmps237]) ?_; rw [Tryz.ntmps237,Tryz.results237]
 unfold zhk at h
 cases h
 try simp -implicitDefEqProofs only [go_sem]
 all_goals ((repeat' apply And.intro) <;> rfl)

set_option maxHeartbeats 4000000 in
theorem zjq (a0:Graph) (a1:Graph) (a2:zbo) (r:Int) (h:ze3 a0 a1 a2=some r):CallV Tryz.prog 192 [.agg [.lst (a0.nodes.map encI),.lst (a0.edges.map encEdge)],.agg [.lst (a1.nodes.map encI),.lst (a1.edges.map encEdge)],.agg [.lst (a2.nodes.map encI),.lst (a2.edges.map encI)]] (fun v=>v = .val (.int .i64 r)):=by
 refine CallV.ple ?_
 refine zc [] Ty.mixed Tryz.func192 rfl (by kernel_rfl) (by simp [Tryz.ntmps192]) ?_; rw [Tryz.ntmps192,Tryz.results192]
 unfold ze3 at h
 obtain ⟨r547,hr547,h⟩:=thn_s h
 try simp -implicitDefEqProofs only [go_sem]
 refine callG (zh8 a0 r547 hr547) (by simp -implicitDefEqProofs only [go_sem] <;> rfl) (za _) (by first | exact pers | exact scal rfl) ?_
 try simp -implicitDefEqProofs only [go_sem]
 refine zf (fun b548=>?_) (fun b548=>?_)
 ·replace h:=ze h b548
  obtain ⟨r549,hr549,h⟩:=thn_s h
  try simp -implicitDefEqProofs only [go_sem,b548]
  refine callG (zh8 a1 r549 hr549) (by simp -implicitDefEqProofs only [go_sem,b548] <;> rfl) (za _) (by first | exact pers | exact scal rfl) ?_
  try simp -implicitDefEqProofs only [go_sem,b548]
  refine zf (fun b550=>?_) (fun b550=>?_)
  ·replace h:=ze h b550
   try simp -implicitDefEqProofs only [go_sem,b548,b550]
   refine zj (fun b551=>?_) (fun b551=>?_)
   ·replace h:=ze h b551
    try simp -implicitDefEqProofs only [go_sem,b548,b550,b551]
    refine zf (fun b552=>?_) (fun b552=>?_)
    ·replace h:=ze h b552
     obtain ⟨fus561,h⟩:=chk_s h
     unfold fuel at fus561
     try simp -implicitDefEqProofs only [go_sem,b548,b550,b551,b552]
     refine z7 (fun x:(Nat×(Unit))×(Unit)=>envL [(3,.ptr 3 0),(4,.ptr 4 0),(5,.ptr 5 0),(42,.p (.lst (a2.nodes.map encI))),(43,.p (.val (.int .i64 ((a2.nodes.length:Nat):Int)))),(44,.p (.val (.int .i64 ((x.1.1:Nat):Int))))]) (fun x=>heapL [(3,.box [.p (.lst (a0.nodes.map encI)),.p (.lst (a0.edges.map encEdge))]),(4,.box [.p (.lst (a1.nodes.map encI)),.p (.lst (a1.edges.map encEdge))]),(5,.box [.p (.lst (a2.nodes.map encI)),.p (.lst (a2.edges.map encI))])]) () h (weakL (by simp -implicitDefEqProofs only [go_sem,b548,b550,b551,b552] <;> ((repeat' apply And.intro) <;> rfl))) ?_ ?_
     ·intro i561 s561 g561 nxts561 Rs561 his561 hNs561 h
      have hws561:=zk (k:=i561) his561 (by omega)
      try dsimp only at h
      obtain ⟨e568,c568,g568,q568,h⟩:=idx_s encI h
      try simp -implicitDefEqProofs only [go_sem,b548,b550,b551,b552,his561,hws561,c568,g568]
      refine zn (fun b569=>?_) (fun b569=>?_)
      ·replace h:=ze h b569
       cases h
       try simp -implicitDefEqProofs only [go_sem,b548,b550,b551,b552,his561,hws561,c568,g568,b569]
       all_goals ((repeat' apply And.intro) <;> rfl)
      ·replace h:=zd h b569
       try simp -implicitDefEqProofs only [go_sem,b548,b550,b551,b552,his561,hws561,c568,g568,b569]
       refine zb (fun b570=>?_) (fun b570=>?_)
       ·replace h:=ze h b570
        cases h
        try simp -implicitDefEqProofs only [go_sem,b548,b550,b551,b552,his561,hws561,c568,g568,b569,b570]
        all_goals ((repeat' apply And.intro) <;> rfl)
       ·replace h:=zd h b570
        try simp -implicitDefEqProofs only [go_sem,b548,b550,b551,b552,his561,hws561,c568,g568,b569,b570]
        refine zbd [.q,.q,.q,.q,.q,.q,.q,.q,.q,.q,.q] (by kernel_rfl) ?_
        obtain ⟨e571,c571a,c571b,g571,q571,h⟩:=atZ_s encI h
        have c571n:=zbj c571a c571b
        obtain ⟨e572,c572,g572,q572,h⟩:=idx_s encI h
        try simp -implicitDefEqProofs only [go_sem,b548,b550,b551,b552,his561,hws561,c568,g568,b569,b570,c571a,c571b,c571n,g571,c572,g572]
        refine zf (fun b573=>?_) (fun b573=>?_)
        ·replace h:=ze h b573
         try simp -implicitDefEqProofs only [go_sem,b548,b550,b551,b552,his561,hws561,c568,g568,b569,b570,c571a,c571b,c571n,g571,c572,g572,b573]
         exact hNs561 () () h (weakL (by simp -implicitDefEqProofs only [go_sem,b548,b550,b551,b552,his561,hws561,c568,g568,b569,b570,c571a,c571b,c571n,g571,c572,g572,b573] <;> ((repeat' apply And.intro) <;> rfl)))
        ·replace h:=zd h b573
         cases h
         try simp -implicitDefEqProofs only [go_sem,b548,b550,b551,b552,his561,hws561,c568,g568,b569,b570,c571a,c571b,c571n,g571,c572,g572,b573]
         all_goals ((repeat' apply And.intro) <;> rfl)
     ·intro i561 s561 g561 Rs561 hes561 h
      have hns561:¬ (i561 < a2.nodes.length):=by omega
      try dsimp only at h
      obtain ⟨fus586,h⟩:=chk_s h
      unfold fuel at fus586
      try simp -implicitDefEqProofs only [go_sem,b548,b550,b551,b552,hns561]
      refine z7 (fun x:(Nat×(Unit))×(Unit)=>envL [(3,.ptr 3 0),(4,.ptr 4 0),(5,.ptr 5 0),(71,.p (.lst (a2.edges.map encI))),(72,.p (.val (.int .i64 ((a2.edges.length:Nat):Int)))),(73,.p (.val (.int .i64 ((x.1.1:Nat):Int))))]) (fun x=>heapL [(3,.box [.p (.lst (a0.nodes.map encI)),.p (.lst (a0.edges.map encEdge))]),(4,.box [.p (.lst (a1.nodes.map encI)),.p (.lst (a1.edges.map encEdge))]),(5,.box [.p (.lst (a2.nodes.map encI)),.p (.lst (a2.edges.map encI))])]) () h (weakL (by simp -implicitDefEqProofs only [go_sem,b548,b550,b551,b552,hns561] <;> ((repeat' apply And.intro) <;> rfl))) ?_ ?_
      ·intro i586 s586 g586 nxts586 Rs586 his586 hNs586 h
       have hws586:=zk (k:=i586) his586 (by omega)
       try dsimp only at h
       obtain ⟨e597,c597,g597,q597,h⟩:=idx_s encI h
       try simp -implicitDefEqProofs only [go_sem,b548,b550,b551,b552,hns561,his586,hws586,c597,g597]
       refine zn (fun b598=>?_) (fun b598=>?_)
       ·replace h:=ze h b598
        cases h
        try simp -implicitDefEqProofs only [go_sem,b548,b550,b551,b552,hns561,his586,hws586,c597,g597,b598]
        all_goals ((repeat' apply And.intro) <;> rfl)
       ·replace h:=zd h b598
        try simp -implicitDefEqProofs only [go_sem,b548,b550,b551,b552,hns561,his586,hws586,c597,g597,b598]
        refine zb (fun b599=>?_) (fun b599=>?_)
        ·replace h:=ze h b599
         cases h
         try simp -implicitDefEqProofs only [go_sem,b548,b550,b551,b552,hns561,his586,hws586,c597,g597,b598,b599]
         all_goals ((repeat' apply And.intro) <;> rfl)
        ·replace h:=zd h b599
         try simp -implicitDefEqProofs only [go_sem,b548,b550,b551,b552,hns561,his586,hws586,c597,g597,b598,b599]
         refine zbd [.q,.q,.q,.q,.q,.o,.o,.o,.o,.o,.w,.w,.s,.s] (by kernel_rfl) ?_
         obtain ⟨e600,c600,g600,q600,h⟩:=idx_s encEdge h
         obtain ⟨e601,c601a,c601b,g601,q601,h⟩:=atZ_s encEdge h
         have c601n:=zbj c601a c601b
         try simp -implicitDefEqProofs only [go_sem,b548,b550,b551,b552,hns561,his586,hws586,c597,g597,b598,b599,c600,g600,c601a,c601b,c601n,g601]
         refine zf (fun b602=>?_) (fun b602=>?_)
         ·replace h:=ze h b602
          try simp -implicitDefEqProofs only [go_sem,b548,b550,b551,b552,hns561,his586,hws586,c597,g597,b598,b599,c600,g600,c601a,c601b,c601n,g601,b602]
          refine zbd [.q,.q,.q,.q,.q,.q,.q,.q,.q,.q,.q,.q,.q,.q,.q,.q,.q,.q,.q,.q] (by kernel_rfl) ?_
          obtain ⟨e603,c603a,c603b,g603,q603,h⟩:=atZ_s encI h
          have c603n:=zbj c603a c603b
          try simp -implicitDefEqProofs only [go_sem,b548,b550,b551,b552,hns561,his586,hws586,c597,g597,b598,b599,c600,g600,c601a,c601b,c601n,g601,b602,c603a,c603b,c603n,g603]
          refine zcu (fun b604=>?_) (fun b604=>?_)
          ·replace h:=ze h b604
           obtain ⟨e605,c605a,c605b,g605,q605,h⟩:=atZ_s encI h
           have c605n:=zbj c605a c605b
           try simp -implicitDefEqProofs only [go_sem,b548,b550,b551,b552,hns561,his586,hws586,c597,g597,b598,b599,c600,g600,c601a,c601b,c601n,g601,b602,c603a,c603b,c603n,g603,b604,c605a,c605b,c605n,g605]
           refine zf (fun b606=>?_) (fun b606=>?_)
           ·replace h:=ze h b606
            try simp -implicitDefEqProofs only [go_sem,b548,b550,b551,b552,hns561,his586,hws586,c597,g597,b598,b599,c600,g600,c601a,c601b,c601n,g601,b602,c603a,c603b,c603n,g603,b604,c605a,c605b,c605n,g605,b606]
            exact hNs586 () () h (weakL (by simp -implicitDefEqProofs only [go_sem,b548,b550,b551,b552,hns561,his586,hws586,c597,g597,b598,b599,c600,g600,c601a,c601b,c601n,g601,b602,c603a,c603b,c603n,g603,b604,c605a,c605b,c605n,g605,b606] <;> ((repeat' apply And.intro) <;> rfl)))
           ·replace h:=zd h b606
            cases h
            try simp -implicitDefEqProofs only [go_sem,b548,b550,b551,b552,hns561,his586,hws586,c597,g597,b598,b599,c600,g600,c601a,c601b,c601n,g601,b602,c603a,c603b,c603n,g603,b604,c605a,c605b,c605n,g605,b606]
            all_goals ((repeat' apply And.intro) <;> rfl)
          ·replace h:=zd h b604
           cases h
           try simp -implicitDefEqProofs only [go_sem,b548,b550,b551,b552,hns561,his586,hws586,c597,g597,b598,b599,c600,g600,c601a,c601b,c601n,g601,b602,c603a,c603b,c603n,g603,b604]
           all_goals ((repeat' apply And.intro) <;> rfl)
         ·replace h:=zd h b602
          cases h
          try simp -implicitDefEqProofs only [go_sem,b548,b550,b551,b552,hns561,his586,hws586,c597,g597,b598,b599,c600,g600,c601a,c601b,c601n,g601,b602]
          all_goals ((repeat' apply And.intro) <;> rfl)
      ·intro i586 s586 g586 Rs586 hes586 h
       have hns586:¬ (i586 < a2.edges.length):=by omega
       try dsimp only at h
       cases h
       try simp -implicitDefEqProofs only [go_sem,b548,b550,b551,b552,hns561,hns586]
       all_goals ((repeat' apply And.intro) <;> rfl)
    ·replace h:=zd h b552
     cases h
     try simp -implicitDefEqProofs only [go_sem,b548,b550,b551,b552]
     all_goals ((repeat' apply And.intro) <;> rfl)
   ·replace h:=zd h b551
    cases h
    try simp -implicitDefEqProofs only [go_sem,b548,b550,b551]
    all_goals ((repeat' apply And.intro) <;> rfl)
  ·replace h:=zd h b550
   cases h
   try simp -implicitDefEqProofs only [go_sem,b548,b550]
   all_goals ((repeat' apply And.intro) <;> rfl)
 ·replace h:=zd h b548
  cases h
  try simp -implicitDefEqProofs only [go_sem,b548]
  all_goals ((repeat' apply And.intro) <;> rfl)

set_option maxHeartbeats 4000000 in
theorem zlj (a0:List Int) (r:Int) (h:zfq a0=some r):CallV Tryz.prog 242 [.lst (a0.map encI)] (fun v=>v = .val (.int .i64 r)):=by
 refine CallV.ple ?_
 refine zc [] Ty.mixed Tryz.func242 rfl (by kernel_rfl) (by simp [Tryz.ntmps242]) ?_; rw [Tryz.ntmps242,Tryz.results242]
 unfold zfq at h
 obtain ⟨r611,hr611,h⟩:=thn_s h
 try simp -implicitDefEqProofs only [go_sem]
 refine callfG 1080 (zit a0 r611 hr611) (by simp -implicitDefEqProofs only [go_sem] <;> rfl) (za _) (by first | exact persF | exact flatF rfl | exact flatF (by simp [RV.flat,RV.flatL,PV.scalar,isVal,encI])) (by simp -implicitDefEqProofs only [go_sem]) ?_
 obtain ⟨r612,hr612,h⟩:=thn_s h
 try simp -implicitDefEqProofs only [go_sem]
 refine zr0 (zlh 0 r611 r612 hr612) (by simp -implicitDefEqProofs only [go_sem] <;> rfl) (by simp -implicitDefEqProofs only [go_sem] <;> rfl) (by simp -implicitDefEqProofs only [go_sem] <;> rfl) (fun h=>by cases h) ?_
 obtain ⟨r613,hr613,h⟩:=thn_s h
 try simp -implicitDefEqProofs only [go_sem]
 refine zvj (zj7 0 r612 r613 hr613) (by simp -implicitDefEqProofs only [go_sem] <;> rfl) (by simp -implicitDefEqProofs only [go_sem] <;> rfl) (by simp -implicitDefEqProofs only [go_sem] <;> rfl) (fun h=>by cases h) ?_
 cases h
 try simp -implicitDefEqProofs only [go_sem]
 all_goals ((repeat' apply And.intro) <;> rfl)

set_option maxHeartbeats 4000000 in
theorem zr5 (a0:Int) (a1:Types) (a2:Graph) (r:Bool) (h:zf4 a0 a1 a2=some r):CallV Tryz.prog 194 [.val (.int .i64 a0),.eptr [.lst (a1.nodes.map encNode),.lst (a1.edges.map encEdgeT)] 0,.eptr [.lst (a2.nodes.map encI),.lst (a2.edges.map encEdge)] 0] (fun v=>v = .val (.bool r)):=by
 refine CallV.ple ?_
 refine zc [] Ty.mixed Tryz.func194 rfl (by kernel_rfl) (by simp [Tryz.ntmps194]) ?_; rw [Tryz.ntmps194,Tryz.results194]
 unfold zf4 at h
 try simp -implicitDefEqProofs only [go_sem]
 refine zbd [.q,.q,.q,.q,.q,.q,.q,.q,.q,.q,.q] (by kernel_rfl) ?_
 obtain ⟨e666,c666a,c666b,g666,q666,h⟩:=atZ_s encI h
 have c666n:=zbj c666a c666b
 obtain ⟨e667,c667a,c667b,g667,q667,h⟩:=atZ_s encNode h
 have c667n:=zbj c667a c667b
 cases h
 try simp -implicitDefEqProofs only [go_sem,c666a,c666b,c666n,g666,c667a,c667b,c667n,g667]
 all_goals ((repeat' apply And.intro) <;> rfl)

set_option maxHeartbeats 4000000 in
theorem zfp (a0:Int) (a1:zic) (r:Int) (h:zcg a0 a1=some r):CallV Tryz.prog 260 [.val (.int .i64 a0),.agg [.val (.int .i64 a1.var),.val (.int .i64 a1.add)]] (fun v=>v = .val (.int .i64 r)):=by
 refine CallV.ple ?_
 refine zc [] Ty.mixed Tryz.func260 rfl (by kernel_rfl) (by simp [Tryz.ntmps260]) ?_; rw [Tryz.ntmps260,Tryz.results260]
 unfold zcg at h
 try simp -implicitDefEqProofs only [go_sem]
 refine zn (fun b2247=>?_) (fun b2247=>?_)
 ·replace h:=ze h b2247
  cases h
  try simp -implicitDefEqProofs only [go_sem,b2247]
  all_goals ((repeat' apply And.intro) <;> rfl)
 ·replace h:=zd h b2247
  try simp -implicitDefEqProofs only [go_sem,b2247]
  refine zn (fun b2248=>?_) (fun b2248=>?_)
  ·replace h:=ze h b2248
   cases h
   try simp -implicitDefEqProofs only [go_sem,b2247,b2248]
   all_goals ((repeat' apply And.intro) <;> rfl)
  ·replace h:=zd h b2248
   try simp -implicitDefEqProofs only [go_sem,b2247,b2248]
   refine zn (fun b2249=>?_) (fun b2249=>?_)
   ·replace h:=ze h b2249
    cases h
    try simp -implicitDefEqProofs only [go_sem,b2247,b2248,b2249]
    all_goals ((repeat' apply And.intro) <;> rfl)
   ·replace h:=zd h b2249
    try simp -implicitDefEqProofs only [go_sem,b2247,b2248,b2249]
    refine zb (fun b2250=>?_) (fun b2250=>?_)
    ·replace h:=ze h b2250
     cases h
     try simp -implicitDefEqProofs only [go_sem,b2247,b2248,b2249,b2250]
     all_goals ((repeat' apply And.intro) <;> rfl)
    ·replace h:=zd h b2250
     cases h
     try simp -implicitDefEqProofs only [go_sem,b2247,b2248,b2249,b2250]
     all_goals ((repeat' apply And.intro) <;> rfl)

set_option maxHeartbeats 4000000 in
theorem zht (a0:List Int) (a1:Int) (r:Int) (h:zdm a0 a1=some r):CallV Tryz.prog 218 [.lst (a0.map encI),.val (.int .i64 a1)] (fun v=>v = .val (.int .i64 r)):=by
 refine CallV.ple ?_
 refine zc [] Ty.mixed Tryz.func218 rfl (by kernel_rfl) (by simp [Tryz.ntmps218]) ?_; rw [Tryz.ntmps218,Tryz.results218]
 unfold zdm at h
 obtain ⟨fus2340,h⟩:=chk_s h
 unfold fuel at fus2340
 try simp -implicitDefEqProofs only [go_sem]
 refine z7 (fun x:(Nat×(Unit))×(Unit)=>envL [(0,.p (.lst (a0.map encI))),(1,.p (.val (.int .i64 a1))),(5,.p (.val (.int .i64 ((x.1.1:Nat):Int))))]) (fun x=>heapL []) () h (weakL (by simp -implicitDefEqProofs only [go_sem] <;> ((repeat' apply And.intro) <;> rfl))) ?_ ?_
 ·intro i2340 s2340 g2340 nxts2340 Rs2340 his2340 hNs2340 h
  have hws2340:=zk (k:=i2340) his2340 (by omega)
  try dsimp only at h
  obtain ⟨e2347,c2347,g2347,q2347,h⟩:=idx_s encI h
  try simp -implicitDefEqProofs only [go_sem,his2340,hws2340,c2347,g2347]
  refine zn (fun b2348=>?_) (fun b2348=>?_)
  ·replace h:=ze h b2348
   cases h
   try simp -implicitDefEqProofs only [go_sem,his2340,hws2340,c2347,g2347,b2348]
   all_goals ((repeat' apply And.intro) <;> rfl)
  ·replace h:=zd h b2348
   try simp -implicitDefEqProofs only [go_sem,his2340,hws2340,c2347,g2347,b2348]
   refine zb (fun b2349=>?_) (fun b2349=>?_)
   ·replace h:=ze h b2349
    cases h
    try simp -implicitDefEqProofs only [go_sem,his2340,hws2340,c2347,g2347,b2348,b2349]
    all_goals ((repeat' apply And.intro) <;> rfl)
   ·replace h:=zd h b2349
    try simp -implicitDefEqProofs only [go_sem,his2340,hws2340,c2347,g2347,b2348,b2349]
    refine zbd [.q,.q,.q,.q,.q,.q,.q,.q,.q,.q,.q,.q,.q,.q] (by kernel_rfl) ?_
    try simp -implicitDefEqProofs only [go_sem,his2340,hws2340,c2347,g2347,b2348,b2349]
    refine zcu (fun b2350=>?_) (fun b2350=>?_)
    ·replace h:=ze h b2350
     obtain ⟨e2351,c2351a,c2351b,g2351,q2351,h⟩:=atZ_s encI h
     have c2351n:=zbj c2351a c2351b
     try simp -implicitDefEqProofs only [go_sem,his2340,hws2340,c2347,g2347,b2348,b2349,b2350,c2351a,c2351b,c2351n,g2351]
     refine zb (fun b2352=>?_) (fun b2352=>?_)
     ·replace h:=ze h b2352
      cases h
      try simp -implicitDefEqProofs only [go_sem,his2340,hws2340,c2347,g2347,b2348,b2349,b2350,c2351a,c2351b,c2351n,g2351,b2352]
      all_goals ((repeat' apply And.intro) <;> rfl)
     ·replace h:=zd h b2352
      try simp -implicitDefEqProofs only [go_sem,his2340,hws2340,c2347,g2347,b2348,b2349,b2350,c2351a,c2351b,c2351n,g2351,b2352]
      exact hNs2340 () () h (weakL (by simp -implicitDefEqProofs only [go_sem,his2340,hws2340,c2347,g2347,b2348,b2349,b2350,c2351a,c2351b,c2351n,g2351,b2352] <;> ((repeat' apply And.intro) <;> rfl)))
    ·replace h:=zd h b2350
     try simp -implicitDefEqProofs only [go_sem,his2340,hws2340,c2347,g2347,b2348,b2349,b2350]
     exact hNs2340 () () h (weakL (by simp -implicitDefEqProofs only [go_sem,his2340,hws2340,c2347,g2347,b2348,b2349,b2350] <;> ((repeat' apply And.intro) <;> rfl)))
 ·intro i2340 s2340 g2340 Rs2340 hes2340 h
  have hns2340:¬ (i2340 < a0.length):=by omega
  try dsimp only at h
  cases h
  try simp -implicitDefEqProofs only [go_sem,hns2340]
  all_goals ((repeat' apply And.intro) <;> rfl)

set_option maxHeartbeats 4000000 in
theorem zjz (a0:List Int) (a1:Int) (r:Bool) (h:zcx a0 a1=some r):CallV Tryz.prog 219 [.lst (a0.map encI),.val (.int .i64 a1)] (fun v=>v = .val (.bool r)):=by
 refine CallV.ple ?_
 refine zc [] Ty.mixed Tryz.func219 rfl (by kernel_rfl) (by simp [Tryz.ntmps219]) ?_; rw [Tryz.ntmps219,Tryz.results219]
 unfold zcx at h
 obtain ⟨fus2365,h⟩:=chk_s h
 unfold fuel at fus2365
 try simp -implicitDefEqProofs only [go_sem]
 refine z7 (fun x:(Nat×(Unit))×(Unit)=>envL [(0,.p (.lst (a0.map encI))),(1,.p (.val (.int .i64 a1))),(5,.p (.val (.int .i64 ((x.1.1:Nat):Int))))]) (fun x=>heapL []) () h (weakL (by simp -implicitDefEqProofs only [go_sem] <;> ((repeat' apply And.intro) <;> rfl))) ?_ ?_
 ·intro i2365 s2365 g2365 nxts2365 Rs2365 his2365 hNs2365 h
  have hws2365:=zk (k:=i2365) his2365 (by omega)
  try dsimp only at h
  obtain ⟨e2368,c2368,g2368,q2368,h⟩:=idx_s encI h
  try simp -implicitDefEqProofs only [go_sem,his2365,hws2365,c2368,g2368]
  refine zb (fun b2369=>?_) (fun b2369=>?_)
  ·replace h:=ze h b2369
   cases h
   try simp -implicitDefEqProofs only [go_sem,his2365,hws2365,c2368,g2368,b2369]
   all_goals ((repeat' apply And.intro) <;> rfl)
  ·replace h:=zd h b2369
   try simp -implicitDefEqProofs only [go_sem,his2365,hws2365,c2368,g2368,b2369]
   exact hNs2365 () () h (weakL (by simp -implicitDefEqProofs only [go_sem,his2365,hws2365,c2368,g2368,b2369] <;> ((repeat' apply And.intro) <;> rfl)))
 ·intro i2365 s2365 g2365 Rs2365 hes2365 h
  have hns2365:¬ (i2365 < a0.length):=by omega
  try dsimp only at h
  cases h
  try simp -implicitDefEqProofs only [go_sem,hns2365]
  all_goals ((repeat' apply And.intro) <;> rfl)

set_option maxHeartbeats 4000000 in
theorem zll (n:Nat):∀ (a0:zi) (r:Int×Int) (h:zdd n a0=some r),CallV Tryz.prog 215 [.agg (zt a0)] (fun v=>v = .tup [.val (.int .i64 r.1),.val (.int .i64 r.2)]):=by
 induction n with
 | zero=>intro a0 r h; cases h
 | succ n ih =>
 intro a0 r h
 refine CallV.ple ?_
 refine zc [] Ty.mixed Tryz.func215 rfl (by kernel_rfl) (by simp [Tryz.ntmps215]) ?_; rw [Tryz.ntmps215,Tryz.results215]
 unfold zdd at h
 obtain ⟨fus3078,h⟩:=chk_s h
 unfold fuel at fus3078
 try simp -implicitDefEqProofs only [go_sem]
 refine z7 (fun x:(Nat×(Int×Int))×(Unit)=>envL [(1,.ptr 1 0),(4,.p (.val (.int .i64 x.1.2.1))),(5,.p (.val (.int .i64 x.1.2.2))),(6,.p (.val (.int .i64 ((x.1.1:Nat):Int))))]) (fun x=>heapL [(1,.box ((zt a0).map .p))]) () h (weakL (by simp -implicitDefEqProofs only [go_sem] <;> ((repeat' apply And.intro) <;> rfl))) ?_ ?_
 ·intro i3078 s3078 g3078 nxts3078 Rs3078 his3078 hNs3078 h
  have hws3078:=zk (k:=i3078) his3078 (by omega)
  try dsimp only at h
  obtain ⟨e3081,c3081,g3081,q3081,h⟩:=idx_s zt h
  obtain ⟨r3082,hr3082,h⟩:=thn_s h
  try simp -implicitDefEqProofs only [go_sem,his3078,hws3078,c3081,g3081]
  refine callG (ih e3081 r3082 hr3082) (by simp -implicitDefEqProofs only [go_sem,his3078,hws3078,c3081,g3081] <;> rfl) (za _) (by first | exact pers | exact scal rfl) ?_
  try simp -implicitDefEqProofs only [go_sem,his3078,hws3078,c3081,g3081]
  exact hNs3078 ((IntKind.i64.wrap (s3078.1+r3082.1)),(max s3078.2 r3082.2)) () h (weakL (by simp -implicitDefEqProofs only [go_sem,his3078,hws3078,c3081,g3081] <;> ((repeat' apply And.intro) <;> rfl)))
 ·intro i3078 s3078 g3078 Rs3078 hes3078 h
  have hns3078:¬ (i3078 < a0.kids.length):=by omega
  try dsimp only at h
  try simp -implicitDefEqProofs only [go_sem,hns3078]
  refine zb (fun b3083=>?_) (fun b3083=>?_)
  ·replace h:=ze h b3083
   cases h
   try simp -implicitDefEqProofs only [go_sem,hns3078,b3083]
   all_goals ((repeat' apply And.intro) <;> rfl)
  ·replace h:=zd h b3083
   cases h
   try simp -implicitDefEqProofs only [go_sem,hns3078,b3083]
   all_goals ((repeat' apply And.intro) <;> rfl)

set_option maxHeartbeats 4000000 in
theorem zez (a0:List Int) (a1:List Int) (r:Bool) (h:zca a0 a1=some r):CallV Tryz.prog 42 [.lst (a0.map encI),.lst (a1.map encI)] (fun v=>v = .val (.bool r)):=by
 refine CallV.ple ?_
 refine zc [] Ty.mixed Tryz.func42 rfl (by kernel_rfl) (by simp [Tryz.ntmps42]) ?_; rw [Tryz.ntmps42,Tryz.results42]
 unfold zca at h
 try simp -implicitDefEqProofs only [go_sem]
 refine zf (fun b3598=>?_) (fun b3598=>?_)
 ·replace h:=ze h b3598
  obtain ⟨fus3604,h⟩:=chk_s h
  unfold fuel at fus3604
  try simp -implicitDefEqProofs only [go_sem,b3598]
  refine z7 (fun x:(Nat×(Unit))×(Unit)=>envL [(0,.p (.lst (a0.map encI))),(1,.p (.lst (a1.map encI))),(5,.p (.val (.int .i64 ((x.1.1:Nat):Int))))]) (fun x=>heapL []) () h (weakL (by simp -implicitDefEqProofs only [go_sem,b3598] <;> ((repeat' apply And.intro) <;> rfl))) ?_ ?_
  ·intro i3604 s3604 g3604 nxts3604 Rs3604 his3604 hNs3604 h
   have hws3604:=zk (k:=i3604) his3604 (by omega)
   try dsimp only at h
   try simp -implicitDefEqProofs only [go_sem,b3598,his3604,hws3604]
   refine zbd [.q,.q,.q,.q,.q,.q,.q,.q,.q] (by kernel_rfl) ?_
   obtain ⟨e3608,c3608,g3608,q3608,h⟩:=idx_s encI h
   obtain ⟨e3609,c3609,g3609,q3609,h⟩:=idx_s encI h
   try simp -implicitDefEqProofs only [go_sem,b3598,his3604,hws3604,c3608,g3608,c3609,g3609]
   refine zf (fun b3610=>?_) (fun b3610=>?_)
   ·replace h:=ze h b3610
    try simp -implicitDefEqProofs only [go_sem,b3598,his3604,hws3604,c3608,g3608,c3609,g3609,b3610]
    exact hNs3604 () () h (weakL (by simp -implicitDefEqProofs only [go_sem,b3598,his3604,hws3604,c3608,g3608,c3609,g3609,b3610] <;> ((repeat' apply And.intro) <;> rfl)))
   ·replace h:=zd h b3610
    cases h
    try simp -implicitDefEqProofs only [go_sem,b3598,his3604,hws3604,c3608,g3608,c3609,g3609,b3610]
    all_goals ((repeat' apply And.intro) <;> rfl)
  ·intro i3604 s3604 g3604 Rs3604 hes3604 h
   have hns3604:¬ (i3604 < a0.length):=by omega
   try dsimp only at h
   cases h
   try simp -implicitDefEqProofs only [go_sem,b3598,hns3604]
   all_goals ((repeat' apply And.intro) <;> rfl)
 ·replace h:=zd h b3598
  cases h
  try simp -implicitDefEqProofs only [go_sem,b3598]
  all_goals ((repeat' apply And.intro) <;> rfl)

set_option maxHeartbeats 4000000 in
theorem zof (a0:Int) (r:Bool) (h:zeh a0=some r):CallV Tryz.prog 72 [.val (.int .i64 a0)] (fun v=>v = .val (.bool r)):=by
 refine CallV.ple ?_
 refine zc [] Ty.mixed Tryz.func72 rfl (by kernel_rfl) (by simp [Tryz.ntmps72]) ?_; rw [Tryz.ntmps72,Tryz.results72]
 unfold zeh at h
 try simp -implicitDefEqProofs only [go_sem]
 refine zn (fun b3659=>?_) (fun b3659=>?_)
 ·replace h:=ze h b3659
  cases h
  try simp -implicitDefEqProofs only [go_sem,b3659]
  all_goals ((repeat' apply And.intro) <;> rfl)
 ·replace h:=zd h b3659
  cases h
  try simp -implicitDefEqProofs only [go_sem,b3659]
  all_goals ((repeat' apply And.intro) <;> rfl)
end
end Go.Proofs.YtimojjnmmlhijaaGreat
set_option maxRecDepth 20000
namespace Go.Proofs.YtimojjnmmlhijaaGreat
open Go.Abs


noncomputable section
set_option maxHeartbeats 4000000 in
theorem zps (a0:Int) (a1:Types) (r:Bool) (h:zfx a0 a1=some r):CallV Tryz.prog 182 [.val (.int .i64 a0),.eptr [.lst (a1.nodes.map encNode),.lst (a1.edges.map encEdgeT)] 0] (fun v=>v = .val (.bool r)):=by
 refine CallV.ple ?_
 refine zc [] Ty.mixed Tryz.func182 rfl (by kernel_rfl) (by simp [Tryz.ntmps182]) ?_; rw [Tryz.ntmps182,Tryz.results182]
 unfold zfx at h
 cases h
 try simp -implicitDefEqProofs only [go_sem]
 all_goals ((repeat' apply And.intro) <;> rfl)

set_option maxHeartbeats 4000000 in
theorem zmj (a0:List zbs) (p1:zbs→Option Bool) (k1:FuncId) (fs1 cs1:List PV) (hp1:∀ x0 r,p1 x0=some r→CallV Tryz.prog k1 (fs1++[.agg (zbk x0)]++cs1) (fun v=>v = .val (.bool r))) (r:Int) (h:zeo a0 p1=some r):CallV Tryz.prog 267 [.lst (a0.map zbk),.clo (.func k1) fs1 cs1] (fun v=>v = .val (.int .i64 r)):=by
 refine CallV.ple ?_
 refine zc [] Ty.mixed Tryz.func267 rfl (by kernel_rfl) (by simp [Tryz.ntmps267]) ?_; rw [Tryz.ntmps267,Tryz.results267]
 unfold zeo at h
 obtain ⟨fus209,h⟩:=chk_s h
 unfold fuel at fus209
 try simp -implicitDefEqProofs only [go_sem]
 refine z7 (fun x:(Nat×(Unit))×(Unit)=>envL [(0,.p (.lst (a0.map zbk))),(1,.p (.clo (.func k1) fs1 cs1)),(7,.p (.val (.int .i64 ((a0.length:Nat):Int)))),(8,.p (.val (.int .i64 ((x.1.1:Nat):Int))))]) (fun x=>heapL []) () h (weakL (by simp -implicitDefEqProofs only [go_sem] <;> ((repeat' apply And.intro) <;> rfl))) ?_ ?_
 ·intro i209 s209 g209 nxts209 Rs209 his209 hNs209 h
  have hws209:=zk (k:=i209) his209 (by omega)
  try dsimp only at h
  obtain ⟨e213,c213,g213,q213,h⟩:=idx_s zbk h
  obtain ⟨r214,hr214,h⟩:=thn_s h
  try simp -implicitDefEqProofs only [go_sem,his209,hws209,c213,g213]
  refine callG (hp1 e213 r214 hr214) (by simp -implicitDefEqProofs only [go_sem,his209,hws209,c213,g213,zfd,ze5,Bool.or_false,Bool.false_or] <;> rfl) (za _) (by first | exact pers | exact scal rfl) ?_
  try simp -implicitDefEqProofs only [go_sem,his209,hws209,c213,g213]
  refine zb (fun b215=>?_) (fun b215=>?_)
  ·replace h:=ze h b215
   cases h
   try simp -implicitDefEqProofs only [go_sem,his209,hws209,c213,g213,b215]
   all_goals ((repeat' apply And.intro) <;> rfl)
  ·replace h:=zd h b215
   try simp -implicitDefEqProofs only [go_sem,his209,hws209,c213,g213,b215]
   exact hNs209 () () h (weakL (by simp -implicitDefEqProofs only [go_sem,his209,hws209,c213,g213,b215] <;> ((repeat' apply And.intro) <;> rfl)))
 ·intro i209 s209 g209 Rs209 hes209 h
  have hns209:¬ (i209 < a0.length):=by omega
  try dsimp only at h
  cases h
  try simp -implicitDefEqProofs only [go_sem,hns209]
  all_goals ((repeat' apply And.intro) <;> rfl)

set_option maxHeartbeats 4000000 in
theorem znv (a0:zbs) (a1:Int) (r:Bool) (h:ze7 a0 a1=some r):CallV Tryz.prog 275 [.agg (zbk a0),.eptr [.val (.int .i64 a1)] 0] (fun v=>v = .val (.bool r)):=by
 refine CallV.ple ?_
 refine zc [] Ty.mixed Tryz.func275 rfl (by kernel_rfl) (by simp [Tryz.ntmps275]) ?_; rw [Tryz.ntmps275,Tryz.results275]
 unfold ze7 at h
 cases h
 try simp -implicitDefEqProofs only [go_sem]
 all_goals ((repeat' apply And.intro) <;> rfl)

set_option maxHeartbeats 4000000 in
theorem zsu (a0:NodeT) (a1:zm) (a2:Int) (r:Bool) (h:zg5 a0 a1 a2=some r):CallV Tryz.prog 86 [.agg (encNode a0),.eptr (z6 a1) 0,.eptr [.val (.int .i64 a2)] 0] (fun v=>v = .val (.bool r)):=by
 refine CallV.ple ?_
 refine zc [] Ty.mixed Tryz.func86 rfl (by kernel_rfl) (by simp [Tryz.ntmps86]) ?_; rw [Tryz.ntmps86,Tryz.results86]
 unfold zg5 at h
 try simp -implicitDefEqProofs only [go_sem]
 refine zbd [.q,.q,.q,.q,.q,.q,.q,.q,.q,.q,.q] (by kernel_rfl) ?_
 obtain ⟨e837,c837a,c837b,g837,q837,h⟩:=atZ_s encI h
 have c837n:=zbj c837a c837b
 cases h
 try simp -implicitDefEqProofs only [go_sem,c837a,c837b,c837n,g837]
 all_goals ((repeat' apply And.intro) <;> rfl)

set_option maxHeartbeats 4000000 in
theorem zn2 (a0:List zbm) (a1:List zbm) (r:Bool) (h:zhm a0 a1=some r):CallV Tryz.prog 13 [.lst (a0.map zq),.lst (a1.map zq)] (fun v=>v = .val (.bool r)):=by
 refine CallV.ple ?_
 refine zc [] Ty.mixed Tryz.func13 rfl (by kernel_rfl) (by simp [Tryz.ntmps13]) ?_; rw [Tryz.ntmps13,Tryz.results13]
 unfold zhm at h
 try simp -implicitDefEqProofs only [go_sem]
 refine zf (fun b1944=>?_) (fun b1944=>?_)
 ·replace h:=ze h b1944
  obtain ⟨fus1950,h⟩:=chk_s h
  unfold fuel at fus1950
  try simp -implicitDefEqProofs only [go_sem,b1944]
  refine z7 (fun x:(Nat×(Unit))×(Unit)=>envL [(0,.p (.lst (a0.map zq))),(1,.p (.lst (a1.map zq))),(12,.p (.val (.int .i64 ((a0.length:Nat):Int)))),(13,.p (.val (.int .i64 ((x.1.1:Nat):Int))))]) (fun x=>heapL []) () h (weakL (by simp -implicitDefEqProofs only [go_sem,b1944] <;> ((repeat' apply And.intro) <;> rfl))) ?_ ?_
  ·intro i1950 s1950 g1950 nxts1950 Rs1950 his1950 hNs1950 h
   have hws1950:=zk (k:=i1950) his1950 (by omega)
   try dsimp only at h
   try simp -implicitDefEqProofs only [go_sem,b1944,his1950,hws1950]
   refine zbd [.q,.q,.q,.q,.q,.q,.q,.q,.q] (by kernel_rfl) ?_
   obtain ⟨e1954,c1954,g1954,q1954,h⟩:=idx_s zq h
   obtain ⟨e1955,c1955,g1955,q1955,h⟩:=idx_s zq h
   try simp -implicitDefEqProofs only [go_sem,b1944,his1950,hws1950,c1954,g1954,c1955,g1955]
   refine zf (fun b1956=>?_) (fun b1956=>?_)
   ·replace h:=ze h b1956
    try simp -implicitDefEqProofs only [go_sem,b1944,his1950,hws1950,c1954,g1954,c1955,g1955,b1956]
    exact hNs1950 () () h (weakL (by simp -implicitDefEqProofs only [go_sem,b1944,his1950,hws1950,c1954,g1954,c1955,g1955,b1956] <;> ((repeat' apply And.intro) <;> rfl)))
   ·replace h:=zd h b1956
    cases h
    try simp -implicitDefEqProofs only [go_sem,b1944,his1950,hws1950,c1954,g1954,c1955,g1955,b1956]
    all_goals ((repeat' apply And.intro) <;> rfl)
  ·intro i1950 s1950 g1950 Rs1950 hes1950 h
   have hns1950:¬ (i1950 < a0.length):=by omega
   try dsimp only at h
   cases h
   try simp -implicitDefEqProofs only [go_sem,b1944,hns1950]
   all_goals ((repeat' apply And.intro) <;> rfl)
 ·replace h:=zd h b1944
  cases h
  try simp -implicitDefEqProofs only [go_sem,b1944]
  all_goals ((repeat' apply And.intro) <;> rfl)

set_option maxHeartbeats 4000000 in
theorem znt (a0:Types) (r:Bool) (h:ze8 a0=some r):CallV Tryz.prog 27 [.agg [.lst (a0.nodes.map encNode),.lst (a0.edges.map encEdgeT)]] (fun v=>v = .val (.bool r)):=by
 refine CallV.ple ?_
 refine zc [] Ty.mixed Tryz.func27 rfl (by kernel_rfl) (by simp [Tryz.ntmps27]) ?_; rw [Tryz.ntmps27,Tryz.results27]
 unfold ze8 at h
 try simp -implicitDefEqProofs only [go_sem]
 refine zn (fun b1960=>?_) (fun b1960=>?_)
 ·replace h:=ze h b1960
  cases h
  try simp -implicitDefEqProofs only [go_sem,b1960]
  all_goals ((repeat' apply And.intro) <;> rfl)
 ·replace h:=zd h b1960
  try simp -implicitDefEqProofs only [go_sem,b1960]
  refine zb (fun b1961=>?_) (fun b1961=>?_)
  ·replace h:=ze h b1961
   cases h
   try simp -implicitDefEqProofs only [go_sem,b1960,b1961]
   all_goals ((repeat' apply And.intro) <;> rfl)
  ·replace h:=zd h b1961
   obtain ⟨fus2006,h⟩:=chk_s h
   unfold fuel at fus2006
   try simp -implicitDefEqProofs only [go_sem,b1960,b1961]
   refine z7 (fun x:(Nat×(Int))×(Unit)=>envL [(1,.ptr 1 0),(3,.p (.val (.int .i64 x.1.2))),(4,.p (.val (.int .i64 ((x.1.1:Nat):Int))))]) (fun x=>heapL [(1,.box [.p (.lst (a0.nodes.map encNode)),.p (.lst (a0.edges.map encEdgeT))])]) () h (weakL (by simp -implicitDefEqProofs only [go_sem,b1960,b1961] <;> ((repeat' apply And.intro) <;> rfl))) ?_ ?_
   ·intro i2006 s2006 g2006 nxts2006 Rs2006 his2006 hNs2006 h
    have hws2006:=zk (k:=i2006) his2006 (by omega)
    try dsimp only at h
    obtain ⟨e2049,c2049,g2049,q2049,h⟩:=idx_s encNode h
    try simp -implicitDefEqProofs only [go_sem,b1960,b1961,his2006,hws2006,c2049,g2049]
    refine zn (fun b2050=>?_) (fun b2050=>?_)
    ·replace h:=ze h b2050
     cases h
     try simp -implicitDefEqProofs only [go_sem,b1960,b1961,his2006,hws2006,c2049,g2049,b2050]
     all_goals ((repeat' apply And.intro) <;> rfl)
    ·replace h:=zd h b2050
     try simp -implicitDefEqProofs only [go_sem,b1960,b1961,his2006,hws2006,c2049,g2049,b2050]
     refine zb (fun b2051=>?_) (fun b2051=>?_)
     ·replace h:=ze h b2051
      cases h
      try simp -implicitDefEqProofs only [go_sem,b1960,b1961,his2006,hws2006,c2049,g2049,b2050,b2051]
      all_goals ((repeat' apply And.intro) <;> rfl)
     ·replace h:=zd h b2051
      obtain ⟨fus2066,h⟩:=chk_s h
      unfold fuel at fus2066
      try simp -implicitDefEqProofs only [go_sem,b1960,b1961,his2006,hws2006,c2049,g2049,b2050,b2051]
      refine z7 (fun x:(Nat×(Unit))×(Unit)=>envL [(1,.ptr 1 0),(3,.p (.val (.int .i64 (IntKind.i64.wrap (s2006+((e2049.attrs.length:Nat):Int)))))),(4,.p (.val (.int .i64 ((i2006:Nat):Int)))),(5,.p (.val (.int .i64 ((x.1.1:Nat):Int))))]) (fun x=>heapL [(1,.box [.p (.lst (a0.nodes.map encNode)),.p (.lst (a0.edges.map encEdgeT))])]) () h (weakL (by simp -implicitDefEqProofs only [go_sem,b1960,b1961,his2006,hws2006,c2049,g2049,b2050,b2051] <;> ((repeat' apply And.intro) <;> rfl))) ?_ ?_
      ·intro i2066 s2066 g2066 nxts2066 Rs2066 his2066 hNs2066 h
       have hws2066:=zk (k:=i2066) his2066 (by omega)
       try dsimp only at h
       obtain ⟨e2079,c2079,g2079,q2079,h⟩:=idx_s encAttr h
       try simp -implicitDefEqProofs only [go_sem,b1960,b1961,his2006,hws2006,c2049,g2049,b2050,b2051,his2066,hws2066,c2079,g2079]
       refine zn (fun b2080=>?_) (fun b2080=>?_)
       ·replace h:=ze h b2080
        cases h
        try simp -implicitDefEqProofs only [go_sem,b1960,b1961,his2006,hws2006,c2049,g2049,b2050,b2051,his2066,hws2066,c2079,g2079,b2080]
        all_goals ((repeat' apply And.intro) <;> rfl)
       ·replace h:=zd h b2080
        try simp -implicitDefEqProofs only [go_sem,b1960,b1961,his2006,hws2006,c2049,g2049,b2050,b2051,his2066,hws2066,c2079,g2079,b2080]
        refine zb (fun b2081=>?_) (fun b2081=>?_)
        ·replace h:=ze h b2081
         cases h
         try simp -implicitDefEqProofs only [go_sem,b1960,b1961,his2006,hws2006,c2049,g2049,b2050,b2051,his2066,hws2066,c2079,g2079,b2080,b2081]
         all_goals ((repeat' apply And.intro) <;> rfl)
        ·replace h:=zd h b2081
         obtain ⟨fus2086,h⟩:=chk_s h
         unfold fuel at fus2086
         try simp -implicitDefEqProofs only [go_sem,b1960,b1961,his2006,hws2006,c2049,g2049,b2050,b2051,his2066,hws2066,c2079,g2079,b2080,b2081]
         refine z7 (fun x:(Nat×(Unit))×(Unit)=>envL [(1,.ptr 1 0),(3,.p (.val (.int .i64 (IntKind.i64.wrap (s2006+((e2049.attrs.length:Nat):Int)))))),(4,.p (.val (.int .i64 ((i2006:Nat):Int)))),(5,.p (.val (.int .i64 ((i2066:Nat):Int)))),(6,.ptr 6 0),(7,.p (.val (.int .i64 ((x.1.1:Nat):Int))))]) (fun x=>heapL [(1,.box [.p (.lst (a0.nodes.map encNode)),.p (.lst (a0.edges.map encEdgeT))]),(6,.box ((encAttr e2079).map .p))]) () h (weakL (by simp -implicitDefEqProofs only [go_sem,b1960,b1961,his2006,hws2006,c2049,g2049,b2050,b2051,his2066,hws2066,c2079,g2079,b2080,b2081] <;> ((repeat' apply And.intro) <;> rfl))) ?_ ?_
         ·intro i2086 s2086 g2086 nxts2086 Rs2086 his2086 hNs2086 h
          have hws2086:=zk (k:=i2086) his2086 (by omega)
          try dsimp only at h
          obtain ⟨e2089,c2089,g2089,q2089,h⟩:=idx_s encS h
          try simp -implicitDefEqProofs only [go_sem,b1960,b1961,his2006,hws2006,c2049,g2049,b2050,b2051,his2066,hws2066,c2079,g2079,b2080,b2081,his2086,hws2086,c2089,g2089]
          refine zb (fun b2090=>?_) (fun b2090=>?_)
          ·replace h:=ze h b2090
           cases h
           try simp -implicitDefEqProofs only [go_sem,b1960,b1961,his2006,hws2006,c2049,g2049,b2050,b2051,his2066,hws2066,c2079,g2079,b2080,b2081,his2086,hws2086,c2089,g2089,b2090]
           all_goals ((repeat' apply And.intro) <;> rfl)
          ·replace h:=zd h b2090
           try simp -implicitDefEqProofs only [go_sem,b1960,b1961,his2006,hws2006,c2049,g2049,b2050,b2051,his2066,hws2066,c2079,g2079,b2080,b2081,his2086,hws2086,c2089,g2089,b2090]
           exact hNs2086 () () h (weakL (by simp -implicitDefEqProofs only [go_sem,b1960,b1961,his2006,hws2006,c2049,g2049,b2050,b2051,his2066,hws2066,c2079,g2079,b2080,b2081,his2086,hws2086,c2089,g2089,b2090] <;> ((repeat' apply And.intro) <;> rfl)))
         ·intro i2086 s2086 g2086 Rs2086 hes2086 h
          have hns2086:¬ (i2086 < e2079.names.length):=by omega
          try dsimp only at h
          try simp -implicitDefEqProofs only [go_sem,b1960,b1961,his2006,hws2006,c2049,g2049,b2050,b2051,his2066,hws2066,c2079,g2079,b2080,b2081,hns2086]
          exact hNs2066 () () h (weakL (by simp -implicitDefEqProofs only [go_sem,b1960,b1961,his2006,hws2006,c2049,g2049,b2050,b2051,his2066,hws2066,c2079,g2079,b2080,b2081,hns2086] <;> ((repeat' apply And.intro) <;> rfl)))
      ·intro i2066 s2066 g2066 Rs2066 hes2066 h
       have hns2066:¬ (i2066 < e2049.attrs.length):=by omega
       try dsimp only at h
       try simp -implicitDefEqProofs only [go_sem,b1960,b1961,his2006,hws2006,c2049,g2049,b2050,b2051,hns2066]
       exact hNs2006 (IntKind.i64.wrap (s2006+((e2049.attrs.length:Nat):Int))) () h (weakL (by simp -implicitDefEqProofs only [go_sem,b1960,b1961,his2006,hws2006,c2049,g2049,b2050,b2051,hns2066] <;> ((repeat' apply And.intro) <;> rfl)))
   ·intro i2006 s2006 g2006 Rs2006 hes2006 h
    have hns2006:¬ (i2006 < a0.nodes.length):=by omega
    try dsimp only at h
    obtain ⟨fus2095,h⟩:=chk_s h
    unfold fuel at fus2095
    try simp -implicitDefEqProofs only [go_sem,b1960,b1961,hns2006]
    refine z7 (fun x:(Nat×(Unit))×(Unit)=>envL [(1,.ptr 1 0),(8,.p (.val (.int .i64 ((x.1.1:Nat):Int))))]) (fun x=>heapL [(1,.box [.p (.lst (a0.nodes.map encNode)),.p (.lst (a0.edges.map encEdgeT))])]) () h (weakL (by simp -implicitDefEqProofs only [go_sem,b1960,b1961,hns2006] <;> ((repeat' apply And.intro) <;> rfl))) ?_ ?_
    ·intro i2095 s2095 g2095 nxts2095 Rs2095 his2095 hNs2095 h
     have hws2095:=zk (k:=i2095) his2095 (by omega)
     try dsimp only at h
     obtain ⟨e2098,c2098,g2098,q2098,h⟩:=idx_s encEdgeT h
     try simp -implicitDefEqProofs only [go_sem,b1960,b1961,hns2006,his2095,hws2095,c2098,g2098]
     refine zb (fun b2099=>?_) (fun b2099=>?_)
     ·replace h:=ze h b2099
      cases h
      try simp -implicitDefEqProofs only [go_sem,b1960,b1961,hns2006,his2095,hws2095,c2098,g2098,b2099]
      all_goals ((repeat' apply And.intro) <;> rfl)
     ·replace h:=zd h b2099
      try simp -implicitDefEqProofs only [go_sem,b1960,b1961,hns2006,his2095,hws2095,c2098,g2098,b2099]
      exact hNs2095 () () h (weakL (by simp -implicitDefEqProofs only [go_sem,b1960,b1961,hns2006,his2095,hws2095,c2098,g2098,b2099] <;> ((repeat' apply And.intro) <;> rfl)))
    ·intro i2095 s2095 g2095 Rs2095 hes2095 h
     have hns2095:¬ (i2095 < a0.edges.length):=by omega
     try dsimp only at h
     cases h
     try simp -implicitDefEqProofs only [go_sem,b1960,b1961,hns2006,hns2095]
     all_goals ((repeat' apply And.intro) <;> rfl)

set_option maxHeartbeats 4000000 in
theorem zfl (a0:zi) (r:Bool) (h:zcf a0=some r):CallV Tryz.prog 277 [.agg (zt a0)] (fun v=>v = .val (.bool r)):=by
 refine CallV.ple ?_
 refine zc [] Ty.mixed Tryz.func277 rfl (by kernel_rfl) (by simp [Tryz.ntmps277]) ?_; rw [Tryz.ntmps277,Tryz.results277]
 unfold zcf at h
 try simp -implicitDefEqProofs only [go_sem]
 refine zj (fun b3037=>?_) (fun b3037=>?_)
 ·replace h:=ze h b3037
  try simp -implicitDefEqProofs only [go_sem,b3037]
  refine zj (fun b3038=>?_) (fun b3038=>?_)
  ·replace h:=ze h b3038
   cases h
   try simp -implicitDefEqProofs only [go_sem,b3037,b3038]
   all_goals ((repeat' apply And.intro) <;> rfl)
  ·replace h:=zd h b3038
   cases h
   try simp -implicitDefEqProofs only [go_sem,b3037,b3038]
   all_goals ((repeat' apply And.intro) <;> rfl)
 ·replace h:=zd h b3037
  cases h
  try simp -implicitDefEqProofs only [go_sem,b3037]
  all_goals ((repeat' apply And.intro) <;> rfl)

set_option maxHeartbeats 4000000 in
theorem zl4 (a0:zx) (a1:Int) (r:Bool) (h:zd8 a0 a1=some r):CallV Tryz.prog 262 [.agg (zbq a0),.val (.int .i64 a1)] (fun v=>v = .val (.bool r)):=by
 refine CallV.ple ?_
 refine zc [] Ty.mixed Tryz.func262 rfl (by kernel_rfl) (by simp [Tryz.ntmps262]) ?_; rw [Tryz.ntmps262,Tryz.results262]
 unfold zd8 at h
 obtain ⟨fus3099,h⟩:=chk_s h
 unfold fuel at fus3099
 try simp -implicitDefEqProofs only [go_sem]
 refine z7 (fun x:(Nat×(Unit))×(Unit)=>envL [(1,.p (.val (.int .i64 a1))),(2,.ptr 2 0),(5,.p (.val (.int .i64 ((x.1.1:Nat):Int))))]) (fun x=>heapL [(2,.box ((zbq a0).map .p))]) () h (weakL (by simp -implicitDefEqProofs only [go_sem] <;> ((repeat' apply And.intro) <;> rfl))) ?_ ?_
 ·intro i3099 s3099 g3099 nxts3099 Rs3099 his3099 hNs3099 h
  have hws3099:=zk (k:=i3099) his3099 (by omega)
  try dsimp only at h
  obtain ⟨e3102,c3102,g3102,q3102,h⟩:=idx_s zbk h
  try simp -implicitDefEqProofs only [go_sem,his3099,hws3099,c3102,g3102]
  refine zb (fun b3103=>?_) (fun b3103=>?_)
  ·replace h:=ze h b3103
   cases h
   try simp -implicitDefEqProofs only [go_sem,his3099,hws3099,c3102,g3102,b3103]
   all_goals ((repeat' apply And.intro) <;> rfl)
  ·replace h:=zd h b3103
   try simp -implicitDefEqProofs only [go_sem,his3099,hws3099,c3102,g3102,b3103]
   exact hNs3099 () () h (weakL (by simp -implicitDefEqProofs only [go_sem,his3099,hws3099,c3102,g3102,b3103] <;> ((repeat' apply And.intro) <;> rfl)))
 ·intro i3099 s3099 g3099 Rs3099 hes3099 h
  have hns3099:¬ (i3099 < a0.slots.length):=by omega
  try dsimp only at h
  cases h
  try simp -implicitDefEqProofs only [go_sem,hns3099]
  all_goals ((repeat' apply And.intro) <;> rfl)

set_option maxHeartbeats 4000000 in
theorem zka (a0:Int) (a1:Int) (a2:Int) (r:Bool) (h:zfm a0 a1 a2=some r):CallV Tryz.prog 107 [.val (.int .i64 a0),.val (.int .i64 a1),.val (.int .i64 a2)] (fun v=>v = .val (.bool r)):=by
 refine CallV.ple ?_
 refine zc [] Ty.mixed Tryz.func107 rfl (by kernel_rfl) (by simp [Tryz.ntmps107]) ?_; rw [Tryz.ntmps107,Tryz.results107]
 unfold zfm at h
 try simp -implicitDefEqProofs only [go_sem]
 refine zj (fun b3177=>?_) (fun b3177=>?_)
 ·replace h:=ze h b3177
  cases h
  try simp -implicitDefEqProofs only [go_sem,b3177]
  all_goals ((repeat' apply And.intro) <;> rfl)
 ·replace h:=zd h b3177
  cases h
  try simp -implicitDefEqProofs only [go_sem,b3177]
  all_goals ((repeat' apply And.intro) <;> rfl)

set_option maxHeartbeats 4000000 in
theorem zpn (a0:List (List Int)) (r:(List Int)) (h:zfv a0=some r):CallF Tryz.prog 44 [.lst (a0.map encRow)] (fun v=>v = .row 3 1 (r.map encI)):=by
 refine CallF.rle ?_
 refine zbl [] Ty.mixed Tryz.func44 rfl (by kernel_rfl) (by simp [Tryz.ntmps44]) ?_; rw [Tryz.ntmps44,Tryz.results44]
 unfold zfv at h
 obtain ⟨fus3671,h⟩:=chk_s h
 unfold fuel at fus3671
 try simp -implicitDefEqProofs only [go_sem]
 refine z7 (fun x:(Nat×(Int))×(Unit)=>envL [(0,.p (.lst (a0.map encRow))),(3,.p (.val (.int .i64 x.1.2))),(9,.p (.lst (a0.map encRow))),(10,.p (.val (.int .i64 ((a0.length:Nat):Int)))),(11,.p (.val (.int .i64 ((x.1.1:Nat):Int))))]) (fun x=>heapL []) () h (weakL (by simp -implicitDefEqProofs only [go_sem] <;> ((repeat' apply And.intro) <;> rfl))) ?_ ?_
 ·intro i3671 s3671 g3671 nxts3671 Rs3671 his3671 hNs3671 h
  have hws3671:=zk (k:=i3671) his3671 (by omega)
  try dsimp only at h
  obtain ⟨e3674,c3674,g3674,q3674,h⟩:=idx_s encRow h
  try simp -implicitDefEqProofs only [go_sem,his3671,hws3671,c3674,g3674]
  refine zb (fun b3675=>?_) (fun b3675=>?_)
  ·replace h:=ze h b3675
   cases h
  ·replace h:=zd h b3675
   try simp -implicitDefEqProofs only [go_sem,his3671,hws3671,c3674,g3674,b3675]
   exact hNs3671 (IntKind.i64.wrap (s3671+((e3674.length:Nat):Int))) () h (weakL (by simp -implicitDefEqProofs only [go_sem,his3671,hws3671,c3674,g3674,b3675] <;> ((repeat' apply And.intro) <;> rfl)))
 ·intro i3671 s3671 g3671 Rs3671 hes3671 h
  have hns3671:¬ (i3671 < a0.length):=by omega
  try dsimp only at h
  obtain ⟨r3676,hr3676,h⟩:=thn_s h
  try simp -implicitDefEqProofs only [go_sem,hns3671]
  refine callfG 1384 (zrc ([]:List Int) s3671 r3676 hr3676) (by simp -implicitDefEqProofs only [go_sem,hns3671] <;> rfl) (by first | exact za _ | (simp -implicitDefEqProofs only [go_sem,hns3671] <;> rfl)) (by first | exact persF | exact flatF rfl | exact flatF (by simp [RV.flat,RV.flatL,PV.scalar,isVal,encI])) (by simp -implicitDefEqProofs only [go_sem,hns3671]) ?_
  obtain ⟨fus3683,h⟩:=chk_s h
  unfold fuel at fus3683
  try simp -implicitDefEqProofs only [go_sem,hns3671]
  refine z7 (fun x:(Nat×((List Int)))×(Nat)=>envL [(6,.row 1384 x.2),(25,.p (.lst (a0.map encRow))),(26,.p (.val (.int .i64 ((a0.length:Nat):Int)))),(27,.p (.val (.int .i64 ((x.1.1:Nat):Int))))]) (fun x=>heapL [(1384,.row x.2 3 1 (x.1.2.map encI))]) 0 h (weakL (by simp -implicitDefEqProofs only [go_sem,hns3671] <;> ((repeat' apply And.intro) <;> rfl))) ?_ ?_
  ·intro i3683 s3683 g3683 nxts3683 Rs3683 his3683 hNs3683 h
   have hws3683:=zk (k:=i3683) his3683 (by omega)
   try dsimp only at h
   obtain ⟨e3688,c3688,g3688,q3688,h⟩:=idx_s encRow h
   obtain ⟨c3689,h⟩:=chk_s h
   have k3690:=eq_true (show (s3683.length+e3688.length) * 8≤140737488355328 by omega)
   have k3691:=eq_true (zif (n:=1) (f:=encI) (fun _=>rfl) e3688)
   try simp -implicitDefEqProofs only [go_sem,hns3671,his3683,hws3683,c3688,g3688,c3689,k3690,k3691]
   exact hNs3683 (s3683++e3688) (g3683+1) h (weakL (by simp -implicitDefEqProofs only [go_sem,hns3671,his3683,hws3683,c3688,g3688,c3689,k3690,k3691] <;> ((repeat' apply And.intro) <;> rfl)))
  ·intro i3683 s3683 g3683 Rs3683 hes3683 h
   have hns3683:¬ (i3683 < a0.length):=by omega
   try dsimp only at h
   cases h
   try simp -implicitDefEqProofs only [go_sem,hns3671,hns3683]
   refine ⟨by decide,_,.refl _,?_⟩
   simp -implicitDefEqProofs only [go_sem,hns3671,hns3683] <;> ((repeat' apply And.intro) <;> rfl)

end
end Go.Proofs.YtimojjnmmlhijaaGreat
set_option maxRecDepth 20000
namespace Go.Proofs.YtimojjnmmlhijaaGreat
open Go.Abs


noncomputable section
set_option maxHeartbeats 4000000 in
theorem zpo (a0:List Bool) (a1:Bool) (r:Int) (h:zg0 a0 a1=some r):CallV Tryz.prog 235 [.lst (a0.map enc_b),.val (.bool a1)] (fun v=>v = .val (.int .i64 r)):=by
 refine CallV.ple ?_
 refine zc [] Ty.mixed Tryz.func235 rfl (by kernel_rfl) (by simp [Tryz.ntmps235]) ?_; rw [Tryz.ntmps235,Tryz.results235]
 unfold zg0 at h
 obtain ⟨fus168,h⟩:=chk_s h
 unfold fuel at fus168
 try simp -implicitDefEqProofs only [go_sem]
 refine z7 (fun x:(Nat×(Unit))×(Unit)=>envL [(0,.p (.lst (a0.map enc_b))),(1,.p (.val (.bool a1))),(7,.p (.val (.int .i64 ((a0.length:Nat):Int)))),(8,.p (.val (.int .i64 ((x.1.1:Nat):Int))))]) (fun x=>heapL []) () h (weakL (by simp -implicitDefEqProofs only [go_sem] <;> ((repeat' apply And.intro) <;> rfl))) ?_ ?_
 ·intro i168 s168 g168 nxts168 Rs168 his168 hNs168 h
  have hws168:=zk (k:=i168) his168 (by omega)
  try dsimp only at h
  obtain ⟨e171,c171,g171,q171,h⟩:=idx_s enc_b h
  try simp -implicitDefEqProofs only [go_sem,his168,hws168,c171,g171]
  refine zb (fun b172=>?_) (fun b172=>?_)
  ·replace h:=ze h b172
   cases h
   try simp -implicitDefEqProofs only [go_sem,his168,hws168,c171,g171,b172]
   all_goals ((repeat' apply And.intro) <;> rfl)
  ·replace h:=zd h b172
   try simp -implicitDefEqProofs only [go_sem,his168,hws168,c171,g171,b172]
   exact hNs168 () () h (weakL (by simp -implicitDefEqProofs only [go_sem,his168,hws168,c171,g171,b172] <;> ((repeat' apply And.intro) <;> rfl)))
 ·intro i168 s168 g168 Rs168 hes168 h
  have hns168:¬ (i168 < a0.length):=by omega
  try dsimp only at h
  cases h
  try simp -implicitDefEqProofs only [go_sem,hns168]
  all_goals ((repeat' apply And.intro) <;> rfl)

set_option maxHeartbeats 4000000 in
theorem zr4 (a0:Int) (a1:Graph) (a2:Types) (r:Bool) (h:zf5 a0 a1 a2=some r):CallV Tryz.prog 195 [.val (.int .i64 a0),.eptr [.lst (a1.nodes.map encI),.lst (a1.edges.map encEdge)] 0,.eptr [.lst (a2.nodes.map encNode),.lst (a2.edges.map encEdgeT)] 0] (fun v=>v = .val (.bool r)):=by
 refine CallV.ple ?_
 refine zc [] Ty.mixed Tryz.func195 rfl (by kernel_rfl) (by simp [Tryz.ntmps195]) ?_; rw [Tryz.ntmps195,Tryz.results195]
 unfold zf5 at h
 obtain ⟨e671,c671a,c671b,g671,q671,h⟩:=atZ_s encEdge h
 have c671n:=zbj c671a c671b
 try simp -implicitDefEqProofs only [go_sem,c671a,c671b,c671n,g671]
 refine zbd [.q,.q,.q,.q,.q,.q,.q,.q,.q,.q,.q,.q,.q,.q,.q,.q,.q,.q] (by kernel_rfl) ?_
 obtain ⟨e672,c672a,c672b,g672,q672,h⟩:=atZ_s encI h
 have c672n:=zbj c672a c672b
 obtain ⟨e673,c673a,c673b,g673,q673,h⟩:=atZ_s encI h
 have c673n:=zbj c673a c673b
 obtain ⟨r674,hr674,h⟩:=thn_s h
 try simp -implicitDefEqProofs only [go_sem,c671a,c671b,c671n,g671,c672a,c672b,c672n,g672,c673a,c673b,c673n,g673]
 refine calldG (zye a2 e671.type e672 e673 r674 hr674) (by simp -implicitDefEqProofs only [go_sem,c671a,c671b,c671n,g671,c672a,c672b,c672n,g672,c673a,c673b,c673n,g673] <;> rfl) (za _) (by first | exact pers | exact scal rfl) ?_
 cases h
 try simp -implicitDefEqProofs only [go_sem,c671a,c671b,c671n,g671,c672a,c672b,c672n,g672,c673a,c673b,c673n,g673]
 all_goals ((repeat' apply And.intro) <;> rfl)

set_option maxHeartbeats 4000000 in
theorem zh2 (a0:zi) (r:Bool) (h:zea a0=some r):CallV Tryz.prog 272 [.agg (zt a0)] (fun v=>v = .val (.bool r)):=by
 refine CallV.ple ?_
 refine zc [] Ty.mixed Tryz.func272 rfl (by kernel_rfl) (by simp [Tryz.ntmps272]) ?_; rw [Tryz.ntmps272,Tryz.results272]
 unfold zea at h
 try simp -implicitDefEqProofs only [go_sem]
 refine zj (fun b682=>?_) (fun b682=>?_)
 ·replace h:=ze h b682
  cases h
  try simp -implicitDefEqProofs only [go_sem,b682]
  all_goals ((repeat' apply And.intro) <;> rfl)
 ·replace h:=zd h b682
  cases h
  try simp -implicitDefEqProofs only [go_sem,b682]
  all_goals ((repeat' apply And.intro) <;> rfl)

set_option maxHeartbeats 4000000 in
theorem zky (a0:List NodeT) (p1:NodeT→Option Bool) (k1:FuncId) (fs1 cs1:List PV) (hp1:∀ x0 r,p1 x0=some r→CallV Tryz.prog k1 (fs1++[.agg (encNode x0)]++cs1) (fun v=>v = .val (.bool r))) (r:Int) (h:zdn a0 p1=some r):CallV Tryz.prog 118 [.lst (a0.map encNode),.clo (.func k1) fs1 cs1] (fun v=>v = .val (.int .i64 r)):=by
 refine CallV.ple ?_
 refine zc [] Ty.mixed Tryz.func118 rfl (by kernel_rfl) (by simp [Tryz.ntmps118]) ?_; rw [Tryz.ntmps118,Tryz.results118]
 unfold zdn at h
 obtain ⟨fus828,h⟩:=chk_s h
 unfold fuel at fus828
 try simp -implicitDefEqProofs only [go_sem]
 refine z7 (fun x:(Nat×(Unit))×(Unit)=>envL [(0,.p (.lst (a0.map encNode))),(1,.p (.clo (.func k1) fs1 cs1)),(7,.p (.val (.int .i64 ((a0.length:Nat):Int)))),(8,.p (.val (.int .i64 ((x.1.1:Nat):Int))))]) (fun x=>heapL []) () h (weakL (by simp -implicitDefEqProofs only [go_sem] <;> ((repeat' apply And.intro) <;> rfl))) ?_ ?_
 ·intro i828 s828 g828 nxts828 Rs828 his828 hNs828 h
  have hws828:=zk (k:=i828) his828 (by omega)
  try dsimp only at h
  obtain ⟨e832,c832,g832,q832,h⟩:=idx_s encNode h
  obtain ⟨r833,hr833,h⟩:=thn_s h
  try simp -implicitDefEqProofs only [go_sem,his828,hws828,c832,g832]
  refine callG (hp1 e832 r833 hr833) (by simp -implicitDefEqProofs only [go_sem,his828,hws828,c832,g832,zfd,ze5,Bool.or_false,Bool.false_or] <;> rfl) (za _) (by first | exact pers | exact scal rfl) ?_
  try simp -implicitDefEqProofs only [go_sem,his828,hws828,c832,g832]
  refine zb (fun b834=>?_) (fun b834=>?_)
  ·replace h:=ze h b834
   cases h
   try simp -implicitDefEqProofs only [go_sem,his828,hws828,c832,g832,b834]
   all_goals ((repeat' apply And.intro) <;> rfl)
  ·replace h:=zd h b834
   try simp -implicitDefEqProofs only [go_sem,his828,hws828,c832,g832,b834]
   exact hNs828 () () h (weakL (by simp -implicitDefEqProofs only [go_sem,his828,hws828,c832,g832,b834] <;> ((repeat' apply And.intro) <;> rfl)))
 ·intro i828 s828 g828 Rs828 hes828 h
  have hns828:¬ (i828 < a0.length):=by omega
  try dsimp only at h
  cases h
  try simp -implicitDefEqProofs only [go_sem,hns828]
  all_goals ((repeat' apply And.intro) <;> rfl)

set_option maxHeartbeats 4000000 in
theorem zgi (a0:List zl) (p1:zl→Option Bool) (k1:FuncId) (fs1 cs1:List PV) (hp1:∀ x0 r,p1 x0=some r→CallV Tryz.prog k1 (fs1++[.agg [.lst (x0.deletes.map encI),.lst (x0.creates.map encI)]]++cs1) (fun v=>v = .val (.bool r))) (r:Int) (h:zb7 a0 p1=some r):CallV Tryz.prog 30 [.lst (a0.map zy),.clo (.func k1) fs1 cs1] (fun v=>v = .val (.int .i64 r)):=by
 refine CallV.ple ?_
 refine zc [] Ty.mixed Tryz.func30 rfl (by kernel_rfl) (by simp [Tryz.ntmps30]) ?_; rw [Tryz.ntmps30,Tryz.results30]
 unfold zb7 at h
 obtain ⟨fus1009,h⟩:=chk_s h
 unfold fuel at fus1009
 try simp -implicitDefEqProofs only [go_sem]
 refine z7 (fun x:(Nat×(Unit))×(Unit)=>envL [(0,.p (.lst (a0.map zy))),(1,.p (.clo (.func k1) fs1 cs1)),(7,.p (.val (.int .i64 ((a0.length:Nat):Int)))),(8,.p (.val (.int .i64 ((x.1.1:Nat):Int))))]) (fun x=>heapL []) () h (weakL (by simp -implicitDefEqProofs only [go_sem] <;> ((repeat' apply And.intro) <;> rfl))) ?_ ?_
 ·intro i1009 s1009 g1009 nxts1009 Rs1009 his1009 hNs1009 h
  have hws1009:=zk (k:=i1009) his1009 (by omega)
  try dsimp only at h
  obtain ⟨e1013,c1013,g1013,q1013,h⟩:=idx_s zy h
  obtain ⟨r1014,hr1014,h⟩:=thn_s h
  try simp -implicitDefEqProofs only [go_sem,his1009,hws1009,c1013,g1013]
  refine callG (hp1 e1013 r1014 hr1014) (by simp -implicitDefEqProofs only [go_sem,his1009,hws1009,c1013,g1013,zfd,ze5,Bool.or_false,Bool.false_or] <;> rfl) (za _) (by first | exact pers | exact scal rfl) ?_
  try simp -implicitDefEqProofs only [go_sem,his1009,hws1009,c1013,g1013]
  refine zb (fun b1015=>?_) (fun b1015=>?_)
  ·replace h:=ze h b1015
   cases h
   try simp -implicitDefEqProofs only [go_sem,his1009,hws1009,c1013,g1013,b1015]
   all_goals ((repeat' apply And.intro) <;> rfl)
  ·replace h:=zd h b1015
   try simp -implicitDefEqProofs only [go_sem,his1009,hws1009,c1013,g1013,b1015]
   exact hNs1009 () () h (weakL (by simp -implicitDefEqProofs only [go_sem,his1009,hws1009,c1013,g1013,b1015] <;> ((repeat' apply And.intro) <;> rfl)))
 ·intro i1009 s1009 g1009 Rs1009 hes1009 h
  have hns1009:¬ (i1009 < a0.length):=by omega
  try dsimp only at h
  cases h
  try simp -implicitDefEqProofs only [go_sem,hns1009]
  all_goals ((repeat' apply And.intro) <;> rfl)

set_option maxHeartbeats 4000000 in
theorem zqj (a0:zl) (r:Bool) (h:zf8 a0=some r):CallV Tryz.prog 69 [.agg [.lst (a0.deletes.map encI),.lst (a0.creates.map encI)]] (fun v=>v = .val (.bool r)):=by
 refine CallV.ple ?_
 refine zc [] Ty.mixed Tryz.func69 rfl (by kernel_rfl) (by simp [Tryz.ntmps69]) ?_; rw [Tryz.ntmps69,Tryz.results69]
 unfold zf8 at h
 cases h
 try simp -implicitDefEqProofs only [go_sem]
 all_goals ((repeat' apply And.intro) <;> rfl)

set_option maxHeartbeats 4000000 in
theorem zjy (a0:zbo) (a1:Int) (r:Bool) (h:zd5 a0 a1=some r):CallV Tryz.prog 56 [.agg [.lst (a0.nodes.map encI),.lst (a0.edges.map encI)],.val (.int .i64 a1)] (fun v=>v = .val (.bool r)):=by
 refine CallV.ple ?_
 refine zc [] Ty.mixed Tryz.func56 rfl (by kernel_rfl) (by simp [Tryz.ntmps56]) ?_; rw [Tryz.ntmps56,Tryz.results56]
 unfold zd5 at h
 cases h
 try simp -implicitDefEqProofs only [go_sem]
 all_goals ((repeat' apply And.intro) <;> rfl)

set_option maxHeartbeats 4000000 in
theorem zjb (a0:Types) (a1:Graph) (r:Bool) (h:zdu a0 a1=some r):CallV Tryz.prog 161 [.agg [.lst (a0.nodes.map encNode),.lst (a0.edges.map encEdgeT)],.agg [.lst (a1.nodes.map encI),.lst (a1.edges.map encEdge)]] (fun v=>v = .val (.bool r)):=by
 refine CallV.ple ?_
 refine zc [] Ty.mixed Tryz.func161 rfl (by kernel_rfl) (by simp [Tryz.ntmps161]) ?_; rw [Tryz.ntmps161,Tryz.results161]
 unfold zdu at h
 obtain ⟨fus2182,h⟩:=chk_s h
 unfold fuel at fus2182
 try simp -implicitDefEqProofs only [go_sem]
 refine z7 (fun x:(Nat×(Unit))×(Unit)=>envL [(2,.ptr 2 0),(3,.ptr 3 0),(5,.p (.val (.int .i64 ((x.1.1:Nat):Int))))]) (fun x=>heapL [(2,.box [.p (.lst (a0.nodes.map encNode)),.p (.lst (a0.edges.map encEdgeT))]),(3,.box [.p (.lst (a1.nodes.map encI)),.p (.lst (a1.edges.map encEdge))])]) () h (weakL (by simp -implicitDefEqProofs only [go_sem] <;> ((repeat' apply And.intro) <;> rfl))) ?_ ?_
 ·intro i2182 s2182 g2182 nxts2182 Rs2182 his2182 hNs2182 h
  have hws2182:=zk (k:=i2182) his2182 (by omega)
  try dsimp only at h
  try simp -implicitDefEqProofs only [go_sem,his2182,hws2182]
  refine zbd [.q,.q,.q,.q,.q,.q,.q,.q,.q,.q,.q,.q,.q,.q,.q,.q,.q] (by kernel_rfl) ?_
  obtain ⟨e2186,c2186,g2186,q2186,h⟩:=idx_s encI h
  try simp -implicitDefEqProofs only [go_sem,his2182,hws2182,c2186,g2186]
  refine zex (fun b2187=>?_) (fun b2187=>?_)
  ·replace h:=ze h b2187
   cases h
   try simp -implicitDefEqProofs only [go_sem,his2182,hws2182,c2186,g2186,b2187]
   all_goals ((repeat' apply And.intro) <;> rfl)
  ·replace h:=zd h b2187
   try simp -implicitDefEqProofs only [go_sem,his2182,hws2182,c2186,g2186,b2187]
   refine zb (fun b2188=>?_) (fun b2188=>?_)
   ·replace h:=ze h b2188
    cases h
    try simp -implicitDefEqProofs only [go_sem,his2182,hws2182,c2186,g2186,b2187,b2188]
    all_goals ((repeat' apply And.intro) <;> rfl)
   ·replace h:=zd h b2188
    try simp -implicitDefEqProofs only [go_sem,his2182,hws2182,c2186,g2186,b2187,b2188]
    exact hNs2182 () () h (weakL (by simp -implicitDefEqProofs only [go_sem,his2182,hws2182,c2186,g2186,b2187,b2188] <;> ((repeat' apply And.intro) <;> rfl)))
 ·intro i2182 s2182 g2182 Rs2182 hes2182 h
  have hns2182:¬ (i2182 < a1.nodes.length):=by omega
  try dsimp only at h
  obtain ⟨fus2194,h⟩:=chk_s h
  unfold fuel at fus2194
  try simp -implicitDefEqProofs only [go_sem,hns2182]
  refine z7 (fun x:(Nat×(Unit))×(Unit)=>envL [(2,.ptr 2 0),(3,.ptr 3 0),(6,.p (.val (.int .i64 ((x.1.1:Nat):Int))))]) (fun x=>heapL [(2,.box [.p (.lst (a0.nodes.map encNode)),.p (.lst (a0.edges.map encEdgeT))]),(3,.box [.p (.lst (a1.nodes.map encI)),.p (.lst (a1.edges.map encEdge))])]) () h (weakL (by simp -implicitDefEqProofs only [go_sem,hns2182] <;> ((repeat' apply And.intro) <;> rfl))) ?_ ?_
  ·intro i2194 s2194 g2194 nxts2194 Rs2194 his2194 hNs2194 h
   have hws2194:=zk (k:=i2194) his2194 (by omega)
   try dsimp only at h
   try simp -implicitDefEqProofs only [go_sem,hns2182,his2194,hws2194]
   refine zbd [.q,.q,.q,.q,.q,.q,.q,.q,.q,.q,.q,.q,.q,.q,.q,.q,.q,.q,.q] (by kernel_rfl) ?_
   obtain ⟨e2198,c2198,g2198,q2198,h⟩:=idx_s encEdge h
   try simp -implicitDefEqProofs only [go_sem,hns2182,his2194,hws2194,c2198,g2198]
   refine zex (fun b2199=>?_) (fun b2199=>?_)
   ·replace h:=ze h b2199
    cases h
    try simp -implicitDefEqProofs only [go_sem,hns2182,his2194,hws2194,c2198,g2198,b2199]
    all_goals ((repeat' apply And.intro) <;> rfl)
   ·replace h:=zd h b2199
    try simp -implicitDefEqProofs only [go_sem,hns2182,his2194,hws2194,c2198,g2198,b2199]
    refine zb (fun b2200=>?_) (fun b2200=>?_)
    ·replace h:=ze h b2200
     cases h
     try simp -implicitDefEqProofs only [go_sem,hns2182,his2194,hws2194,c2198,g2198,b2199,b2200]
     all_goals ((repeat' apply And.intro) <;> rfl)
    ·replace h:=zd h b2200
     try simp -implicitDefEqProofs only [go_sem,hns2182,his2194,hws2194,c2198,g2198,b2199,b2200]
     exact hNs2194 () () h (weakL (by simp -implicitDefEqProofs only [go_sem,hns2182,his2194,hws2194,c2198,g2198,b2199,b2200] <;> ((repeat' apply And.intro) <;> rfl)))
  ·intro i2194 s2194 g2194 Rs2194 hes2194 h
   have hns2194:¬ (i2194 < a1.edges.length):=by omega
   try dsimp only at h
   cases h
   try simp -implicitDefEqProofs only [go_sem,hns2182,hns2194]
   all_goals ((repeat' apply And.intro) <;> rfl)

set_option maxHeartbeats 4000000 in
theorem zm9 (a0:Types) (a1:zx) (a2:Int) (r:Int) (h:zeu a0 a1 a2=some r):CallV Tryz.prog 166 [.agg [.lst (a0.nodes.map encNode),.lst (a0.edges.map encEdgeT)],.agg (zbq a1),.val (.int .i64 a2)] (fun v=>v = .val (.int .i64 r)):=by
 refine CallV.ple ?_
 refine zc [] Ty.mixed Tryz.func166 rfl (by kernel_rfl) (by simp [Tryz.ntmps166]) ?_; rw [Tryz.ntmps166,Tryz.results166]
 unfold zeu at h
 obtain ⟨e2298,c2298a,c2298b,g2298,q2298,h⟩:=atZ_s zbk h
 have c2298n:=zbj c2298a c2298b
 try simp -implicitDefEqProofs only [go_sem,c2298a,c2298b,c2298n,g2298]
 refine zn (fun b2299=>?_) (fun b2299=>?_)
 ·replace h:=ze h b2299
  cases h
  try simp -implicitDefEqProofs only [go_sem,c2298a,c2298b,c2298n,g2298,b2299]
  all_goals ((repeat' apply And.intro) <;> rfl)
 ·replace h:=zd h b2299
  try simp -implicitDefEqProofs only [go_sem,c2298a,c2298b,c2298n,g2298,b2299]
  refine zb (fun b2300=>?_) (fun b2300=>?_)
  ·replace h:=ze h b2300
   cases h
   try simp -implicitDefEqProofs only [go_sem,c2298a,c2298b,c2298n,g2298,b2299,b2300]
   all_goals ((repeat' apply And.intro) <;> rfl)
  ·replace h:=zd h b2300
   try simp -implicitDefEqProofs only [go_sem,c2298a,c2298b,c2298n,g2298,b2299,b2300]
   refine zbd [.q,.q,.q,.q,.q,.q,.q,.q,.q,.q,.q,.q,.q,.q] (by kernel_rfl) ?_
   obtain ⟨e2301,c2301a,c2301b,g2301,q2301,h⟩:=atZ_s encI h
   have c2301n:=zbj c2301a c2301b
   obtain ⟨r2302,hr2302,h⟩:=thn_s h
   try simp -implicitDefEqProofs only [go_sem,c2298a,c2298b,c2298n,g2298,b2299,b2300,c2301a,c2301b,c2301n,g2301]
   refine calldG (zi9 a0 e2301 r2302 hr2302) (by simp -implicitDefEqProofs only [go_sem,c2298a,c2298b,c2298n,g2298,b2299,b2300,c2301a,c2301b,c2301n,g2301] <;> rfl) (za _) (by first | exact pers | exact scal rfl) ?_
   try simp -implicitDefEqProofs only [go_sem,c2298a,c2298b,c2298n,g2298,b2299,b2300,c2301a,c2301b,c2301n,g2301]
   refine zn (fun b2303=>?_) (fun b2303=>?_)
   ·replace h:=ze h b2303
    cases h
    try simp -implicitDefEqProofs only [go_sem,c2298a,c2298b,c2298n,g2298,b2299,b2300,c2301a,c2301b,c2301n,g2301,b2303]
    all_goals ((repeat' apply And.intro) <;> rfl)
   ·replace h:=zd h b2303
    try simp -implicitDefEqProofs only [go_sem,c2298a,c2298b,c2298n,g2298,b2299,b2300,c2301a,c2301b,c2301n,g2301,b2303]
    refine zn (fun b2304=>?_) (fun b2304=>?_)
    ·replace h:=ze h b2304
     cases h
     try simp -implicitDefEqProofs only [go_sem,c2298a,c2298b,c2298n,g2298,b2299,b2300,c2301a,c2301b,c2301n,g2301,b2303,b2304]
     all_goals ((repeat' apply And.intro) <;> rfl)
    ·replace h:=zd h b2304
     try simp -implicitDefEqProofs only [go_sem,c2298a,c2298b,c2298n,g2298,b2299,b2300,c2301a,c2301b,c2301n,g2301,b2303,b2304]
     refine zn (fun b2305=>?_) (fun b2305=>?_)
     ·replace h:=ze h b2305
      cases h
      try simp -implicitDefEqProofs only [go_sem,c2298a,c2298b,c2298n,g2298,b2299,b2300,c2301a,c2301b,c2301n,g2301,b2303,b2304,b2305]
      all_goals ((repeat' apply And.intro) <;> rfl)
     ·replace h:=zd h b2305
      try simp -implicitDefEqProofs only [go_sem,c2298a,c2298b,c2298n,g2298,b2299,b2300,c2301a,c2301b,c2301n,g2301,b2303,b2304,b2305]
      refine zn (fun b2306=>?_) (fun b2306=>?_)
      ·replace h:=ze h b2306
       cases h
       try simp -implicitDefEqProofs only [go_sem,c2298a,c2298b,c2298n,g2298,b2299,b2300,c2301a,c2301b,c2301n,g2301,b2303,b2304,b2305,b2306]
       all_goals ((repeat' apply And.intro) <;> rfl)
      ·replace h:=zd h b2306
       try simp -implicitDefEqProofs only [go_sem,c2298a,c2298b,c2298n,g2298,b2299,b2300,c2301a,c2301b,c2301n,g2301,b2303,b2304,b2305,b2306]
       refine zn (fun b2307=>?_) (fun b2307=>?_)
       ·replace h:=ze h b2307
        cases h
        try simp -implicitDefEqProofs only [go_sem,c2298a,c2298b,c2298n,g2298,b2299,b2300,c2301a,c2301b,c2301n,g2301,b2303,b2304,b2305,b2306,b2307]
        all_goals ((repeat' apply And.intro) <;> rfl)
       ·replace h:=zd h b2307
        try simp -implicitDefEqProofs only [go_sem,c2298a,c2298b,c2298n,g2298,b2299,b2300,c2301a,c2301b,c2301n,g2301,b2303,b2304,b2305,b2306,b2307]
        refine zb (fun b2308=>?_) (fun b2308=>?_)
        ·replace h:=ze h b2308
         cases h
         try simp -implicitDefEqProofs only [go_sem,c2298a,c2298b,c2298n,g2298,b2299,b2300,c2301a,c2301b,c2301n,g2301,b2303,b2304,b2305,b2306,b2307,b2308]
         all_goals ((repeat' apply And.intro) <;> rfl)
        ·replace h:=zd h b2308
         obtain ⟨fus2314,h⟩:=chk_s h
         unfold fuel at fus2314
         try simp -implicitDefEqProofs only [go_sem,c2298a,c2298b,c2298n,g2298,b2299,b2300,c2301a,c2301b,c2301n,g2301,b2303,b2304,b2305,b2306,b2307,b2308]
         refine z7 (fun x:(Nat×(Unit))×(Unit)=>envL [(2,.p (.val (.int .i64 a2))),(4,.ptr 4 0),(7,.ptr 7 0),(10,.p (.val (.int .i64 ((x.1.1:Nat):Int))))]) (fun x=>heapL [(4,.box ((zbq a1).map .p)),(7,.box ((zbk e2298).map .p))]) () h (weakL (by simp -implicitDefEqProofs only [go_sem,c2298a,c2298b,c2298n,g2298,b2299,b2300,c2301a,c2301b,c2301n,g2301,b2303,b2304,b2305,b2306,b2307,b2308] <;> ((repeat' apply And.intro) <;> rfl))) ?_ ?_
         ·intro i2314 s2314 g2314 nxts2314 Rs2314 his2314 hNs2314 h
          have hws2314:=zk (k:=i2314) his2314 (by omega)
          have hjs2314:((i2314:Nat):Int) < a2:=by omega
          try dsimp only at h
          try simp -implicitDefEqProofs only [go_sem,c2298a,c2298b,c2298n,g2298,b2299,b2300,c2301a,c2301b,c2301n,g2301,b2303,b2304,b2305,b2306,b2307,b2308,his2314,hws2314,hjs2314]
          refine zbd [.q,.q,.q,.q,.q,.q,.q,.q,.q,.q,.q,.q,.q,.q,.q,.q,.q,.q,.q,.q] (by kernel_rfl) ?_
          obtain ⟨e2318,c2318,g2318,q2318,h⟩:=idx_s zbk h
          try simp -implicitDefEqProofs only [go_sem,c2298a,c2298b,c2298n,g2298,b2299,b2300,c2301a,c2301b,c2301n,g2301,b2303,b2304,b2305,b2306,b2307,b2308,his2314,hws2314,hjs2314,c2318,g2318]
          refine zcu (fun b2319=>?_) (fun b2319=>?_)
          ·replace h:=ze h b2319
           try simp -implicitDefEqProofs only [go_sem,c2298a,c2298b,c2298n,g2298,b2299,b2300,c2301a,c2301b,c2301n,g2301,b2303,b2304,b2305,b2306,b2307,b2308,his2314,hws2314,hjs2314,c2318,g2318,b2319]
           refine zb (fun b2320=>?_) (fun b2320=>?_)
           ·replace h:=ze h b2320
            cases h
            try simp -implicitDefEqProofs only [go_sem,c2298a,c2298b,c2298n,g2298,b2299,b2300,c2301a,c2301b,c2301n,g2301,b2303,b2304,b2305,b2306,b2307,b2308,his2314,hws2314,hjs2314,c2318,g2318,b2319,b2320]
            all_goals ((repeat' apply And.intro) <;> rfl)
           ·replace h:=zd h b2320
            try simp -implicitDefEqProofs only [go_sem,c2298a,c2298b,c2298n,g2298,b2299,b2300,c2301a,c2301b,c2301n,g2301,b2303,b2304,b2305,b2306,b2307,b2308,his2314,hws2314,hjs2314,c2318,g2318,b2319,b2320]
            exact hNs2314 () () h (weakL (by simp -implicitDefEqProofs only [go_sem,c2298a,c2298b,c2298n,g2298,b2299,b2300,c2301a,c2301b,c2301n,g2301,b2303,b2304,b2305,b2306,b2307,b2308,his2314,hws2314,hjs2314,c2318,g2318,b2319,b2320] <;> ((repeat' apply And.intro) <;> rfl)))
          ·replace h:=zd h b2319
           try simp -implicitDefEqProofs only [go_sem,c2298a,c2298b,c2298n,g2298,b2299,b2300,c2301a,c2301b,c2301n,g2301,b2303,b2304,b2305,b2306,b2307,b2308,his2314,hws2314,hjs2314,c2318,g2318,b2319]
           exact hNs2314 () () h (weakL (by simp -implicitDefEqProofs only [go_sem,c2298a,c2298b,c2298n,g2298,b2299,b2300,c2301a,c2301b,c2301n,g2301,b2303,b2304,b2305,b2306,b2307,b2308,his2314,hws2314,hjs2314,c2318,g2318,b2319] <;> ((repeat' apply And.intro) <;> rfl)))
         ·intro i2314 s2314 g2314 Rs2314 hes2314 h
          have hns2314:¬ (((i2314:Nat):Int) < a2):=by omega
          try dsimp only at h
          cases h
          try simp -implicitDefEqProofs only [go_sem,c2298a,c2298b,c2298n,g2298,b2299,b2300,c2301a,c2301b,c2301n,g2301,b2303,b2304,b2305,b2306,b2307,b2308,hns2314]
          all_goals ((repeat' apply And.intro) <;> rfl)

set_option maxHeartbeats 4000000 in
theorem zpt (a0:Int) (a1:List Int) (a2:zbr) (a3:Int) (r:Bool) (h:ze4 a0 a1 a2 a3=some r):CallV Tryz.prog 47 [.val (.int .i64 a0),.eptr [.lst (a1.map encI)] 0,.eptr (zc7 a2) 0,.eptr [.val (.int .i64 a3)] 0] (fun v=>v = .val (.bool r)):=by
 refine CallV.ple ?_
 refine zc [] Ty.mixed Tryz.func47 rfl (by kernel_rfl) (by simp [Tryz.ntmps47]) ?_; rw [Tryz.ntmps47,Tryz.results47]
 unfold ze4 at h
 try simp -implicitDefEqProofs only [go_sem]
 refine zbd [.q,.q,.q,.q,.q,.q,.q,.q,.q,.q,.q] (by kernel_rfl) ?_
 obtain ⟨e3703,c3703a,c3703b,g3703,q3703,h⟩:=atZ_s encI h
 have c3703n:=zbj c3703a c3703b
 obtain ⟨e3704,c3704a,c3704b,g3704,q3704,h⟩:=atZ_s encI h
 have c3704n:=zbj c3704a c3704b
 cases h
 try simp -implicitDefEqProofs only [go_sem,c3703a,c3703b,c3703n,g3703,c3704a,c3704b,c3704n,g3704]
 all_goals ((repeat' apply And.intro) <;> rfl)

end
end Go.Proofs.YtimojjnmmlhijaaGreat
