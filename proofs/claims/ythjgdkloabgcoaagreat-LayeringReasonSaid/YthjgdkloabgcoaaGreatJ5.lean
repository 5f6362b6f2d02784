/- Joined texts, part 5: lemmas for the statement. No condition. -/
import Derived.Test.YthjgdkloabgcoaaGreatJ4
import Derived.ChangeArms
import Derived.SizedLaws
import Derived.Test.YthjgdkloabgcoaaGreatJ1
import Derived.Test.YthjgdkloabgcoaaGreatJ3
import Derived.OpenShut
import Derived.ProofKit
import Derived.Carry
set_option maxHeartbeats 4000000
set_option linter.unusedSimpArgs false
set_option linter.unusedVariables false
open Nat (reduceEqDiff reduceLT reduceLeDiff reduceMul reduceAdd reduceSub)
namespace Go.Proofs.YthjgdkloabgcoaaGreat
open Go.Abs

theorem zbhr {α:Type} [Inhabited α] {l:List α} {q:Nat} (h:q<l.length):atZ l (q:Int)=some (l.getD q default):=by
 unfold atZ; rw[if_pos (Int.natCast_nonneg q),Int.toNat_natCast,List.getElem?_eq_getElem h,zcn h]
theorem z7m {α:Type} (e:α→Int) (a:α) (l:List α):errL e (a :: l)=if e a=0 then errL e l else e a:=by
 unfold errL
 rw[List.find?_cons]
 by_cases h:e a=0
 ·rw[if_pos h,decide_eq_true h]; rfl
 ·rw[if_neg h,decide_eq_false h]; rfl
theorem zbe4 {α β O : Type} {f : Nat → List β → (List β → Option O) → (List β → Option O) → Option O} {K : List β → Option O} (l : List α) (e : α → Int) (g : α → β) (X : Int → Option O) (h : ∀ i (hi : i < l.length) s nxt, s.length = i → f i s nxt K = if e l[i] = 0 then nxt (s ++ [g l[i]]) else X (e l[i])) :
  forN f (l.length - 0) 0 [] K=if errL e l=0 then K (l.map g) else X (errL e l):=by
 have key:∀ (k i:Nat),i+k=l.length→∀s:List β,s.length=i→forN f k i s K=if errL e (l.drop i)=0 then K (s++(l.drop i).map g) else X (errL e (l.drop i)):=by
  intro k
  induction k with
  | zero =>
   intro i hk s hs
   rw[List.drop_eq_nil_of_le (by omega)]
   show K s=if (0:Int)=0 then _ else _
   rw[if_pos rfl,List.map_nil,List.append_nil]
  | succ k ih =>
   intro i hk s hs
   rw[forN,h i (by omega) s _ hs,List.drop_eq_getElem_cons (by omega),z7m]
   by_cases h0:e l[i]=0
   ·rw[if_pos h0,if_pos h0,ih (i+1) (by omega) _ (by simp[hs])]
    rw[List.map_cons,List.append_assoc,List.singleton_append]
   ·rw[if_neg h0,if_neg h0,if_neg h0]
 have:=key (l.length - 0) 0 (by omega) [] rfl
 simpa using this

def kidB (t:zl) (a:Int):Bool:=t.nodes.any fun x=>decide (x.parent=a)
theorem ztk {t:zl} (ht:OkT t) {q:Nat} (h:q<t.nodes.length):isB t (q:Int) (q:Int)=true:=by
 rw[zlg (ht.par' h)]; simp
theorem zbes {t:zl} (ht:OkT t) (b:Int) (hb:0≤b):∀ (n:Nat) (a:Int),a+1<n→-1≤a→a<t.nodes.length→zdg n t a b=some (isB t a b):=by
 intro n
 induction n with
 | zero=>intro a h h1; omega
 | succ n ih =>
  intro a h h1 h2
  rw[zdg,zv (p:=a=b)]
  by_cases e:a=b
  ·rw[if_pos e]
   subst e
   obtain⟨q,rfl⟩:∃q:Nat,a=q:=⟨_,(Int.toNat_of_nonneg hb).symm⟩
   rw[ztk ht (by omega)]
  ·rw[if_neg e,zv (p:=0≤a)]
   by_cases h0:0≤a
   ·obtain⟨q,rfl⟩:∃q:Nat,a=q:=⟨_,(Int.toNat_of_nonneg h0).symm⟩
    have hq:q<t.nodes.length:=by omega
    have hp:=ht.par q hq
    rw[if_pos h0,zk (zbhr hq),zk (ih _ (by omega) hp.1 (by omega)),zlg (ht.par' hq),decide_eq_false e,Bool.false_or]
   ·rw[if_neg h0,zsf (by omega)]
def belowL (t:zl) (a:Int):List Nat:=(List.range t.nodes.length).filter fun j:Nat=>isB t (j:Int) a
theorem zbfs {t:zl} (ht:OkT t) (hv:(validT t).2=0) {a:Int} (h:0≤a∧a<t.nodes.length):ze6 t a=some ((belowL t a).map fun j:Nat=>(j:Int),0):=by
 have h12:=ht.n12
 have hg:zfa t a a=some 0:=by
  unfold zfa zf8
  rw[zk (zh7 ht.few),hv,wrapI (by omega)]
  simp only[decide_eq_true h.1,decide_eq_true (show a≤((t.nodes.length:Nat):Int) - 1 by omega),cond_true,ztq,decide_true]
 unfold ze6
 rw[zk hg,decide_eq_true rfl,cond_true,zbw (zbf (by omega))]
 have e:=zd3 (K:=fun s:List Int=>some (s,(0:Int))) (s:=([]:List Int)) (List.range t.nodes.length) (fun (s:List Int) (j:Nat)=>if isB t (j:Int) a=true then s++[(j:Int)] else s) (fun i s=>s.length≤i) (Nat.le_refl _)
  (f:=fun i3209 (s3209:(List Int)) nxts3209 brks3209=>thn (zdg fuel t ((i3209:Nat):Int) a) fun r3215=>cond r3215 (chk (s3209.length+1≤68719476736) <| nxts3209 (s3209++[((i3209:Nat):Int)])) <| nxts3209 s3209)
  (fun i hi s hs=>by
   have hi':i<t.nodes.length:=by simpa using hi
   rw[List.getElem_range]
   refine⟨fun nxt=>?_,?_⟩
   ·rw[zk (zbes ht a h.1 fuel (i:Int) (by unfold fuel; omega) (by omega) (by omega))]
    cases isB t (i:Int) a with
    | true=>rw[cond_true,if_pos rfl,zbw (by omega)]
    | false=>simp
   ·split
    ·simp; omega
    ·omega)
 rw[List.length_range] at e
 rw[e.1]
 have:∀ (q:List Nat) (s:List Int),q.foldl (fun (s:List Int) (j:Nat)=>if isB t (j:Int) a=true then s++[(j:Int)] else s) s=s++(q.filter fun j:Nat=>isB t (j:Int) a).map fun j:Nat=>(j:Int):=by
  intro q
  induction q with
  | nil=>intro s; simp
  | cons b q ih =>
   intro s
   rw[List.foldl_cons,ih,List.filter_cons]
   split<;>simp
 rw[this,List.nil_append]
 rfl
theorem zbfy {t:zl} (ht:OkT t) {a:Int} (h:0≤a∧a<t.nodes.length):(1:Int)<((((belowL t a).map fun j:Nat=>(j:Int)).length:Nat):Int)↔kidB t a=true:=by
 obtain⟨q,rfl⟩:∃q:Nat,a=q:=⟨_,(Int.toNat_of_nonneg h.1).symm⟩
 have hq:q<t.nodes.length:=by omega
 rw[List.length_map]
 have hn:(belowL t (q:Int)).Nodup:=(List.nodup_range).filter _
 have hm:∀j,j∈belowL t (q:Int)↔j<t.nodes.length∧isB t (j:Int) (q:Int)=true:=by
  intro j; unfold belowL; rw[List.mem_filter,List.mem_range]
 constructor
 ·intro h1
  refine Decidable.byContradiction fun hk=>?_
  have hno:∀j,j<t.nodes.length→(t.nodes.getD j default).parent≠(q:Int):=by
   intro j hj he
   refine hk ?_
   unfold kidB
   refine List.any_eq_true.2 ⟨t.nodes.getD j default,?_,decide_eq_true he⟩
   rw[zcn hj]; exact List.getElem_mem hj
  have hall:∀n j,j<n→j<t.nodes.length→isB t (j:Int) (q:Int)=true→j=q:=by
   intro n
   induction n with
   | zero=>intro j hj; omega
   | succ n ih =>
    intro j hjn hj hb
    have hp:=ht.par j hj
    rw[zlg (ht.par' hj),Bool.or_eq_true] at hb
    rcases hb with hb | hb
    ·have:=of_decide_eq_true hb; omega
    ·by_cases h0:(t.nodes.getD j default).parent<0
     ·rw[zsf h0] at hb; cases hb
     ·obtain⟨p,hpe⟩:∃p:Nat,(t.nodes.getD j default).parent=p:=⟨_,(Int.toNat_of_nonneg (by omega)).symm⟩
      rw[hpe] at hb hp
      have:=ih p (by omega) (by omega) hb
      exact absurd (by rw[hpe,this]) (hno j hj)
  match hL:belowL t (q:Int),hn,hm,h1 with
  | [],_,_,h1=>simp at h1
  | [x],_,_,h1=>simp at h1
  | x :: y :: l,hn,hm,_ =>
   have hx:=(hm x).1 (by simp)
   have hy:=(hm y).1 (by simp)
   have e1:=hall _ x (Nat.lt_succ_self x) hx.1 hx.2
   have e2:=hall _ y (Nat.lt_succ_self y) hy.1 hy.2
   simp[e1,e2] at hn
 ·intro hk
  unfold kidB at hk
  obtain⟨x,hx,he⟩:=List.any_eq_true.1 hk
  obtain⟨j,hj,rfl⟩:=memD hx
  have he:=of_decide_eq_true he
  have hp:=ht.par j hj
  rw[he] at hp
  have m1:j∈belowL t (q:Int):=(hm j).2 ⟨hj,by rw[zlg (ht.par' hj),he,ztk ht hq,Bool.or_true]⟩
  have m2:q∈belowL t (q:Int):=(hm q).2 ⟨hq,ztk ht hq⟩
  match hL:belowL t (q:Int),m1,m2 with
  | [x],m1,m2 =>
   simp only[List.mem_singleton] at m1 m2
   omega
  | x :: y :: l,_,_=>simp only[List.length_cons]; omega

noncomputable def ruleG (t:zl) (r:zu):Int:=if ruleE t r=0 then (if (goneN r).any (fun n=>kidB t (r.left.graph.nodes.getD n.toNat default))=true then 13 else 0) else ruleE t r
def effL (t:zl) (r:zu):zo:=⟨placesL t r.left.graph (goneN r) (goneE r),placesL t r.right.graph (madeN r) (madeE r)⟩
theorem zsh {r:zu} : ∀x∈goneN r,0≤x∧x<r.left.graph.nodes.length:=zjp
theorem zyt {r:zu} : ∀x∈goneE r,0≤x∧x<r.left.graph.edges.length:=zjp
theorem z2q {r:zu} : ∀x∈madeN r,0≤x∧x<r.right.graph.nodes.length:=zjp
theorem zxy {r:zu} : ∀x∈madeE r,0≤x∧x<r.right.graph.edges.length:=zjp
theorem zp6 {r:zu} (hr:FewR r):(goneN r).length≤1000∧(goneE r).length≤1000∧(madeN r).length≤1000∧(madeE r).length≤1000:=by
 have h1:=hr.base.left.graph
 have h2:=hr.base.right.graph
 have:=h1.nodes; have:=h1.edges; have:=h2.nodes; have:=h2.edges
 have a1:=zil r.left.graph.nodes.length r.keep.nodes
 have a2:=zil r.left.graph.edges.length r.keep.edges
 have a3:=zil r.right.graph.nodes.length r.into.nodes
 have a4:=zil r.right.graph.edges.length r.into.edges
 unfold goneN goneE madeN madeE
 omega
theorem l_of {t:zl} (ht:FewT t) {r:zu} (hr:FewR r):zi0 t r=some (if ruleG t r=0 then (effL t r,0) else (⟨[],[]⟩,ruleG t r)):=by
 obtain⟨_,_,hOk⟩:=zjv ht hr
 unfold zi0
 rw[zk (zr0 ht hr).1]
 by_cases h0:¬ (ruleE t r=0)
 ·have hG:ruleG t r=ruleE t r:=by unfold ruleG; rw[if_neg h0]
  rw[if_neg h0,zv (p:=ruleE t r=0),if_neg h0,hG,if_neg h0]
 have h0:=Decidable.of_not_not h0
 have hO:=hOk h0
 have hl:=zp6 hr
 rw[if_pos h0,decide_eq_true rfl,cond_true]
 show chk ((goneN r).length≤fuel) _=_
 rw[zbw (zbf (by omega))]
 rw[zco (goneN r) (fun n=>!kidB t (r.left.graph.nodes.getD n.toNat default)) (fun _=>some ((⟨[],[]⟩:zo),13)) (fun i hi nxt=>by
  have hm:=zsh _ (List.getElem_mem hi)
  show (thn (goneN r)[i]? _)=_
  rw[zbz hi,zk (by
   refine zla (fun x=>decide (x.parent=r.left.graph.nodes.getD (goneN r)[i].toNat default)) (by have:=hO.types.n12; omega) (fun x _=>?_)
   unfold zhr
   rw[zk (zse hm)]),zij]
  rfl)]
 rw[zee]
 have hG:ruleG t r=if (goneN r).any (fun n=>kidB t (r.left.graph.nodes.getD n.toNat default))=true then 13 else 0:=by unfold ruleG; rw[if_pos h0]
 have hall:((goneN r).all fun n=>!kidB t (r.left.graph.nodes.getD n.toNat default)) = !(goneN r).any fun n=>kidB t (r.left.graph.nodes.getD n.toNat default):=by rw[List.not_any_eq_all_not]
 rw[hG,hall]
 cases (goneN r).any (fun n=>kidB t (r.left.graph.nodes.getD n.toNat default)) with
 | true=>rfl
 | false =>
  show (thn (zhc t r) _)=_
  rw[zk (zwm ht hr).1,if_pos h0]
  show (thn (zej t r.left.graph (goneN r) (goneE r)) fun r961=>thn (zej t r.right.graph (madeN r) (madeE r)) fun r962=>some ((⟨r961,r962⟩:zo),(0:Int)))=_
  rw[zk (zxv hO.types hO.left hO.ltyped zsh zyt hl.1 hl.2.1),zk (zxv hO.types hO.right hO.rtyped z2q zxy hl.2.2.1 hl.2.2.2)]
  rfl
theorem zmu {t:zl} (ht:FewT t) {r:zu} (hr:FewR r) (h0:ruleE t r=0):zcg t r=some (effL t r).deletes:=by
 have hO:=(zjv ht hr).2.2 h0
 have hl:=zp6 hr
 unfold zcg
 rw[zk (zr0 ht hr).2,if_pos h0]
 show (thn (zc0 t r.left.graph (goneN r) (goneE r)) _)=_
 rw[zk (zwh hO.types hO.left hO.ltyped zsh zyt hl.1 hl.2.1)]
 rfl
theorem zt0 {t:zl} (ht:FewT t) {r:zu} (hr:FewR r) (h0:ruleE t r=0):zcv t r=some (effL t r).creates:=by
 have hO:=(zjv ht hr).2.2 h0
 have hl:=zp6 hr
 unfold zcv
 rw[zk (zwm ht hr).2,if_pos h0]
 show (thn (zc0 t r.right.graph (madeN r) (madeE r)) _)=_
 rw[zk (zwh hO.types hO.right hO.rtyped z2q zxy hl.2.2.1 hl.2.2.2)]
 rfl
noncomputable def givenE (t:zl) (rules:List zu):Int:=if (validT t).2=0 then (if 6<rules.length then 3 else errL (ruleG t) rules) else (validT t).2
structure zhs (t:zl) (rules:List zu):Prop where
 types:FewT t
 len:rules.length≤1000
 each:∀r∈rules,FewR r
theorem zr8 {t:zl} {rules:List zu} (h:zhs t rules):zfo t rules=some (if givenE t rules=0 then (rules.map (effL t),0) else ([],givenE t rules)):=by
 have hlen:=h.len
 unfold zfo
 rw[zk (zmg h.types),zv (p:=(validT t).2=0)]
 by_cases hv:¬ ((validT t).2=0)
 ·have hE:givenE t rules=(validT t).2:=by unfold givenE; rw[if_neg hv]
  rw[if_neg hv,hE,if_neg hv]
 have hv:=Decidable.of_not_not hv
 rw[if_pos hv,zv (p:=(6:Int)<((rules.length:Nat):Int))]
 by_cases h6:(6:Int)<((rules.length:Nat):Int)
 ·have hE:givenE t rules=3:=by unfold givenE; rw[if_pos hv,if_pos (show 6<rules.length by omega)]
  rw[if_pos h6,hE]; rfl
 have hE:givenE t rules=errL (ruleG t) rules:=by unfold givenE; rw[if_pos hv,if_neg (show ¬ 6<rules.length by omega)]
 rw[if_neg h6,zbw (zbf (by omega)),hE]
 refine (zbe4 rules (ruleG t) (effL t) (fun e=>some ([],e)) fun i hi s nxt hs=>?_).trans ?_
 ·rw[zbz hi,zk (l_of h.types (h.each _ (List.getElem_mem hi)))]
  by_cases h0:ruleG t rules[i]=0
  ·rw[if_pos h0,if_pos h0,decide_eq_true rfl,cond_true,zbw (by omega)]
  ·rw[if_neg h0,if_neg h0,zv (p:=ruleG t rules[i]=0),if_neg h0]
 ·split<;>rfl
theorem zbdx {t:zl} {rules:List zu} (h:zhs t rules):ze9 t rules=some (givenE t rules):=by
 have hlen:=h.len
 unfold ze9
 rw[zk (zh7 h.types),zv (p:=(validT t).2=0)]
 by_cases hv:¬ ((validT t).2=0)
 ·have hE:givenE t rules=(validT t).2:=by unfold givenE; rw[if_neg hv]
  rw[if_neg hv,hE]
 have hv:=Decidable.of_not_not hv
 rw[if_pos hv,zv (p:=(6:Int)<((rules.length:Nat):Int))]
 by_cases h6:(6:Int)<((rules.length:Nat):Int)
 ·have hE:givenE t rules=3:=by unfold givenE; rw[if_pos hv,if_pos (show 6<rules.length by omega)]
  rw[if_pos h6,hE]
 have hE:givenE t rules=errL (ruleG t) rules:=by unfold givenE; rw[if_pos hv,if_neg (show ¬ 6<rules.length by omega)]
 rw[if_neg h6,zbw (zbf (by omega)),hE]
 refine (zco rules (fun r=>decide (ruleG t r=0)) (fun r=>some (ruleG t r)) fun i hi nxt=>?_).trans (zik rfl)
 have hr:=h.each _ (List.getElem_mem hi)
 rw[zbz hi,zk (zr0 h.types hr).2,zv (p:=ruleG t rules[i]=0)]
 generalize rules[i]=r at hr ⊢
 by_cases h0:¬ (ruleE t r=0)
 ·have hG:ruleG t r=ruleE t r:=by unfold ruleG; rw[if_neg h0]
  rw[if_neg h0,zv (p:=ruleE t r=0),if_neg h0,hG,if_neg h0]
 have h0:=Decidable.of_not_not h0
 have hO:=(zjv h.types hr).2.2 h0
 have hl:=zp6 hr
 rw[if_pos h0,decide_eq_true rfl,cond_true]
 show chk ((goneN r).length≤fuel) _=_
 rw[zbw (zbf (by omega))]
 rw[zco (goneN r) (fun n=>!kidB t (r.left.graph.nodes.getD n.toNat default)) (fun _=>some 13) (fun i hi nxt=>by
  have hm:=zsh _ (List.getElem_mem hi)
  have h2:0≤r.left.graph.nodes.getD (goneN r)[i].toNat default∧r.left.graph.nodes.getD (goneN r)[i].toNat default<t.nodes.length:=by
   have hi':(goneN r)[i].toNat<r.left.graph.nodes.length:=by omega
   rw[zcn hi']
   exact zkl hO.ltyped hO.left hi'
  show (thn (goneN r)[i]? _)=_
  rw[zbz hi,zk (zse hm),zk (zbfs hO.types hv h2),zij,zv (p:=(1:Int)<((((belowL t (r.left.graph.nodes.getD (goneN r)[i].toNat default)).map fun j:Nat=>(j:Int)).length:Nat):Int))]
  have hk:=zbfy hO.types h2
  cases hb:kidB t (r.left.graph.nodes.getD (goneN r)[i].toNat default) with
  | true=>rw[if_pos (hk.2 hb),cond_true]
  | false=>rw[if_neg (fun h=>by rw[hk.1 h] at hb; cases hb),cond_false])]
 rw[zee]
 have hG:ruleG t r=if (goneN r).any (fun n=>kidB t (r.left.graph.nodes.getD n.toNat default))=true then 13 else 0:=by unfold ruleG; rw[if_pos h0]
 have hall:((goneN r).all fun n=>!kidB t (r.left.graph.nodes.getD n.toNat default)) = !(goneN r).any fun n=>kidB t (r.left.graph.nodes.getD n.toNat default):=by rw[List.not_any_eq_all_not]
 rw[hG,hall]
 cases (goneN r).any (fun n=>kidB t (r.left.graph.nodes.getD n.toNat default))<;>rfl
structure zpk (t:zl) (rules:List zu):Prop where
 types:OkT t
 valid:(validT t).2=0
 six:rules.length≤6
 each:∀r∈rules,ruleE t r=0
theorem zic {t:zl} {rules:List zu} (h:zhs t rules) (h0:givenE t rules=0):zpk t rules:=by
 unfold givenE at h0
 split at h0
 ·rename_i hv
  split at h0
  ·cases h0
  ·rename_i h6
   refine⟨okTypes h.types hv,hv,by omega,fun r hr=>?_⟩
   have:=zlv.1 h0 r hr
   unfold ruleG at this
   split at this
   ·assumption
   ·assumption
 ·rename_i hv; exact absurd h0 hv
end Go.Proofs.YthjgdkloabgcoaaGreat
namespace Go.Abs.Lay
def g (x:List Int) (p:Int):Int:=x.getD p.toNat 0
def m (D:List Int) (x:List Int):Int:=D.foldl (fun n q=>max n (g x q)) 0
def upd (U:List (Int×Int)) (x:List Int):List Int:=U.foldl (fun x u=>x.set u.1.toNat (max (g x u.1) u.2)) x
abbrev Eff:=List Int×List Int
def ups (E:List Eff) (x:List Int):List (Int×Int):=E.flatMap fun e=>e.2.map fun p=>(p,m e.1 x+1)
def FF (E:List Eff) (x:List Int):List Int:=upd (ups E x) x
def jac (E:List Eff):Nat→List Int→Option (List Int)
 | 0,_=>none
 | k+1,x=>if x=FF E x then some x else jac E k (FF E x)

theorem zzi (D x:List Int):∀n:Int,n≤D.foldl (fun n q=>max n (g x q)) n∧(∀q∈D,g x q≤D.foldl (fun n q=>max n (g x q)) n)∧(D.foldl (fun n q=>max n (g x q)) n=n∨∃q∈D,D.foldl (fun n q=>max n (g x q)) n=g x q):=by
 induction D with
 | nil=>intro n; simp
 | cons a D ih =>
  intro n
  simp only[List.foldl_cons]
  obtain⟨h1,h2,h3⟩:=ih (max n (g x a))
  refine⟨by omega,fun q hq=>?_,?_⟩
  ·rcases List.mem_cons.1 hq with rfl | hq
   ·omega
   ·exact h2 q hq
  ·rcases h3 with h3 | ⟨q,hq,h3⟩
   ·rcases Int.le_total n (g x a) with h4 | h4
    ·exact .inr ⟨a,List.mem_cons_self,by rw[h3]; omega⟩
    ·exact .inl (by rw[h3]; omega)
   ·exact .inr ⟨q,List.mem_cons_of_mem _ hq,h3⟩
theorem m_nn (D x:List Int):0≤m D x:=(zzi D x 0).1
theorem m_ge {D x:List Int} {q:Int} (h:q∈D):g x q≤m D x:=(zzi D x 0).2.1 q h
theorem m_at (D x:List Int):m D x=0∨∃q∈D,m D x=g x q:=(zzi D x 0).2.2
theorem m_le {D x:List Int} {b:Int} (h0:0≤b) (h:∀q∈D,g x q≤b):m D x≤b:=by
 rcases m_at D x with h1 | ⟨q,hq,h1⟩
 ·omega
 ·rw[h1]; exact h q hq

def In (n:Nat) (p:Int):Prop:=0≤p∧p<n
theorem g_set {x:List Int} {n:Nat} (hx:x.length=n) {p q:Int} (hp:In n p) (hq:In n q) (v:Int):g (x.set p.toNat v) q=if q=p then v else g x q:=by
 unfold g
 obtain⟨h1,h2⟩:=hp
 obtain⟨h3,h4⟩:=hq
 simp only[List.getD_eq_getElem?_getD,List.getElem?_set]
 by_cases h:q=p
 ·subst h
  simp only[if_true]
  rw[if_pos (by omega)]
  rfl
 ·rw[if_neg (by omega),if_neg h]
theorem zbhi (U:List (Int×Int)) (x:List Int):(upd U x).length=x.length:=by
 unfold upd
 induction U generalizing x with
 | nil=>rfl
 | cons u U ih=>rw[List.foldl_cons,ih,List.length_set]
theorem zu3 {n : Nat} (U : List (Int × Int)) : ∀ (x : List Int), x.length = n → (∀ u ∈ U, In n u.1) → ∀ p, In n p →
  g x p≤g (upd U x) p∧(∀v,(p,v)∈U→v≤g (upd U x) p)∧(g (upd U x) p=g x p∨∃v,(p,v)∈U∧g (upd U x) p=v):=by
 induction U with
 | nil=>intro x _ _ p _; simp[upd]
 | cons u U ih =>
  intro x hx hU p hp
  have hu:=hU u List.mem_cons_self
  obtain⟨h1,h2,h3⟩:=ih (x.set u.1.toNat (max (g x u.1) u.2)) (by simpa using hx) (fun w hw=>hU w (List.mem_cons_of_mem _ hw)) p hp
  have e:upd (u :: U) x=upd U (x.set u.1.toNat (max (g x u.1) u.2)):=rfl
  rw[e]
  rw[g_set hx hu hp] at h1 h3
  by_cases hpu:p=u.1
  ·subst hpu
   simp only[if_true] at h1 h3
   refine⟨by omega,fun v hv=>?_,?_⟩
   ·rcases List.mem_cons.1 hv with h4 | h4
    ·have:v=u.2:=by rw[←h4]
     omega
    ·exact h2 v h4
   ·rcases h3 with h3 | ⟨v,h4,h3⟩
    ·rcases Int.le_total (g x u.1) u.2 with h5 | h5
     ·exact .inr ⟨u.2,by simp,by omega⟩
     ·exact .inl (by omega)
    ·exact .inr ⟨v,List.mem_cons_of_mem _ h4,h3⟩
  ·rw[if_neg hpu] at h1 h3
   refine⟨h1,fun v hv=>?_,?_⟩
   ·rcases List.mem_cons.1 hv with h4 | h4
    ·exact absurd (by rw[←h4]) hpu
    ·exact h2 v h4
   ·rcases h3 with h3 | ⟨v,h4,h3⟩
    ·exact .inl h3
    ·exact .inr ⟨v,List.mem_cons_of_mem _ h4,h3⟩
def Ok (E:List Eff) (n:Nat):Prop:=∀e∈E,(∀q∈e.1,In n q)∧(∀p∈e.2,In n p)
theorem zvp {E:List Eff} {x:List Int} {p v:Int} : (p,v)∈ups E x↔∃e∈E,p∈e.2∧v=m e.1 x+1:=by
 unfold ups
 simp only[List.mem_flatMap,List.mem_map,Prod.mk.injEq]
 constructor
 ·rintro⟨e,he,a,ha,rfl,rfl⟩; exact⟨e,he,ha,rfl⟩
 ·rintro⟨e,he,hp,rfl⟩; exact⟨e,he,p,hp,rfl,rfl⟩
theorem zyw {E:List Eff} {n:Nat} (hE:Ok E n) {x:List Int} : ∀u∈ups E x,In n u.1:=by
 rintro⟨p,v⟩ hu
 obtain⟨e,he,hp,_⟩:=zvp.1 hu
 exact (hE e he).2 p hp
theorem FF_len (E:List Eff) (x:List Int):(FF E x).length=x.length:=zbhi _ _
section
variable {E:List Eff} {n:Nat} (hE:Ok E n) {x:List Int} (hx:x.length=n)
include hE hx
theorem FF_ge {p:Int} (hp:In n p):g x p≤g (FF E x) p:=(zu3 _ x hx (zyw hE) p hp).1
theorem zbfb {e:Eff} (he:e∈E) {p:Int} (hp:p∈e.2):m e.1 x+1≤g (FF E x) p:=(zu3 _ x hx (zyw hE) p ((hE e he).2 p hp)).2.1 _ (zvp.2 ⟨e,he,hp,rfl⟩)
theorem FF_at {p:Int} (hp:In n p):g (FF E x) p=g x p∨∃e∈E,p∈e.2∧g (FF E x) p=m e.1 x+1:=by
 rcases (zu3 _ x hx (zyw hE) p hp).2.2 with h | ⟨v,h,h'⟩
 ·exact .inl h
 ·obtain⟨e,he,hp,rfl⟩:=zvp.1 h
  exact .inr ⟨e,he,hp,h'⟩
end
theorem zbe8 {n:Nat} {x y:List Int} (hx:x.length=n) (hy:y.length=n) (h:∀p,In n p→g x p=g y p):x=y:=by
 refine List.ext_getElem (by omega) fun i h1 h2=>?_
 have:=h i ⟨by omega,by omega⟩
 unfold g at this
 simpa[h1,h2] using this

def Sol (E:List Eff) (n:Nat) (f:Int→Int):Prop:=(∀p,In n p→0≤f p)∧∀e∈E,∀q∈e.1,∀p∈e.2,f q<f p
def Full (E:List Eff):Prop:=∀e∈E,e.1≠[]

section
variable {E:List Eff} {n:Nat} (hE:Ok E n) (hF:Full E)
include hE hF
theorem mx_lt {f:Int→Int} (hf:Sol E n f) {e:Eff} (he:e∈E) {x:List Int} (hx:∀p,In n p→g x p≤f p) {p:Int} (hp:p∈e.2):m e.1 x+1≤f p:=by
 rcases m_at e.1 x with h | ⟨q,hq,h⟩
 ·obtain⟨q,hq⟩:=List.exists_mem_of_ne_nil _ (hF e he)
  have h1:=hf.2 e he q hq p hp
  have h2:=hf.1 q ((hE e he).1 q hq)
  omega
 ·have h1:=hf.2 e he q hq p hp
  have h2:=hx q ((hE e he).1 q hq)
  omega
theorem z32 {f:Int→Int} (hf:Sol E n f) {x:List Int} (hx:x.length=n) (h:∀p,In n p→g x p≤f p):∀p,In n p→g (FF E x) p≤f p:=by
 intro p hp
 rcases FF_at hE hx hp with h1 | ⟨e,he,h2,h1⟩
 ·rw[h1]; exact h p hp
 ·rw[h1]; exact mx_lt hE hF hf he h h2
omit hF in
theorem fix_sol {x:List Int} (hx:x.length=n) (h0:∀p,In n p→0≤g x p) (h:x=FF E x):Sol E n (g x):=by
 refine⟨h0,fun e he q hq p hp=>?_⟩
 have h1:=zbfb hE hx he hp
 rw[←h] at h1
 have:=m_ge (x:=x) hq
 omega
omit hF in
theorem sol_small {f:Int→Int} (hf:Sol E n f):∃f',Sol E n f'∧∀p,In n p→f' p<n:=by
 refine⟨fun p=>(((List.range n).countP fun i:Nat=>decide (f (i:Int)<f p)):Int),⟨fun p _=>Int.natCast_nonneg _,fun e he q hq p hp=>?_⟩,fun p hp=>?_⟩
 ·simp only
  have hlt:=hf.2 e he q hq p hp
  have hqn:=(hE e he).1 q hq
  have key:∀l:List Nat,(l.countP fun i:Nat=>decide (f (i:Int)<f q))≤(l.countP fun i:Nat=>decide (f (i:Int)<f p))∧(q.toNat∈l→(l.countP fun i:Nat=>decide (f (i:Int)<f q))<(l.countP fun i:Nat=>decide (f (i:Int)<f p))):=by
   intro l
   induction l with
   | nil=>exact⟨Nat.le_refl _,fun h=>by cases h⟩
   | cons a l ih =>
    obtain⟨h1,h2⟩:=ih
    simp only[List.countP_cons]
    by_cases c1:f (a:Int)<f q
    ·have c2:f (a:Int)<f p:=by omega
     simp only[c1,c2,decide_true,if_true]
     refine⟨by omega,fun h=>?_⟩
     rcases List.mem_cons.1 h with h | h
     ·exfalso
      rw[←h,Int.toNat_of_nonneg hqn.1] at c1
      omega
     ·have:=h2 h; omega
    ·by_cases c2:f (a:Int)<f p
     ·simp only[c1,c2,decide_true,decide_false,if_true]
      exact⟨by simp; omega,fun _=>by simp; omega⟩
     ·simp only[c1,c2,decide_false]
      refine⟨by simpa using h1,fun h=>?_⟩
      rcases List.mem_cons.1 h with h | h
      ·exfalso
       rw[←h,Int.toNat_of_nonneg hqn.1] at c2
       omega
      ·simpa using h2 h
  have:=(key (List.range n)).2 (List.mem_range.2 (by have:=hqn.1; have:=hqn.2; omega))
  omega
 ·simp only
  have key:∀l:List Nat,p.toNat∈l→(l.countP fun i:Nat=>decide (f (i:Int)<f p))<l.length:=by
   intro l
   induction l with
   | nil=>intro h; cases h
   | cons a l ih =>
    intro h
    simp only[List.countP_cons,List.length_cons]
    rcases List.mem_cons.1 h with h | h
    ·rw[←h,Int.toNat_of_nonneg hp.1]
     have:¬ f p<f p:=by omega
     simp only[this,decide_false]
     have:=List.countP_le_length (p:=fun i:Nat=>decide (f (i:Int)<f p)) (l:=l)
     simp
     omega
    ·have:=ih h
     split<;>omega
  have:=key (List.range n) (List.mem_range.2 (by have:=hp.1; have:=hp.2; omega))
  simp only[List.length_range] at this
  omega
omit hE hF in
theorem z19:∀p,In n p→0≤g (List.replicate n 0) p:=by
 intro p hp
 unfold g
 rw[List.getD_eq_getElem?_getD,List.getElem?_replicate]
 split<;>simp
theorem zbhe {f : Int → Int} (hf : Sol E n f) (hfn : ∀ p, In n p → f p < n) : ∀ (k j : Nat) (x : List Int), x.length = n → (∀ p, In n p → 0 ≤ g x p ∧ g x p ≤ f p) → (∀ p, In n p → g x p ≠ g (FF E x) p → (j : Int) + 1 ≤ g (FF E x) p) → n ≤ j + k →
  ∃y,jac E (k+1) x=some y:=by
 intro k
 induction k with
 | zero =>
  intro j x hx hb hch hj
  refine⟨x,?_⟩
  have:x=FF E x:=by
   refine zbe8 hx (by rw[FF_len,hx]) fun p hp=>?_
   by_cases h:g x p=g (FF E x) p
   ·exact h
   ·have h1:=hch p hp h
    have h2:=z32 hE hF hf hx (fun p hp=>(hb p hp).2) p hp
    have h3:=hfn p hp
    omega
  rw[jac,if_pos this]
 | succ k ih =>
  intro j x hx hb hch hj
  by_cases h:x=FF E x
  ·exact⟨x,by rw[jac,if_pos h]⟩
  rw[jac,if_neg h]
  refine ih (j+1) (FF E x) (by rw[FF_len,hx]) (fun p hp=>⟨?_,z32 hE hF hf hx (fun p hp=>(hb p hp).2) p hp⟩) ?_ (by omega)
  ·have:=FF_ge hE hx hp; have:=(hb p hp).1; omega
  intro p hp hne
  rcases FF_at hE (x:=FF E x) (by rw[FF_len,hx]) hp with h1 | ⟨e,he,h2,h1⟩
  ·exact absurd h1.symm hne
  have h3:=zbfb hE hx he h2
  have h4:=FF_ge hE (x:=FF E x) (by rw[FF_len,hx]) hp
  have h5:=m_nn e.1 x
  rcases m_at e.1 (FF E x) with h6 | ⟨q,hq,h6⟩
  ·omega
  ·have h7:=m_ge (x:=x) hq
   have h8:=hch q ((hE e he).1 q hq) (by omega)
   omega
theorem jac_some {f:Int→Int} (hf:Sol E n f):∃y,jac E (n+2) (List.replicate n 0)=some y:=by
 obtain⟨f',h1,h2⟩:=sol_small hE hf
 have hz:∀p,In n p→g (List.replicate n 0) p=0:=by
  intro p hp
  unfold g
  rw[List.getD_eq_getElem?_getD,List.getElem?_replicate]
  split<;>rfl
 refine zbhe hE hF h1 h2 (n+1) 0 _ (by simp) (fun p hp=>⟨by rw[hz p hp]; omega,by rw[hz p hp]; exact h1.1 p hp⟩) (fun p hp hne=>?_) (by omega)
 have:=FF_ge hE (x:=List.replicate n 0) (by simp) hp
 rw[hz p hp] at hne this
 omega
theorem jac_least:∀ (k:Nat) (x y:List Int),x.length=n→(∀p,In n p→0≤g x p)→jac E k x=some y→y.length=n∧(∀p,In n p→0≤g y p)∧y=FF E y∧∀f,Sol E n f→(∀p,In n p→g x p≤f p)→∀p,In n p→g y p≤f p:=by
 intro k
 induction k with
 | zero=>intro x y _ _ h; cases h
 | succ k ih =>
  intro x y hx h0 h
  rw[jac] at h
  split at h
  ·cases h
   rename_i h1
   exact⟨hx,h0,h1,fun f _ h2=>h2⟩
  ·obtain⟨q1,q2,q3,q4⟩:=ih (FF E x) y (by rw[FF_len,hx]) (fun p hp=>by have:=FF_ge hE hx hp; have:=h0 p hp; omega) h
   exact⟨q1,q2,q3,fun f hf h2=>q4 f hf (z32 hE hF hf hx h2)⟩
theorem jac_eq {y:List Int} (hy:y.length=n) (hs:Sol E n (g y)) (hl:∀f,Sol E n f→∀p,In n p→g y p≤f p):jac E (n+2) (List.replicate n 0)=some y:=by
 obtain⟨z,hz⟩:=jac_some hE hF hs
 obtain⟨q1,q2,q3,q4⟩:=jac_least hE hF _ _ _ (by simp) (z19) hz
 have h1:=fix_sol hE q1 q2 q3
 rw[hz]
 congr 1
 refine zbe8 q1 hy fun p hp=>?_
 have a:=hl _ h1 p hp
 have b:=q4 _ hs (fun p hp=>by
  have:g (List.replicate n 0) p=0:=by
   unfold g
   rw[List.getD_eq_getElem?_getD,List.getElem?_replicate]
   split<;>rfl
  rw[this]; exact hs.1 p hp) p hp
 omega
theorem jac_none (h:∀f,¬ Sol E n f):jac E (n+2) (List.replicate n 0)=none:=by
 cases hz:jac E (n+2) (List.replicate n 0) with
 | none=>rfl
 | some z =>
  obtain⟨q1,q2,q3,_⟩:=jac_least hE hF _ _ _ (by simp) (z19) hz
  exact absurd (fix_sol hE q1 q2 q3) (h _)
end
end Go.Abs.Lay
namespace Go.Proofs.YthjgdkloabgcoaaGreat
open Go.Abs

theorem zbho (l:List Int) (v:Int):∀ (i:Nat) (h:i<l.length),(l.set i v).sum=l.sum+v - l[i]:=by
 induction l with
 | nil=>intro i h; simp at h
 | cons a l ih =>
  intro i h
  cases i with
  | zero=>simp only[List.set_cons_zero,List.sum_cons,List.getElem_cons_zero]; omega
  | succ i =>
   have:=ih i (by simpa using h)
   simp only[List.set_cons_succ,List.sum_cons,List.getElem_cons_succ]; omega
theorem z9h (l:List Int) (h:∀a∈l,a≤101):l.sum≤101 * l.length:=by
 induction l with
 | nil=>simp
 | cons a l ih =>
  have h1:=h a List.mem_cons_self
  have h2:=ih fun b hb=>h b (List.mem_cons_of_mem _ hb)
  simp only[List.sum_cons,List.length_cons]
  omega
theorem zxp {x:List Int} {i:Nat} (h:i<x.length):Lay.g x (i:Int)=x[i]:=by
 unfold Lay.g; simp[h]
theorem zbio {x:List Int} {a:Int} (h:a∈x):∃p:Int,Lay.In x.length p∧Lay.g x p=a:=by
 obtain⟨i,hi,rfl⟩:=List.mem_iff_getElem.1 h
 exact⟨i,⟨by omega,by omega⟩,zxp hi⟩
theorem zp2 {x:List Int} {n:Nat} (hx:x.length=n) {p:Int} (h:Lay.In n p):atZ x p=some (Lay.g x p):=by
 obtain⟨h1,h2⟩:=h
 have hi:p.toNat<x.length:=by omega
 unfold atZ Lay.g; rw[if_pos h1,List.getElem?_eq_getElem hi]; simp[hi]
theorem at_g {x:List Int} {i:Nat} (h:i<x.length):x[i]? = some (Lay.g x (i:Int)):=by
 rw[zxp h,List.getElem?_eq_getElem h]
theorem zbfa {x:List Int} {n:Nat} (hx:x.length=n) {p:Int} (h:Lay.In n p) (v:Int):(x.set p.toNat v).sum=x.sum+v - Lay.g x p:=by
 obtain⟨h1,h2⟩:=h
 have hi:p.toNat<x.length:=by omega
 rw[zbho x v _ hi]
 unfold Lay.g; simp[hi]
theorem zbh0 {D:List Int} {n:Nat} (hD:∀q∈D,Lay.In n q) {x y:List Int} (h:∀p,Lay.In n p→Lay.g x p≤Lay.g y p):Lay.m D x≤Lay.m D y :=
 Lay.m_le (Lay.m_nn _ _) fun q hq=>by have:=h q (hD q hq); have:=Lay.m_ge (x:=y) hq; omega

def EE (es:List zo):List Lay.Eff:=es.map fun e=>(e.deletes,e.creates)
structure EOk (es:List zo) (n:Nat):Prop where
 few:es.length≤6
 n32:n≤32
 each:∀e∈es,(∀q∈e.deletes,Lay.In n q)∧(∀p∈e.creates,Lay.In n p)∧e.deletes.length≤32∧e.creates.length≤32
theorem EOk.ok {es:List zo} {n:Nat} (h:EOk es n):Lay.Ok (EE es) n:=by
 intro e he
 obtain⟨a,ha,rfl⟩:=List.mem_map.1 he
 have:=h.each a ha
 exact⟨this.1,this.2.1⟩
def noneB (es:List zo):Bool:=es.any fun e=>decide (((e.deletes.length:Nat):Int)=0)
theorem zm4 {es:List zo} (h:noneB es=false):Lay.Full (EE es):=by
 intro e he
 obtain⟨a,ha,rfl⟩:=List.mem_map.1 he
 intro h0
 have h0:a.deletes=[]:=h0
 have:noneB es=true:=List.any_eq_true.2 ⟨a,ha,decide_eq_true (by rw[h0]; rfl)⟩
 rw[h] at this; cases this
def leastL (es:List zo) (n:Nat):Option (List Int):=if noneB es=true then none else Lay.jac (EE es) (n+2) (List.replicate n 0)
def rulesL (es:List zo) (y:List Int):List Int:=es.map fun e=>Lay.m e.deletes y

structure InvL (es:List zo) (n:Nat) (x r:List Int):Prop where
 xl:x.length=n
 rl:r.length=es.length
 xnn:∀p,Lay.In n p→0≤Lay.g x p
 low:∀f,Lay.Sol (EE es) n f→∀p,Lay.In n p→Lay.g x p≤f p
 rr:∀i (hi:i<es.length),0≤Lay.g r (i:Int)∧Lay.g r (i:Int)≤Lay.m es[i].deletes x
section
variable {es:List zo} {n:Nat} (hE:EOk es n) (hF:noneB es=false)
include hE hF
omit hF in
theorem InvL.rule {x r:List Int} (h:InvL es n x r) {i:Nat} (hi:i<es.length) {q:Int} (hq:q∈es[i].deletes):InvL es n x (r.set i (Lay.g x q)):=by
 refine⟨h.xl,by simp[h.rl],h.xnn,h.low,fun j hj=>?_⟩
 have e:=Lay.g_set (x:=r) h.rl (p:=(i:Int)) (q:=(j:Int)) ⟨by omega,by omega⟩ ⟨by omega,by omega⟩ (Lay.g x q)
 rw[Int.toNat_natCast] at e
 rw[e]
 split
 ·have:j=i:=by omega
  subst this
  exact⟨h.xnn q ((hE.each _ (List.getElem_mem hi)).1 q hq),Lay.m_ge hq⟩
 ·exact h.rr j hj
theorem InvL.place {x r:List Int} (h:InvL es n x r) {i:Nat} (hi:i<es.length) {p:Int} (hp:p∈es[i].creates) (hle:Lay.g x p≤Lay.g r (i:Int)):InvL es n (x.set p.toNat (Lay.g r (i:Int)+1)) r∧∀q,Lay.In n q→Lay.g x q≤Lay.g (x.set p.toNat (Lay.g r (i:Int)+1)) q:=by
 have hpn:=(hE.each _ (List.getElem_mem hi)).2.1 p hp
 have hri:=h.rr i hi
 have e:=fun q (hq:Lay.In n q)=>Lay.g_set (x:=x) h.xl (p:=p) (q:=q) hpn hq (Lay.g r (i:Int)+1)
 have hge:∀q,Lay.In n q→Lay.g x q≤Lay.g (x.set p.toNat (Lay.g r (i:Int)+1)) q:=by
  intro q hq
  rw[e q hq]
  split
  ·rename_i h1; subst h1; omega
  ·omega
 refine⟨⟨by simp[h.xl],h.rl,fun q hq=>?_,fun f hf q hq=>?_,fun j hj=>⟨(h.rr j hj).1,?_⟩⟩,hge⟩
 ·have:=h.xnn q hq; have:=hge q hq; omega
 ·rw[e q hq]
  split
  ·rename_i h1; subst h1
   have:=Lay.mx_lt hE.ok (zm4 hF) hf (List.mem_map.2 ⟨_,List.getElem_mem hi,rfl⟩) (h.low f hf) (p:=q) hp
   simp only at this
   omega
  ·exact h.low f hf q hq
 ·have:=(h.rr j hj).2
  have:=zbh0 (hE.each _ (List.getElem_mem hj)).1 hge
  omega
theorem InvL.big {x r:List Int} (h:InvL es n x r) {i:Nat} (hi:i<es.length) (hb:100<Lay.g r (i:Int)):leastL es n=none:=by
 unfold leastL
 rw[if_neg (by rw[hF]; decide)]
 refine Lay.jac_none hE.ok (zm4 hF) fun f hf=>?_
 obtain⟨f',h1,h2⟩:=Lay.sol_small hE.ok hf
 have hr:=(h.rr i hi).2
 have h32:=hE.n32
 have:Lay.m es[i].deletes x≤32:=Lay.m_le (by omega) fun q hq=>by
  have hq':=(hE.each _ (List.getElem_mem hi)).1 q hq
  have:=h.low f' h1 q hq'
  have:=h2 q hq'
  omega
 omega
theorem InvL.done {x r:List Int} (h:InvL es n x r) (hs:∀j (hj:j<es.length),(∀q∈es[j].deletes,Lay.g x q≤Lay.g r (j:Int))∧∀p∈es[j].creates,Lay.g r (j:Int)<Lay.g x p):leastL es n=some x∧r=rulesL es x:=by
 constructor
 ·unfold leastL
  rw[if_neg (by rw[hF]; decide)]
  refine Lay.jac_eq hE.ok (zm4 hF) h.xl ⟨h.xnn,fun e he q hq p hp=>?_⟩ h.low
  obtain⟨a,ha,rfl⟩:=List.mem_map.1 he
  obtain⟨j,hj,rfl⟩:=List.mem_iff_getElem.1 ha
  have h1:=(hs j hj).1 q hq
  have h2:=(hs j hj).2 p hp
  omega
 ·refine List.ext_getElem (by simp[rulesL,h.rl]) fun j h1 h2=>?_
  have hj:j<es.length:=by rw[←h.rl]; exact h1
  have e1:=(h.rr j hj)
  have e2:=Lay.m_le (D:=es[j].deletes) (x:=x) e1.1 fun q hq=>(hs j hj).1 q hq
  rw[zxp h1] at e1 e2
  simp only[rulesL,List.getElem_map]
  omega
end
def totL (x r:List Int):Int:=x.sum+r.sum
theorem zbf9 {es:List zo} {n:Nat} (hE:EOk es n):zhg es (n:Int)=some (match leastL es n with | some y=>(rulesL es y,y,true) | none=>([],[],false)):=by
 have hfew:=hE.few
 have h32:=hE.n32
 unfold zhg
 rw[zbw (by omega),zbw ⟨by omega,by omega⟩]
 rw[zk (zjg (p:=fun x=>zgs x) (fun e=>decide (((e.deletes.length:Nat):Int)=0)) (by omega) (fun _ _=>rfl))]
 show cond (noneB es) _ _=_
 cases hF:noneB es with
 | true=>rw[cond_true]; unfold leastL; rw[if_pos hF]
 | false =>
 rw[cond_false]
 refine Ok.eq ?_
 refine zlo (fun s:Bool×List Int×List Int=>InvL es n s.2.1 s.2.2∧(∀p,Lay.In n p→Lay.g s.2.1 p≤101)∧(∀i,i<es.length→Lay.g s.2.2 (i:Int)≤100)∧(s.1=false→∀j (hj:j<es.length),(∀q∈es[j].deletes,Lay.g s.2.1 q≤Lay.g s.2.2 (j:Int))∧∀p∈es[j].creates,Lay.g s.2.2 (j:Int)<Lay.g s.2.1 p))
  (fun s=>2 * (101 * (n+es.length) - totL s.2.1 s.2.2).toNat+(if s.1=true then 1 else 0)) ?_ ?_ ?_
 ·have hz:∀ (k:Nat) (p:Int),Lay.g (List.replicate k 0) p=0:=by
   intro k p; unfold Lay.g; rw[List.getD_eq_getElem?_getD,List.getElem?_replicate]; split<;>rfl
  rw[Int.toNat_natCast]
  refine⟨⟨by simp,by simp,fun p _=>by rw[hz]; omega,fun f hf p hp=>by rw[hz]; exact hf.1 p hp,fun i hi=>⟨by rw[hz]; omega,by rw[hz]; exact Lay.m_nn _ _⟩⟩,fun p _=>by rw[hz]; omega,fun i _=>by rw[hz]; omega,fun h=>absurd (show true=false from h) (by decide)⟩
 ·have:totL (List.replicate n 0) (List.replicate es.length 0)=0:=by simp[totL]
  simp only[Int.toNat_natCast,this,if_true,fuel]
  omega
 ·rintro⟨c,x0,r0⟩ nxt ⟨hI,hx,hr,hs⟩ hn
  cases c with
  | false =>
   rw[cond_false]
   obtain⟨e1,e2⟩:=hI.done hE hF (hs rfl)
   refine Ok.mk ?_
   rw[e1]
   exact congrArg (·,_) e2
  | true =>
  rw[cond_true]
  refine zdv (zbf (by omega)) ?_
  refine zgl (fun i (s:Bool×List Int×List Int)=>InvL es n s.2.1 s.2.2∧(∀p,Lay.In n p→Lay.g s.2.1 p≤101)∧(∀i,i<es.length→Lay.g s.2.2 (i:Int)≤100)∧totL x0 r0≤totL s.2.1 s.2.2∧(s.1=true→totL x0 r0<totL s.2.1 s.2.2)∧(s.1=false→∀j (hj:j<es.length),j<i→(∀q∈es[j].deletes,Lay.g s.2.1 q≤Lay.g s.2.2 (j:Int))∧∀p∈es[j].creates,Lay.g s.2.2 (j:Int)<Lay.g s.2.1 p)) (Nat.zero_le _) ⟨hI,hx,hr,Int.le_refl _,fun h=>absurd (show false=true from h) Bool.false_ne_true,fun _ j _ h=>by omega⟩ ?_ ?_
  ·rintro i ⟨c,x,r⟩ nxt2 _ hi ⟨hI,hx,hr,ht,hc,hs⟩ hn2
   refine zg9 hi ?_
   obtain⟨hd,hcr,hdl,hcl⟩:=hE.each _ (List.getElem_mem hi)
   refine zdv (zbf (by omega)) ?_
   have hIn:Lay.In r.length (i:Int):=⟨by omega,by have:=hI.rl; simp only at this; omega⟩
   refine zgl (fun d (s:Bool×List Int)=>InvL es n x s.2∧(∀j,j<es.length→j≠i→Lay.g s.2 (j:Int)≤100)∧Lay.g s.2 (i:Int)≤101∧totL x r≤totL x s.2∧(s.1=true→c=true∨totL x r<totL x s.2)∧(s.1=false→c=false∧s.2=r)∧∀k (hk:k<es[i].deletes.length),k<d→Lay.g x es[i].deletes[k]≤Lay.g s.2 (i:Int)) (Nat.zero_le _) ⟨hI,fun j hj _=>hr j hj,by have:=hr i hi; simp only at this ⊢; omega,Int.le_refl _,fun h=>.inl h,fun h=>⟨h,rfl⟩,fun k _ h=>by omega⟩ ?_ ?_
   ·rintro d ⟨c1,r1⟩ nxt3 _ hdd ⟨hI1,hr1,hri,ht1,hc1,hc2,hk1⟩ hn3
    dsimp only at hI hx hr ht hc hs hI1 hr1 hri ht1 hc1 hc2 hk1 ⊢
    have hq:=List.getElem_mem hdd
    have hqn:=hd _ hq
    have hl1:r1.length=es.length:=hI1.rl
    refine zg9 hdd (zef (zp2 hI.xl hqn) (zef (at_g (show i<r1.length by omega)) ?_))
    refine zb3 (fun h=>?_) (fun h=>?_)
    ·have h:=of_decide_eq_true h
     have hset:=fun j (hj:j<es.length)=>Lay.g_set (x:=r1) hl1 (p:=(i:Int)) (q:=(j:Int)) ⟨by omega,by omega⟩ ⟨by omega,by omega⟩ (Lay.g x es[i].deletes[d])
     simp only[Int.toNat_natCast] at hset
     have hsum:=zbfa (x:=r1) hl1 (p:=(i:Int)) ⟨by omega,by omega⟩ (Lay.g x es[i].deletes[d])
     rw[Int.toNat_natCast] at hsum
     have hxq:=hx _ hqn
     have htt:totL x r1<totL x (r1.set i (Lay.g x es[i].deletes[d])):=by unfold totL; rw[hsum]; omega
     refine hn3 _ ⟨hI1.rule hE hi hq,fun j hj hne=>?_,?_,?_,fun _=>.inr ?_,(fun h=>absurd (show true=false from h) (by decide)),fun k hk hlt=>?_⟩
     ·simp only; rw[hset j hj,if_neg (by omega)]; exact hr1 j hj hne
     ·simp only; rw[hset i hi,if_pos rfl]; exact hxq
     ·simp only; omega
     ·simp only; omega
     ·simp only
      rw[hset i hi,if_pos rfl]
      by_cases hkd:k=d
      ·subst hkd; exact Int.le_refl _
      ·have:=hk1 k hk (by omega); omega
    ·have h:=of_decide_eq_false h
     refine hn3 _ ⟨hI1,hr1,hri,ht1,hc1,hc2,fun k hk hlt=>?_⟩
     by_cases hkd:k=d
     ·subst hkd; simp only; omega
     ·exact hk1 k hk (by omega)
   ·rintro⟨c1,r1⟩ ⟨hI1,hr1,hri,ht1,hc1,hc2,hk1⟩
    have hl1:r1.length=es.length:=hI1.rl
    simp only at hri ht1 hc1 hc2 hk1
    refine zdv (zbf (by omega)) ?_
    refine zgl (fun d (s:Bool×List Int)=>InvL es n s.2 r1∧(∀p,Lay.In n p→Lay.g s.2 p≤101∨Lay.g s.2 p≤Lay.g r1 (i:Int)+1)∧totL x r1≤totL s.2 r1∧(s.1=true→c1=true∨totL x r1<totL s.2 r1)∧(s.1=false→c1=false∧s.2=x)∧∀k (hk:k<es[i].creates.length),k<d→Lay.g r1 (i:Int)<Lay.g s.2 es[i].creates[k]) (Nat.zero_le _) ⟨hI1,fun p hp=>.inl (hx p hp),Int.le_refl _,fun h=>.inl h,fun h=>⟨h,rfl⟩,fun k _ h=>by omega⟩ ?_ ?_
    ·rintro d ⟨c2,x2⟩ nxt3 _ hdd ⟨hI2,hx2,ht2,hc3,hc4,hk2⟩ hn3
     dsimp only at hI hx hr ht hc hs hI1 hr1 hri ht1 hc1 hc2 hk1 hI2 hx2 ht2 hc3 hc4 hk2 ⊢
     have hp:=List.getElem_mem hdd
     have hpn:=hcr _ hp
     refine zg9 hdd (zef (zp2 hI2.xl hpn) (zef (at_g (show i<r1.length by omega)) ?_))
     refine zb3 (fun h=>?_) (fun h=>?_)
     ·have h:=of_decide_eq_true h
      have hr0:=(hI1.rr i hi).1
      rw[wrapI (by omega)]
      obtain⟨k1,k2⟩:=hI2.place hE hF hi hp h
      have hset:=fun q (hq:Lay.In n q)=>Lay.g_set (x:=x2) hI2.xl (p:=es[i].creates[d]) (q:=q) hpn hq (Lay.g r1 (i:Int)+1)
      have hsum:=zbfa (x:=x2) hI2.xl hpn (Lay.g r1 (i:Int)+1)
      have htt:totL x2 r1<totL (x2.set es[i].creates[d].toNat (Lay.g r1 (i:Int)+1)) r1:=by unfold totL; rw[hsum]; omega
      refine hn3 _ ⟨k1,fun q hq=>?_,?_,fun _=>.inr ?_,(fun h=>absurd (show true=false from h) (by decide)),fun k hk hlt=>?_⟩
      ·simp only; rw[hset q hq]
       split
       ·right; omega
       ·exact hx2 q hq
      ·simp only; omega
      ·simp only; omega
      ·simp only
       by_cases hkd:k=d
       ·subst hkd; rw[hset _ hpn,if_pos rfl]; omega
       ·have a:=hk2 k hk (by omega)
        have b:=k2 _ (hcr _ (List.getElem_mem hk))
        omega
     ·have h:=of_decide_eq_false h
      refine hn3 _ ⟨hI2,hx2,ht2,hc3,hc4,fun k hk hlt=>?_⟩
      by_cases hkd:k=d
      ·subst hkd; simp only; omega
      ·exact hk2 k hk (by omega)
    ·rintro⟨c2,x2⟩ ⟨hI2,hx2,ht2,hc3,hc4,hk2⟩
     simp only at hx2 ht2 hc3 hc4 hk2
     refine zef (at_g (show i<r1.length by omega)) ?_
     refine zb3 (fun h=>?_) (fun h=>?_)
     ·have h:=of_decide_eq_true h
      refine Ok.mk ?_
      rw[hI1.big hE hF hi h]
     ·have h:=of_decide_eq_false h
      dsimp only at h ht hc hs hx
      have a1:totL x r1≤totL x2 r1:=ht2
      refine hn2 _ ⟨hI2,fun p hp=>by have:=hx2 p hp; simp only; omega,fun j hj=>?_,by simp only; omega,fun hcc=>?_,fun hcc j hj hlt=>?_⟩
      ·simp only
       by_cases hji:j=i
       ·subst hji; omega
       ·exact hr1 j hj hji
      ·simp only at hcc ⊢
       rcases hc3 hcc with h1 | h1
       ·rcases hc1 h1 with h2 | h2
        ·have:=hc h2; omega
        ·omega
       ·omega
      ·simp only at hcc ⊢
       obtain⟨h1,h2⟩:=hc4 hcc
       obtain⟨h3,h4⟩:=hc2 h1
       subst h2; subst h4
       by_cases hji:j=i
       ·subst hji
        refine⟨fun q hq=>?_,fun p hp=>?_⟩
        ·obtain⟨k,hk,rfl⟩:=List.mem_iff_getElem.1 hq
         exact hk1 k hk hk
        ·obtain⟨k,hk,rfl⟩:=List.mem_iff_getElem.1 hp
         exact hk2 k hk hk
       ·exact hs h3 j hj (by omega)
  ·rintro⟨c,x,r⟩ ⟨hI1,hx1,hr1,ht1,hc1,hs1⟩
   refine hn _ ⟨hI1,hx1,hr1,fun h j hj=>hs1 h j hj hj⟩ ?_
   simp only at ht1 hc1 ⊢
   have hb:totL x r≤101 * (n+es.length):=by
    have b1:=z9h x (fun a ha=>by
     obtain⟨p,hp,rfl⟩:=zbio ha
     have e:=hI1.xl
     simp only at e
     exact hx1 p (by rwa [e] at hp))
    have b2:=z9h r (fun a ha=>by
     obtain⟨i,hi,rfl⟩:=List.mem_iff_getElem.1 ha
     have e:=hI1.rl
     have:=hr1 i (by simp only at e; omega)
     simp only[zxp hi] at this
     omega)
    have e1:=hI1.xl
    have e2:=hI1.rl
    simp only at e1 e2
    unfold totL
    rw[e1] at b1; rw[e2] at b2
    omega
   cases c with
   | false=>simp only[Bool.false_eq_true,if_false,if_true]; omega
   | true =>
    have:=hc1 rfl
    simp only[if_true]
    omega
end Go.Proofs.YthjgdkloabgcoaaGreat
namespace Go.Proofs.YthjgdkloabgcoaaGreat
open Go.Abs

theorem z63 {α:Type} [Inhabited α] [DecidableEq α] (a b:List α) (h:a.length=b.length):((List.range a.length).all fun i:Nat=>decide (a.getD i default=b.getD i default))=decide (a=b):=by
 rw[Bool.eq_iff_iff,List.all_eq_true,decide_eq_true_eq]
 constructor
 ·intro k
  refine List.ext_getElem h fun i h1 h2=>?_
  have:=of_decide_eq_true (k i (List.mem_range.2 h1))
  rwa [zcn h1,zcn h2] at this
 ·rintro rfl i _
  exact decide_eq_true rfl
theorem ztz {a b:List Int} (ha:a.length≤1000000):zg3 a b=some (decide (a=b)):=by
 unfold zg3
 rw[zv (p:=((a.length:Nat):Int)=((b.length:Nat):Int))]
 by_cases h:((a.length:Nat):Int)=((b.length:Nat):Int)
 ·have h':a.length=b.length:=by omega
  rw[if_pos h,zbw (zbf (by omega))]
  rw[zk1 (n:=a.length) (fun i=>decide (a.getD i default=b.getD i default)) (fun _=>some false) (fun i hi nxt=>by
   rw[zbz hi,zbz (show i<b.length by omega),zcn hi,zcn (show i<b.length by omega)])]
  rw[zee,z63 a b h']
  cases decide (a=b)<;>rfl
 ·rw[if_neg h,decide_eq_false (fun e=>h (by rw[e]))]
theorem zsx {a b:List Int} (ha:a.length≤1000000):zgy a b=some (decide (a=b)):=ztz ha
theorem zbdp {t : zl} {rules : List zu} (hF : zhs t rules) (hG : zpk t rules) {n : Nat} (hE : EOk (rules.map (effL t)) n) {x : List Int} (hx : x.length = n) (hb : ∀ p, Lay.In n p → 0 ≤ Lay.g x p ∧ Lay.g x p ≤ 1000) :
  zgg t rules x=some (rulesL (rules.map (effL t)) x,Lay.FF (EE (rules.map (effL t))) x):=by
 have h32:=hE.n32
 have h6:=hG.six
 unfold zgg
 rw[zbw (by omega),zbw (zbf (by omega))]
 let step:List Int×List Int→zu→List Int×List Int:=fun s r=>(s.1++[Lay.m (effL t r).deletes x],(effL t r).creates.foldl (fun y p=>y.set p.toNat (max (Lay.g y p) (Lay.m (effL t r).deletes x+1))) s.2)
 have setlen:∀ (v:Int) (l:List Int) (y:List Int),(l.foldl (fun y p=>y.set p.toNat (max (Lay.g y p) v)) y).length=y.length:=by
  intro v l
  induction l with
  | nil=>intro y; rfl
  | cons a l ih=>intro y; rw[List.foldl_cons,ih]; simp
 have e:=zd3 (K:=fun s3542:List Int×List Int=>some (s3542.1,s3542.2)) (s:=(([]:List Int),x)) rules step (fun i s=>s.1.length=i∧s.2.length=n) ⟨rfl,hx⟩
  (f:=fun i3542 (s3542:(List Int)×(List Int)) nxts3542 brks3542=>thn (rules[i3542]?) fun e3570=>thn (zcg t e3570) fun r3571=>thn (zcv t e3570) fun r3572=>chk (r3571.length≤fuel) <| forN (fun i3577 (s3577:Int) nxts3577 brks3577=>thn (r3571[i3577]?) fun e3580=>thn (atZ x e3580) fun e3581=>nxts3577 (max s3577 e3581)) (r3571.length - 0) 0 0 fun s3577=>chk (s3542.1.length+1≤68719476736) <| chk (r3572.length≤fuel) <| forN (fun i3590 (s3590:(List Int)) nxts3590 brks3590=>thn (r3572[i3590]?) fun e3594=>thn (atZ s3590 e3594) fun e3595=>nxts3590 (s3590.set e3594.toNat (max e3595 (IntKind.i64.wrap (s3577+1))))) (r3572.length - 0) 0 s3542.2 fun s3590=>nxts3542 ((s3542.1++[s3577]),s3590))
  (fun i hi s hs=>by
   have hm:=List.getElem_mem hi
   have h0:=hG.each _ hm
   have hr:=hF.each _ hm
   obtain⟨hd,hc,hdl,hcl⟩:=hE.each _ (List.mem_map.2 ⟨_,hm,rfl⟩)
   refine⟨fun nxt=>?_,by simp[step,hs.1],by simp only[step]; rw[setlen,hs.2]⟩
   rw[zbz hi,zk (zmu hF.types hr h0),zk (zt0 hF.types hr h0),zbw (zbf (by omega))]
   generalize rules[i]=r at hm h0 hr hd hc hdl hcl ⊢
   rw[(zd3 (effL t r).deletes (fun (s:Int) q=>max s (Lay.g x q)) (fun _ _=>True) trivial (fun j hj s _=>⟨fun nxt=>by
    rw[zbz hj,zk (zp2 hx (hd _ (List.getElem_mem hj)))],trivial⟩)).1]
   rw[show (effL t r).deletes.foldl (fun (s:Int) q=>max s (Lay.g x q)) 0=Lay.m (effL t r).deletes x from rfl]
   have hmb:0≤Lay.m (effL t r).deletes x∧Lay.m (effL t r).deletes x≤1000:=⟨Lay.m_nn _ _,Lay.m_le (by omega) fun q hq=>(hb q (hd q hq)).2⟩
   rw[zbw (by have:=hs.1; omega),zbw (zbf (by omega)),wrapI (by omega)]
   rw[(zd3 (effL t r).creates (fun (y:List Int) p=>y.set p.toNat (max (Lay.g y p) (Lay.m (effL t r).deletes x+1))) (fun _ y=>y.length=n) hs.2 (fun j hj y hy=>⟨fun nxt=>by
    rw[zbz hj,zk (zp2 hy (hc _ (List.getElem_mem hj)))],by simp[hy]⟩)).1])
 rw[e.1]
 have hfold:∀ (l:List zu) (s:List Int×List Int),l.foldl step s=(s.1++l.map (fun r=>Lay.m (effL t r).deletes x),(l.flatMap fun r=>(effL t r).creates.map fun p=>(p,Lay.m (effL t r).deletes x+1)).foldl (fun y u=>y.set u.1.toNat (max (Lay.g y u.1) u.2)) s.2):=by
  intro l
  induction l with
  | nil=>intro s; simp
  | cons a l ih =>
   intro s
   rw[List.foldl_cons,ih]
   simp only[step,List.map_cons,List.flatMap_cons,List.foldl_append,List.foldl_map,List.append_assoc,List.singleton_append]
 rw[hfold]
 simp only[rulesL,Lay.FF,Lay.upd,Lay.ups,EE,List.map_map,List.flatMap_map,List.nil_append,Function.comp_def]
def nT (t:zl):Nat:=t.nodes.length+t.edges.length
theorem zl3 {t:zl} {rules:List zu} (hG:zpk t rules):EOk (rules.map (effL t)) (nT t):=by
 have h12:=hG.types.n12
 have h20:=hG.types.m20
 refine⟨by simpa using hG.six,by unfold nT; omega,fun e he=>?_⟩
 obtain⟨r,hr,rfl⟩:=List.mem_map.1 he
 refine⟨fun q hq=>(zox.1 hq).1,fun p hp=>(zox.1 hp).1,?_,?_⟩
 ·exact Nat.le_trans (zss _ _ _ _) (by omega)
 ·exact Nat.le_trans (zss _ _ _ _) (by omega)
theorem wrapT {t:zl} (ht:OkT t):IntKind.i64.wrap (((t.nodes.length:Nat):Int)+((t.edges.length:Nat):Int))=((nT t:Nat):Int):=by
 have h12:=ht.n12
 have h20:=ht.m20
 rw[wrapI (by omega)]; unfold nT; omega
def layG (t:zl) (rules:List zu) (y:List Int):zed:=⟨rulesL (rules.map (effL t)) y,y.take t.nodes.length,y.drop t.nodes.length⟩
theorem l_rleast {t:zl} {rules:List zu} (hF:zhs t rules) (hG:zpk t rules):zj1 t rules=some (match leastL (rules.map (effL t)) (nT t) with | some y=>(layG t rules y,true) | none=>(⟨[],[],[]⟩,false)):=by
 have hE:=zl3 hG
 have h32:=hE.n32
 have h6:=hG.six
 unfold zj1
 rw[zbw (zbf (by omega))]
 rw[zco rules (fun r=>!decide ((((effL t r).deletes.length:Nat):Int)=0)) (fun _=>some ((⟨[],[],[]⟩:zed),false)) (fun i hi nxt=>by
  have hm:=List.getElem_mem hi
  rw[zbz hi,zk (zmu hF.types (hF.each _ hm) (hG.each _ hm)),zij])]
 rw[zee]
 have hall:(rules.all fun r=>!decide ((((effL t r).deletes.length:Nat):Int)=0)) = !noneB (rules.map (effL t)):=by
  unfold noneB; rw[List.any_map,List.not_any_eq_all_not]; rfl
 rw[hall]
 cases hN:noneB (rules.map (effL t)) with
 | true =>
  rw[if_neg (by decide)]
  unfold leastL; rw[if_pos hN]
 | false =>
 rw[if_pos (by decide)]
 have hL:leastL (rules.map (effL t)) (nT t)=Lay.jac (EE (rules.map (effL t))) (nT t+2) (List.replicate (nT t) 0):=by
  unfold leastL; rw[if_neg (by rw[hN]; decide)]
 rw[wrapT hG.types,zbw ⟨by omega,by omega⟩,Int.toNat_natCast]
 rw[wrapI (n:=((nT t:Nat):Int)+1) (by omega),hL]
 refine Ok.eq ?_
 refine zlo (fun s:List Int×Int=>s.1.length=nT t∧(0≤s.2∧s.2≤nT t+2)∧(∀p,Lay.In (nT t) p→0≤Lay.g s.1 p∧Lay.g s.1 p≤s.2)∧Lay.jac (EE (rules.map (effL t))) (nT t+2 - s.2.toNat) s.1=Lay.jac (EE (rules.map (effL t))) (nT t+2) (List.replicate (nT t) 0)) (fun s=>(nT t+2 - s.2).toNat) ?_ ?_ ?_
 ·have hz:∀ (k:Nat) (p:Int),Lay.g (List.replicate k 0) p=0:=by
   intro k p; unfold Lay.g; rw[List.getD_eq_getElem?_getD,List.getElem?_replicate]; split<;>rfl
  exact⟨by simp,⟨by simp only; omega,by simp only; omega⟩,fun p _=>by rw[hz]; simp only; omega,rfl⟩
 ·simp only[fuel]; omega
 ·rintro⟨x,k⟩ nxt ⟨hx,hk,hb,hj⟩ hn
  dsimp only at hx hk hb hj ⊢
  refine zb3 (fun h=>?_) (fun h=>?_)
  ·have h:=of_decide_eq_true h
   have hr:=zbdp hF hG hE hx (fun p hp=>by have:=hb p hp; omega)
   refine zef (show zgg ⟨t.nodes,t.edges⟩ rules x=_ from hr) ?_
   refine zef (ztz (by omega)) ?_
   obtain⟨m,hm⟩:∃m,nT t+2 - k.toNat=m+1:=⟨nT t+2 - k.toNat - 1,by omega⟩
   rw[hm,Lay.jac] at hj
   by_cases he:x=Lay.FF (EE (rules.map (effL t))) x
   ·refine ok_t (decide_eq_true he) ?_
    rw[if_pos he] at hj
    have hnl:t.nodes.length≤x.length:=by rw[hx]; unfold nT; omega
    refine zdv (by omega) (zdv (by omega) ?_)
    refine Ok.mk ?_
    rw[←hj]; rfl
   ·refine ok_f (decide_eq_false he) ?_
    rw[if_neg he] at hj
    rw[wrapI (by omega)]
    refine hn _ ⟨by dsimp only; rw[Lay.FF_len,hx],⟨by dsimp only; omega,by dsimp only; omega⟩,fun p hp=>?_,?_⟩ (by dsimp only; omega)
    ·dsimp only
     have h1:=Lay.FF_ge hE.ok hx hp
     have h2:=hb p hp
     refine⟨by omega,?_⟩
     rcases Lay.FF_at hE.ok hx hp with h3 | ⟨e,he,_,h3⟩
     ·omega
     ·rw[h3]
      have:=Lay.m_le (D:=e.1) (x:=x) (b:=k) (by omega) fun q hq=>(hb q ((hE.ok e he).1 q hq)).2
      omega
    ·dsimp only
     rw[show nT t+2 - (k+1).toNat=m by omega]; exact hj
  ·have h:=of_decide_eq_false h
   refine Ok.mk ?_
   rw[show nT t+2 - k.toNat=0 by omega,Lay.jac] at hj
   rw[←hj]
noncomputable def findR (t:zl) (rules:List zu):zed×Int:=if givenE t rules=0 then (match leastL (rules.map (effL t)) (nT t) with | some y=>(layG t rules y,0) | none=>(⟨[],[],[]⟩,10)) else (⟨[],[],[]⟩,givenE t rules)
theorem z49 {es:List zo} {n:Nat} (hE:EOk es n) {y:List Int} (h:leastL es n=some y):y.length=n∧noneB es=false∧y=Lay.FF (EE es) y∧(∀p,Lay.In n p→0≤Lay.g y p∧Lay.g y p<n):=by
 unfold leastL at h
 split at h
 ·cases h
 ·rename_i hN
  have hN:noneB es=false:=by simpa using hN
  have hz:∀ (k:Nat) (p:Int),Lay.g (List.replicate k 0) p=0:=by
   intro k p; unfold Lay.g; rw[List.getD_eq_getElem?_getD,List.getElem?_replicate]; split<;>rfl
  obtain⟨q1,q2,q3,q4⟩:=Lay.jac_least hE.ok (zm4 hN) _ _ _ (by simp) (fun p _=>by rw[hz]; omega) h
  refine⟨q1,hN,q3,fun p hp=>⟨q2 p hp,?_⟩⟩
  obtain⟨f,f1,f2⟩:=Lay.sol_small hE.ok (Lay.fix_sol hE.ok q1 q2 q3)
  have:=q4 f f1 (fun p hp=>by rw[hz]; exact f1.1 p hp) p hp
  have:=f2 p hp
  omega
theorem zz4 {t:zl} {rules:List zu} (hF:zhs t rules):zeq t rules=some (findR t rules):=by
 unfold zeq findR
 rw[zk (zr8 hF)]
 by_cases h:¬ (givenE t rules=0)
 ·rw[if_neg h,if_neg h,zv (p:=givenE t rules=0),if_neg h]
 have h:=Decidable.of_not_not h
 have hG:=zic hF h
 have hE:=zl3 hG
 rw[if_pos h,if_pos h,decide_eq_true rfl,cond_true,wrapT hG.types,zk (zbf9 hE)]
 cases hL:leastL (rules.map (effL t)) (nT t) with
 | none=>rfl
 | some y =>
  have hy:=(z49 hE hL).1
  have:t.nodes.length≤y.length:=by rw[hy]; unfold nT; omega
  dsimp only
  rw[cond_true,zbw ⟨by omega,by omega,by omega,by omega⟩,zbw ⟨by omega,by omega,by omega⟩]
  rfl
end Go.Proofs.YthjgdkloabgcoaaGreat
namespace Go.Proofs.YthjgdkloabgcoaaGreat
open Go.Abs

structure SmallL (L:zed):Prop where
 rules:L.rules.length≤1000000
 nodes:L.nodes.length≤1000000
 edges:L.edges.length≤1000000
theorem zzz {t:zl} {rules:List zu} {i:Nat} (h:i<rules.length):(rules.map (effL t)).getD i ⟨[],[]⟩=effL t rules[i]:=by
 simp[h]
end Go.Proofs.YthjgdkloabgcoaaGreat
namespace Go.Proofs.YthjgdkloabgcoaaGreat
open Go.Abs

structure FitT (t:zl):Prop where
 attrs:∀n∈t.nodes,n.attrs.length≤1125899906842624
theorem zbia {t:zl} (hm:FitT t):Ok (zfu t) (fun b=>b=true→FewT t):=by
 have no:Ok (some false) (fun b=>b=true→FewT t):=Ok.mk (fun h=>absurd h (by decide))
 unfold zfu
 refine zb3 (fun _=>no) (fun h1=>zb3 (fun _=>no) (fun h2=>?_))
 have h1:=of_decide_eq_false h1
 have h2:=of_decide_eq_false h2
 refine zdv (zbf (by omega)) ?_
 refine zgl (fun i (s:Int)=>(0≤s∧s≤30)∧∀j,j<i→(t.nodes.getD j default).attrs.length≤30∧(t.nodes.getD j default).name.size≤40∧∀a∈(t.nodes.getD j default).attrs,a.name.size≤40∧a.names.length≤25∧∀s∈a.names,s.size≤40) (Nat.zero_le _) ⟨⟨by omega,by omega⟩,fun j hj=>absurd hj (Nat.not_lt_zero j)⟩ ?_ ?_
 ·rintro i s nxt _ hi ⟨hs,hq⟩ hn
  have hA:=hm.attrs _ (List.getElem_mem hi)
  refine zg9 hi ?_
  rw[wrapI (by omega)]
  refine zb3 (fun _=>no) (fun h3=>zb3 (fun _=>no) (fun h4=>?_))
  have h3:=of_decide_eq_false h3
  have h4:=of_decide_eq_false h4
  refine zdv (zbf (by omega)) ?_
  refine zgl (fun k (_:Unit)=>∀j,j<k→((t.nodes[i].attrs.getD j default).name.size≤40∧(t.nodes[i].attrs.getD j default).names.length≤25∧∀s∈(t.nodes[i].attrs.getD j default).names,s.size≤40)) (Nat.zero_le _) (fun j hj=>absurd hj (Nat.not_lt_zero j)) ?_ ?_
  ·rintro k _ nxt2 _ hk hq2 hn2
   refine zg9 hk (zb3 (fun _=>no) (fun h5=>zb3 (fun _=>no) (fun h6=>?_)))
   have h5:=of_decide_eq_false h5
   have h6:=of_decide_eq_false h6
   refine zdv (zbf (by omega)) ?_
   refine zgl (fun m (_:Unit)=>∀j,j<m→(t.nodes[i].attrs[k].names.getD j default).size≤40) (Nat.zero_le _) (fun j hj=>absurd hj (Nat.not_lt_zero j)) ?_ ?_
   ·rintro m _ nxt3 _ hm3 hq3 hn3
    refine zg9 hm3 (zb3 (fun _=>no) (fun h7=>hn3 _ fun j hj=>?_))
    have h7:=of_decide_eq_false h7
    rcases Nat.lt_succ_iff_lt_or_eq.1 hj with h | h
    ·exact hq3 j h
    ·subst h; rw[zcn hm3]; omega
   ·rintro _ hq3
    refine hn2 _ fun j hj=>?_
    rcases Nat.lt_succ_iff_lt_or_eq.1 hj with h | h
    ·exact hq2 j h
    ·subst h
     rw[zcn hk]
     refine⟨by omega,by omega,fun s hs=>?_⟩
     obtain⟨j,hj,rfl⟩:=memD hs
     exact hq3 j hj
  ·rintro _ hq2
   refine hn _ ⟨⟨by omega,by omega⟩,fun j hj=>?_⟩
   rcases Nat.lt_succ_iff_lt_or_eq.1 hj with h | h
   ·exact hq j h
   ·subst h
    rw[zcn hi]
    refine⟨by omega,by omega,fun a ha=>?_⟩
    obtain⟨j,hj,rfl⟩:=memD ha
    exact hq2 j hj
 ·rintro s ⟨_,hq⟩
  refine zdv (zbf (by omega)) ?_
  refine zgl (fun k (_:Unit)=>∀j,j<k→(t.edges.getD j default).name.size≤40) (Nat.zero_le _) (fun j hj=>absurd hj (Nat.not_lt_zero j)) ?_ ?_
  ·rintro k _ nxt2 _ hk hq2 hn2
   refine zg9 hk (zb3 (fun _=>no) (fun h5=>hn2 _ fun j hj=>?_))
   have h5:=of_decide_eq_false h5
   rcases Nat.lt_succ_iff_lt_or_eq.1 hj with h | h
   ·exact hq2 j h
   ·subst h; rw[zcn hk]; omega
  ·rintro _ hq2
   have hall:∀n∈t.nodes,n.attrs.length≤30∧n.name.size≤40∧∀a∈n.attrs,a.name.size≤40∧a.names.length≤25∧∀s∈a.names,s.size≤40:=fun n hn=>by
    obtain⟨j,hj,rfl⟩:=memD hn
    exact hq j hj
   exact Ok.mk fun _=>⟨by omega,by omega,fun n hn=>(hall n hn).1,fun n hn=>(hall n hn).2.1,fun n hn a ha=>((hall n hn).2.2 a ha).1,fun n hn a ha=>((hall n hn).2.2 a ha).2.1,fun n hn a ha=>((hall n hn).2.2 a ha).2.2,fun e he=>by
    obtain⟨j,hj,rfl⟩:=memD he
    exact hq2 j hj⟩
theorem zbh2 (g:z8):Ok (zf1 g) (fun b=>b=true→FewG g):=by
 unfold zf1
 refine zb3 (fun h1=>Ok.mk fun h2=>?_) (fun _=>Ok.mk fun h=>absurd h (by decide))
 have h1:=of_decide_eq_true h1
 have h2:=of_decide_eq_true h2
 exact⟨by omega,by omega⟩
theorem zzg (p:z7):Ok (zd6 p) (fun b=>b=true→FewP p):=by
 unfold zd6
 refine zlb (zbh2 p.graph) fun b hb=>?_
 refine zb3 (fun h0=>zb3 (fun h1=>Ok.mk fun h2=>?_) (fun _=>Ok.mk fun h=>absurd h (by decide))) (fun _=>Ok.mk fun h=>absurd h (by decide))
 have h1:=of_decide_eq_true h1
 have h2:=of_decide_eq_true h2
 exact⟨hb h0,by omega,by omega⟩
def FitM (a b:List Int):Prop:=a.length≤1125899906842624∧b.length≤1125899906842624
theorem z7v (p:zdb) (h:FitM p.nodes p.edges):zf0 p 140=some (decide (p.nodes.length+p.edges.length≤140)):=by
 have:=h.1; have:=h.2
 unfold zf0
 rw[wrapI (by omega)]
 congr 1
 rw[Bool.eq_iff_iff,decide_eq_true_eq,decide_eq_true_eq]; omega
theorem zzj (p:zby) (h:FitM p.nodes p.edges):zes p 140=some (decide (p.nodes.length+p.edges.length≤140)):=by
 have:=h.1; have:=h.2
 unfold zes
 rw[wrapI (by omega)]
 congr 1
 rw[Bool.eq_iff_iff,decide_eq_true_eq,decide_eq_true_eq]; omega
inductive CFit:zp→Prop
 | mk (c:zp):FitM c.map.nodes c.map.edges→(∀k∈c.kids,CFit k)→CFit c
theorem CFit.map {c:zp} (h:CFit c):FitM c.map.nodes c.map.edges:=by cases h; assumption
theorem CFit.kids {c:zp} (h:CFit c):∀k∈c.kids,CFit k:=by cases h; assumption
theorem zbaq (l:List zp):cFewL l↔∀k∈l,cFew k:=by
 induction l with
 | nil=>rw[cFewL]; simp
 | cons a l ih=>rw[cFewL,ih]; simp
theorem zxg (l m:List zp):cSizeL (l++m)=cSizeL l+cSizeL m:=by
 induction l with
 | nil=>rw[List.nil_append,cSizeL]; omega
 | cons a l ih=>rw[List.cons_append,cSizeL,cSizeL,ih]; omega
theorem zbik:∀ (n:Nat) (c:zp) (most:Int),CFit c→0≤most→most≤1000→most<n→Ok (zei n c most) (fun v=>(-1≤v∧v≤most - 1)∧(0≤v→cFew c∧(cSize c:Int)≤most - v)):=by
 intro n
 induction n with
 | zero=>intro c most _ h0 _ h; omega
 | succ n ih =>
  intro c most hc h0 h1 h2
  have no:Ok (some (-1:Int)) (fun v=>(-1≤v∧v≤most - 1)∧(0≤v→cFew c∧(cSize c:Int)≤most - v)):=Ok.mk ⟨⟨by omega,by omega⟩,fun h=>by omega⟩
  rw[zei]
  refine zlb (zzg c.pattern) fun b hb=>zb3 (fun h3=>?_) (fun _=>no)
  refine zef (zzj c.map hc.map) (zb3 (fun h4=>?_) (fun _=>no))
  have h4:=of_decide_eq_true h4
  rw[wrapI (by omega)]
  have fin:∀s:Int×Int,(-1≤s.1∧s.1≤most - 1)→(0≤s.1→(∀k∈c.kids,cFew k)∧(cSizeL c.kids:Int)≤most - 1 - s.1)→Ok (some s.1) (fun v=>(-1≤v∧v≤most - 1)∧(0≤v→cFew c∧(cSize c:Int)≤most - v)):=fun s hs hk=>Ok.mk ⟨hs,fun h=>by
   obtain⟨k1,k2⟩:=hk h
   refine⟨?_,by rw[zp0]; omega⟩
   have:=hb h3
   cases c
   rw[cFew]
   exact⟨this,h4,(zbaq _).2 k1⟩⟩
  refine zlo (fun s:Int×Int=>(-1≤s.1∧s.1≤most - 1 - s.2)∧(0≤s.2∧s.2≤c.kids.length)∧(0≤s.1→(∀k∈c.kids.take s.2.toNat,cFew k)∧(cSizeL (c.kids.take s.2.toNat):Int)≤most - 1 - s.1)) (fun s=>(most+5 - s.2).toNat) ⟨⟨by dsimp only; omega,by dsimp only; omega⟩,⟨by dsimp only; omega,by dsimp only; omega⟩,fun h=>⟨fun k hk=>by simp at hk,by
   have:cSizeL (c.kids.take (0:Int).toNat)=0:=by rw[Int.toNat_zero,List.take_zero,cSizeL]
   dsimp only at h ⊢; rw[this]; omega⟩⟩ (by dsimp only; unfold fuel; omega) ?_
  rintro⟨v,i⟩ nxt ⟨hv,hi,hk⟩ hn
  dsimp only at hv hi hk ⊢
  refine zb3 (fun h5=>zb3 (fun h6=>?_) (fun h6=>?_)) (fun h5=>?_)
  ·have h5:=of_decide_eq_true h5
   have h6:=of_decide_eq_true h6
   have hlt:i.toNat<c.kids.length:=by omega
   obtain⟨k1,k2⟩:=hk h6
   refine zjk hi.1 hlt ?_
   refine zlb (ih _ v (hc.kids _ (List.getElem_mem hlt)) h6 (by omega) (by omega)) ?_
   rintro v2 ⟨hv2,hk2⟩
   rw[wrapI (by omega)]
   refine hn _ ⟨⟨by dsimp only; omega,by dsimp only; omega⟩,⟨by dsimp only; omega,by dsimp only; omega⟩,fun h7=>?_⟩ (by dsimp only; omega)
   dsimp only at h7 ⊢
   obtain⟨k3,k4⟩:=hk2 h7
   have e:c.kids.take (i+1).toNat=c.kids.take i.toNat++[c.kids[i.toNat]]:=by
    rw[show (i+1).toNat=i.toNat+1 by omega,List.take_add_one,List.getElem?_eq_getElem hlt]; rfl
   rw[e,zxg,cSizeL,cSizeL]
   refine⟨fun k hk=>?_,by omega⟩
   rcases List.mem_append.1 hk with hk | hk
   ·exact k1 k hk
   ·rw[List.mem_singleton.1 hk]; exact k3
  ·have h6:=of_decide_eq_false h6
   exact fin (v,i) ⟨hv.1,by dsimp only; omega⟩ fun h=>by dsimp only at h; omega
  ·have h5:=of_decide_eq_false h5
   refine fin (v,i) ⟨hv.1,by dsimp only; omega⟩ fun h=>?_
   have:=hk h
   rwa [List.take_of_length_le (by omega)] at this
structure FitR (r:zu):Prop where
 keep:FitM r.keep.nodes r.keep.edges
 into:FitM r.into.nodes r.into.edges
 cond:CFit r.condition
theorem z7y {r:zu} (h:FitR r):Ok (zf2 r) (fun b=>b=true→FewR r):=by
 have no:Ok (some false) (fun b=>b=true→FewR r):=Ok.mk (fun h=>absurd h (by decide))
 unfold zf2
 refine zb3 (fun h1=>?_) (fun _=>no)
 have h1:=of_decide_eq_true h1
 refine zlb (zzg r.left) fun b2 hb2=>zb3 (fun h2=>?_) (fun _=>no)
 refine zlb (zzg r.right) fun b3 hb3=>zb3 (fun h3=>?_) (fun _=>no)
 refine zef (z7v r.keep h.keep) (zb3 (fun h4=>?_) (fun _=>no))
 refine zef (zzj r.into h.into) (zb3 (fun h5=>?_) (fun _=>no))
 have h4:=of_decide_eq_true h4
 have h5:=of_decide_eq_true h5
 unfold zg2
 refine zlb (Q:=fun b=>b=true→FewR r) (R:=fun b=>b=true→cFew r.condition∧cSize r.condition≤1000) ?_ fun b6 hb6=>Ok.mk fun h6=>?_
 ·refine zlb (zbik fuel r.condition 40 h.cond (by omega) (by omega) (by unfold fuel; omega)) ?_
  rintro v ⟨_,hv⟩
  refine Ok.mk fun h6=>?_
  have h6:=of_decide_eq_true h6
  obtain⟨k1,k2⟩:=hv h6
  exact⟨k1,by omega⟩
 ·obtain⟨k1,k2⟩:=hb6 h6
  exact⟨⟨by omega,hb2 h2,hb3 h3,h4,h5⟩,k1,k2⟩
theorem zbiq {t:zl} {rules:List zu} (h1:FitT t) (h2:∀r∈rules,FitR r):Ok (zfz t rules) (fun b=>b=true→zhs t rules):=by
 have no:Ok (some false) (fun b=>b=true→zhs t rules):=Ok.mk (fun h=>absurd h (by decide))
 unfold zfz
 refine zlb (zbia h1) fun b hb=>zb3 (fun h3=>?_) (fun _=>no)
 refine zb3 (fun _=>no) (fun h4=>?_)
 have h4:=of_decide_eq_false h4
 refine zdv (zbf (by omega)) ?_
 refine zgl (fun i (_:Unit)=>∀j (hj:j<rules.length),j<i→FewR rules[j]) (Nat.zero_le _) (fun j _ hj=>absurd hj (Nat.not_lt_zero j)) ?_ ?_
 ·rintro i _ nxt _ hi hq hn
  refine zg9 hi (zlb (z7y (h2 _ (List.getElem_mem hi))) fun b2 hb2=>zb3 (fun h5=>hn _ fun j hj hlt=>?_) (fun _=>no))
  rcases Nat.lt_succ_iff_lt_or_eq.1 hlt with h | h
  ·exact hq j hj h
  ·subst h; exact hb2 h5
 ·rintro _ hq
  exact Ok.mk fun _=>⟨hb h3,by omega,fun r hr=>by
   obtain⟨j,hj,rfl⟩:=List.mem_iff_getElem.1 hr
   exact hq j hj hj⟩
end Go.Proofs.YthjgdkloabgcoaaGreat
namespace Go.Proofs.YthjgdkloabgcoaaGreat
open Go.Abs

theorem ztb {t:zl} {r:zu} (ht:FewT t) (hv:(validT t).2=0) (hr:FewR r) (h1:nameB r.name=true) (h2:patE t r.left=0) (h3:rightE t r=0) (h4:zcc r=some 0) (h5:r.into.nodes.Nodup) (h6:r.into.edges.Nodup) (h7:makeB t r.right.graph (madeN r) (madeE r)=true) (h8:zcl t r.left r.condition=some 0):ruleE t r=0:=by
 have hb:=hr.base
 have hT:=okTypes ht hv
 have hi:=hb.into
 obtain⟨g1,g2⟩:=z2b h2
 obtain⟨g3,g4⟩:=zwf h3
 have hrn:=hb.right.graph.nodes
 have hre:=hb.right.graph.edges
 have l1:=zil r.right.graph.nodes.length r.into.nodes
 have l2:=zil r.right.graph.edges.length r.into.edges
 obtain⟨m1,m2⟩:=zw5 ht g3 g4 (nodes:=madeN r) (edges:=madeE r) zjp zjp (by unfold madeN; omega) (by unfold madeE; omega)
 rw[h7] at m2
 have key:zb5 t r=some 0:=by
  unfold zb5
  rw[zk (zh7 ht),zv (p:=(validT t).2=0),if_pos hv,zk (zww (by have:=hb.name; omega)),h1,cond_true,zk (zgu ht hb.left),zv (p:=patE t r.left=0),if_pos h2,zk (zqr (r:=r) hT hb),zv (p:=rightE t r=0),if_pos h3]
  rw[zk (show zcc ⟨r.name,r.left,r.right,r.keep,r.into,r.injective,r.condition⟩=_ from h4),decide_eq_true rfl,cond_true,zk (zjz (by omega)),decide_eq_true h5,cond_true,zk (zjz (by omega)),decide_eq_true h6,cond_true]
  rw[zk (show zcu ⟨r.name,r.left,r.right,r.keep,r.into,r.injective,r.condition⟩=_ from (zl6 hb).2),zk m2,cond_true,zk h8]
 unfold ruleE; rw[key]; rfl
theorem zu9 {r:zu} (hr:zps r) (h0:validG r.left.graph=0) (h1:zc8 r.left.graph r.keep=some 0) (h2:zbr (extP r.left.graph r.keep) r.right.graph r.into=some 0):zcc r=some 0:=by
 have hk:=hr.keep
 have hv:zcf r.left.graph r.keep=some 0:=by
  unfold zcf
  rw[zk (zds hr.left.graph),zv (p:=validG r.left.graph=0),if_pos h0,zk (show zc8 ⟨r.left.graph.nodes,r.left.graph.edges⟩ ⟨r.keep.nodes,r.keep.edges⟩=_ from h1)]
 obtain⟨e,_,k2,k3⟩:=zt1 hr.left.graph (p:=r.keep) ⟨by omega,by omega⟩
 have he:e=0:=by rw[hv] at k2; exact (Option.some.inj k2).symm
 obtain⟨hp,_⟩:=k3 he
 unfold zcc
 rw[zk hv,decide_eq_true rfl,cond_true,zk (z2c hp ⟨by omega,by omega⟩ hv),zk h2]
def exT:zl:=(zen).get rfl
theorem zbie:zen=some exT:=rfl
theorem exFew:FewT exT:=⟨by decide +kernel,by decide +kernel,by decide +kernel,by decide +kernel,by decide +kernel,by decide +kernel,by decide +kernel,by decide +kernel⟩
theorem exValid:(validT exT).2=0:=by decide +kernel
def noP:z7:=⟨⟨[],[]⟩,[],0,[]⟩
def noC:zp:=⟨1,[],⟨[],[]⟩,noP⟩
theorem zm5:cFew noC∧cSize noC≤1000:=by
 unfold noC
 rw[cFew,cFewL,cSize,cSizeL]
 exact⟨⟨⟨⟨by decide,by decide⟩,by decide,by decide⟩,by decide,trivial⟩,by decide⟩
theorem zrv {p:z7} (hp:FewP p) (h:patE exT p=0):zcl exT p noC=some 0:=by
 unfold zcl
 rw[zk (zgu exFew hp),zv (p:=patE exT p=0),if_pos h]
 rw[zk (show zda noC=some 0 by decide +kernel),decide_eq_true rfl,cond_true]
 rw[show fuel=4611686018427387903+1 from rfl,zb1]
 rfl
def pay0:zu:=(zci 0).get rfl
theorem zbfx:zci 0=some pay0:=rfl
theorem zp1:FewR pay0:=⟨⟨by decide +kernel,⟨⟨by decide +kernel,by decide +kernel⟩,by decide +kernel,by decide +kernel⟩,⟨⟨by decide +kernel,by decide +kernel⟩,by decide +kernel,by decide +kernel⟩,by decide +kernel,by decide +kernel⟩,zm5.1,zm5.2⟩
theorem zxt:patE exT pay0.left=0:=by decide +kernel
theorem zbei:zbr (extP pay0.left.graph pay0.keep) pay0.right.graph pay0.into=some 0:=by
 unfold zbr
 rw[zk (zds ⟨by decide +kernel,by decide +kernel⟩),zv (p:=validG (extP pay0.left.graph pay0.keep)=0),if_pos (show validG (extP pay0.left.graph pay0.keep)=0 by decide +kernel),zk (zds ⟨by decide +kernel,by decide +kernel⟩),zv (p:=validG pay0.right.graph=0),if_pos (show validG pay0.right.graph=0 by decide +kernel)]
 decide +kernel
theorem z7t:ruleE exT pay0=0 :=
 ztb exFew exValid zp1 (by decide +kernel) zxt (by decide +kernel) (zu9 zp1.base (by decide +kernel) (by decide +kernel) zbei) (by decide +kernel) (by decide +kernel) (by decide +kernel) (zrv zp1.base.left zxt)
theorem z5m:givenE exT [pay0]=0:=by
 unfold givenE
 rw[if_pos exValid,if_neg (by decide)]
 refine zlv.2 fun r hr=>?_
 rw[List.mem_singleton.1 hr]
 unfold ruleG
 rw[if_pos z7t,if_neg (show ¬ ((goneN pay0).any (fun n=>kidB exT (pay0.left.graph.nodes.getD n.toNat default))=true) by decide +kernel)]
theorem z7i:zhs exT [pay0]:=⟨exFew,by decide,fun r hr=>by rw[List.mem_singleton.1 hr]; exact zp1⟩
theorem zbcz:effL exT pay0=⟨[5],[]⟩:=by
 have h1:(effL exT pay0).deletes=[5]:=by decide +kernel
 have h2:(effL exT pay0).creates=[]:=by decide +kernel
 show (⟨(effL exT pay0).deletes,(effL exT pay0).creates⟩:zo)=_
 rw[h1,h2]
def pay1:zu:=(zci 1).get rfl
theorem zbg7:zci 1=some pay1:=rfl
theorem zpy:FewR pay1:=⟨⟨by decide +kernel,⟨⟨by decide +kernel,by decide +kernel⟩,by decide +kernel,by decide +kernel⟩,⟨⟨by decide +kernel,by decide +kernel⟩,by decide +kernel,by decide +kernel⟩,by decide +kernel,by decide +kernel⟩,zm5.1,zm5.2⟩
theorem zzq:patE exT pay1.left=0:=by decide +kernel
theorem zbd8:zbr (extP pay1.left.graph pay1.keep) pay1.right.graph pay1.into=some 0:=by
 unfold zbr
 rw[zk (zds ⟨by decide +kernel,by decide +kernel⟩),zv (p:=validG (extP pay1.left.graph pay1.keep)=0),if_pos (show validG (extP pay1.left.graph pay1.keep)=0 by decide +kernel),zk (zds ⟨by decide +kernel,by decide +kernel⟩),zv (p:=validG pay1.right.graph=0),if_pos (show validG pay1.right.graph=0 by decide +kernel)]
 decide +kernel
theorem z6z:ruleE exT pay1=0 :=
 ztb exFew exValid zpy (by decide +kernel) zzq (by decide +kernel) (zu9 zpy.base (by decide +kernel) (by decide +kernel) zbd8) (by decide +kernel) (by decide +kernel) (by decide +kernel) (zrv zpy.base.left zzq)
theorem z54:givenE exT [pay1]=0:=by
 unfold givenE
 rw[if_pos exValid,if_neg (by decide)]
 refine zlv.2 fun r hr=>?_
 rw[List.mem_singleton.1 hr]
 unfold ruleG
 rw[if_pos z6z,if_neg (show ¬ ((goneN pay1).any (fun n=>kidB exT (pay1.left.graph.nodes.getD n.toNat default))=true) by decide +kernel)]
theorem z6r:zhs exT [pay1]:=⟨exFew,by decide,fun r hr=>by rw[List.mem_singleton.1 hr]; exact zpy⟩
theorem zbd7:effL exT pay1=⟨[1,5],[2]⟩:=by
 have h1:(effL exT pay1).deletes=[1,5]:=by decide +kernel
 have h2:(effL exT pay1).creates=[2]:=by decide +kernel
 show (⟨(effL exT pay1).deletes,(effL exT pay1).creates⟩:zo)=_
 rw[h1,h2]
def pay2:zu:=(zci 2).get rfl
theorem zbgh:zci 2=some pay2:=rfl
theorem zpo:FewR pay2:=⟨⟨by decide +kernel,⟨⟨by decide +kernel,by decide +kernel⟩,by decide +kernel,by decide +kernel⟩,⟨⟨by decide +kernel,by decide +kernel⟩,by decide +kernel,by decide +kernel⟩,by decide +kernel,by decide +kernel⟩,zm5.1,zm5.2⟩
theorem zxz:patE exT pay2.left=0:=by decide +kernel
theorem zbew:zbr (extP pay2.left.graph pay2.keep) pay2.right.graph pay2.into=some 0:=by
 unfold zbr
 rw[zk (zds ⟨by decide +kernel,by decide +kernel⟩),zv (p:=validG (extP pay2.left.graph pay2.keep)=0),if_pos (show validG (extP pay2.left.graph pay2.keep)=0 by decide +kernel),zk (zds ⟨by decide +kernel,by decide +kernel⟩),zv (p:=validG pay2.right.graph=0),if_pos (show validG pay2.right.graph=0 by decide +kernel)]
 decide +kernel
theorem z69:ruleE exT pay2=0 :=
 ztb exFew exValid zpo (by decide +kernel) zxz (by decide +kernel) (zu9 zpo.base (by decide +kernel) (by decide +kernel) zbew) (by decide +kernel) (by decide +kernel) (by decide +kernel) (zrv zpo.base.left zxz)
theorem z4y:givenE exT [pay2]=0:=by
 unfold givenE
 rw[if_pos exValid,if_neg (by decide)]
 refine zlv.2 fun r hr=>?_
 rw[List.mem_singleton.1 hr]
 unfold ruleG
 rw[if_pos z69,if_neg (show ¬ ((goneN pay2).any (fun n=>kidB exT (pay2.left.graph.nodes.getD n.toNat default))=true) by decide +kernel)]
theorem z71:zhs exT [pay2]:=⟨exFew,by decide,fun r hr=>by rw[List.mem_singleton.1 hr]; exact zpo⟩
theorem zbbt:effL exT pay2=⟨[5],[5]⟩:=by
 have h1:(effL exT pay2).deletes=[5]:=by decide +kernel
 have h2:(effL exT pay2).creates=[5]:=by decide +kernel
 show (⟨(effL exT pay2).deletes,(effL exT pay2).creates⟩:zo)=_
 rw[h1,h2]
theorem zbau:zeq exT [pay0]=some (⟨[0],[0,0,0,0],[0,0]⟩,0):=by
 rw[zz4 z7i]
 unfold findR layG
 rw[if_pos z5m,List.map_singleton,zbcz,show leastL [(⟨[5],[]⟩:zo)] (nT exT)=some [0,0,0,0,0,0] by decide +kernel]
 rfl
theorem z60:zeq exT [pay1]=some (⟨[0],[0,0,1,0],[0,0]⟩,0):=by
 rw[zz4 z6r]
 unfold findR layG
 rw[if_pos z54,List.map_singleton,zbd7,show leastL [(⟨[1,5],[2]⟩:zo)] (nT exT)=some [0,0,1,0,0,0] by decide +kernel]
 rfl
def exD:zi:=⟨0,5,5,1⟩
theorem exDist:zdd [exD] 5 6=some [-1,-1,-1,-1,-1,0]:=by
 unfold zdd
 rw[zk (zha ⟨by decide,by decide,by decide,by decide,by decide⟩)]
 decide +kernel
theorem forN1 {σ O:Type} (f:Nat→σ→(σ→Option O)→(σ→Option O)→Option O) (i:Nat) (s:σ) (K:σ→Option O):forN f 1 i s K=f i s (fun s'=>K s') K:=rfl
theorem exCircle:zfb [exD] 6=some [exD]:=by
 refine Ok.eq ?_
 unfold zfb
 refine zdv (zbf (by decide)) ?_
 show Ok (forN _ 1 0 [] _) _
 rw[forN1]
 refine zef (r:=exD) rfl ?_
 refine zef exDist ?_
 refine zef (r:=0) rfl ?_
 refine ok_f (by decide) (ok_f (by decide) ?_)
 refine zlo (fun s=>s=(5,[exD])) (fun _=>0) rfl (by unfold fuel; omega) ?_
 rintro s nxt rfl _
 exact ok_t (decide_eq_true rfl) (Ok.mk rfl)
theorem exReason:zel exT [pay2]=some ([exD],0):=by
 unfold zel
 rw[zk (zr8 z71),if_pos z4y,decide_eq_true rfl,cond_true]
 dsimp only
 rw[List.map_singleton,zbbt]
 rw[zk (zfd (p:=fun x=>zff x) (fun e=>decide (((e.deletes.length:Nat):Int)=0)) (by decide) (fun _ _=>rfl))]
 rw[show idxQ (fun e:zo=>decide (((e.deletes.length:Nat):Int)=0)) [⟨[5],[5]⟩] = -1 by rfl]
 rw[decide_eq_false (by decide),cond_false]
 rw[zk (show zdt [⟨[5],[5]⟩]=some [exD] by rfl)]
 rw[show IntKind.i64.wrap (((exT.nodes.length:Nat):Int)+((exT.edges.length:Nat):Int))=6 by decide +kernel,zk exCircle]
 rfl
theorem zts:zdo=some true:=by
 unfold zdo
 rw[zk zbie,zk zbfx,zk zbau,zk zbg7,zk z60,zk zbgh,zk exReason]
 rw[decide_eq_true rfl,cond_true,zk (zsx (by decide)),decide_eq_true rfl,cond_true,zk (zsx (by decide)),decide_eq_true rfl,cond_true]
 rfl
end Go.Proofs.YthjgdkloabgcoaaGreat
namespace Go.Proofs.YthjgdkloabgcoaaGreat
open Go.Abs

theorem zyv {l:List zu} (h:l.length≤1000000):zi9 l=some l:=zha h
structure FitL (L:zed):Prop where
 rules:L.rules.length≤1125899906842624
 nodes:L.nodes.length≤1125899906842624
 edges:L.edges.length≤1125899906842624
end Go.Proofs.YthjgdkloabgcoaaGreat
namespace Go.Abs
open Go.RowKit

variable {P:Program} {w:World} {H:Type} {enc:TypeId×Value→H}

def zh6 (w:World) (cs:List Value) (ps:List PV):Prop:=cs.length=ps.length∧(∀ (j:Nat) u c,cs[j]? = some u→ps[j]? = some c→VR (snap w) u c)∧∀u∈cs,u.oneCell'=true
def z4k (P:Program) (t:TypeId) (d:DataW H):Prop:=∀n∈d.weights P t,n≤reachBytes

structure Dec (P:Program) (w:World) {H:Type} (enc:TypeId×Value→H) {α:Type} (t:TypeId) (sz:Nat) (e:α→List PV) (G:α→Prop):Prop where
 len:∀a,(e a).length=sz
 dec:∀ (sp:Nat→Bool) (hd:Bool) (fuel:Nat) (cs:List Value) (x:DataW H×List MemPlace),DataW.trod enc P w 0 sp hd fuel t cs=some x→z4k P t x.1→∃a,G a∧zh6 w cs (e a)

theorem zh6.one {u:Value} {p:PV} (h:VR (snap w) u p) (h1:u.oneCell'=true):zh6 w [u] [p] :=
 ⟨rfl,fun j u' c hu hc=>by
  cases j with
  | zero=>simp at hu hc; subst hu hc; exact h
  | succ j=>simp at hu,fun u' hu=>by simp at hu; subst hu; exact h1⟩

theorem Dec.int {t:TypeId} (ht:P.underlying t=some (.int .i64)):Dec P w enc t 1 (fun n:Int=>[.val (.int .i64 n)]) (fun _=>True) :=
 ⟨fun _=>rfl,fun sp hd fuel cs x h _=>by
  obtain⟨n,rfl,_⟩:=DataW.trod_int ht h
  exact⟨n,trivial,.one (.val _ rfl) rfl⟩⟩
theorem Dec.str {t:TypeId} (ht:P.underlying t=some .string):Dec P w enc t 1 (fun s:ByteArray=>[.val (.string s)]) (fun _=>True) :=
 ⟨fun _=>rfl,fun sp hd fuel cs x h _=>by
  obtain⟨n,rfl,_⟩:=DataW.trod_string ht h
  exact⟨n,trivial,.one (.val _ rfl) rfl⟩⟩
theorem Dec.bool {t:TypeId} (ht:P.underlying t=some .bool):Dec P w enc t 1 (fun b:Bool=>[.val (.bool b)]) (fun _=>True) :=
 ⟨fun _=>rfl,fun sp hd fuel cs x h _=>by
  obtain⟨n,rfl,_⟩:=DataW.trod_bool ht h
  exact⟨n,trivial,.one (.val _ rfl) rfl⟩⟩

theorem Dec.map {α β:Type} {t:TypeId} {sz:Nat} {e:α→List PV} {G:α→Prop} {e':β→List PV} {G':β→Prop} (g:α→β) (f:β→α) (hgf:∀b,e (f b)=e' b) (hg:∀a,e' (g a)=e a) (hG:∀a,G a→G' (g a)) (h:Dec P w enc t sz e G):Dec P w enc t sz e' G' :=
 ⟨fun b=>by rw[←hgf]; exact h.len _,fun sp hd fuel cs x hx hw=>by
  obtain⟨a,h1,h2⟩:=h.dec sp hd fuel cs x hx hw
  exact⟨g a,hG a h1,by rw[hg]; exact h2⟩⟩

theorem zli {e:TypeId} : ∀ {ds:List (DataW H)} {d:DataW H},d∈ds→∀n∈d.weights P e,n∈DataW.weightsAll P e ds
 | d0 :: r,d,hd,n,hn=>by
  rw[DataW.weightsAll,List.mem_append]
  rcases List.mem_cons.1 hd with rfl | h
  ·exact .inl hn
  ·exact .inr (zli h n hn)

theorem zbav {α β:Type} {f:α→Option β} : ∀ {l:List α} {r:List β},l.mapM f=some r→r.length=l.length∧∀ (i:Nat) a,l[i]? = some a→r[i]? = f a:=by
 intro l
 induction l with
 | nil=>intro r h; simp at h; subst h; exact⟨rfl,by simp⟩
 | cons a l ih =>
  intro r h
  rw[List.mapM_cons] at h
  cases ha:f a with
  | none=>rw[ha] at h; cases h
  | some b =>
   rw[ha] at h
   cases hl:l.mapM f with
   | none=>rw[hl] at h; cases h
   | some r' =>
    rw[hl] at h
    have:r=b :: r':=by simpa using h.symm
    subst this
    obtain⟨h1,h2⟩:=ih hl
    refine⟨by simp[h1],fun i x hx=>?_⟩
    cases i with
    | zero=>simp at hx; subst hx; simp[ha]
    | succ i=>simpa using h2 i x (by simpa using hx)

theorem zpu {a:Addr} {n:Nat} {cs:List Value} (h:w.cells? 0 a n=some cs):cs.length=n∧(∀ (i:Nat) u,cs[i]? = some u→w.cell? (a.add i)=some u):=by
 unfold World.cells? at h
 rw[if_pos (Nat.zero_le _)] at h
 obtain⟨h1,h2⟩:=zbav h
 refine⟨by simpa using h1,fun i u hu=>?_⟩
 have hi:i<n:=by
  have:=(List.getElem?_eq_some_iff.1 hu).1
  simpa[h1] using this
 rw[←h2 i i (by simp[hi]),hu]
theorem zbam {a:Addr} {u:Value} (h:w.cell? a=some u):a.spot=none:=by
 unfold World.cell? at h
 split at h
 ·split at h
  ·cases h
  ·rename_i hs
   cases hsp:a.spot with
   | none=>rfl
   | some _=>simp[hsp] at hs
 ·cases h

theorem zso {α:Type} {n:Nat} {Q:Nat→α→Prop} (h:∀i,i<n→∃a,Q i a):∃l:List α,l.length=n∧∀ (i:Nat) a,l[i]? = some a→Q i a:=by
 induction n with
 | zero=>exact⟨[],rfl,by simp⟩
 | succ n ih =>
  obtain⟨l,h1,h2⟩:=ih fun i hi=>h i (by omega)
  obtain⟨a,ha⟩:=h n (by omega)
  refine⟨l++[a],by simp[h1],fun i b hb=>?_⟩
  rcases Nat.lt_or_ge i l.length with hi | hi
  ·rw[List.getElem?_append_left hi] at hb
   exact h2 i b hb
  ·rw[List.getElem?_append_right hi] at hb
   have:i - l.length=0:=by
    have:=(List.getElem?_eq_some_iff.1 hb).1
    simp at this
    omega
   rw[this] at hb
   simp at hb
   subst hb
   have:i=n:=by omega
   subst this
   exact ha
end Go.Abs
namespace Go.Abs
open Go.RowKit

variable {P:Program} {w:World} {H:Type} {enc:TypeId×Value→H}

theorem zxu {a:Addr} (h:a.spot=none) (n:Nat):a.add n=⟨a.block,a.off+n,none⟩:=by
 obtain⟨b,o,s⟩:=a
 simp only at h
 subst h
 unfold Addr.add
 split
 ·rename_i hn; simp[hn]
 ·rfl

theorem zyz {α : Type} {ec : α → List PV} {sz : Nat} (h0 : 0 < sz) (hlen : ∀ a, (ec a).length = sz) {a : Addr} {len cap : Nat} (hcap : len ≤ cap) {l : List (α × List Value)} (hl : l.length = len)
  (h:∀ (i:Nat) (x:α×List Value),l[i]? = some x→w.cells? 0 (a.add (i * sz)) sz=some x.2∧zh6 w x.2 (ec x.1)):VR (snap w) (.slice (some a) len cap) (.lst ((l.map (·.1)).map ec)):=by
 have hall:∀e∈(l.map (·.1)).map ec,e.length=sz:=fun e he=>by
  obtain⟨x,_,rfl⟩:=List.mem_map.1 he
  exact hlen x
 have hcs:∀c∈l.map (·.2),c.length=sz:=fun c hc=>by
  obtain⟨x,hx,rfl⟩:=List.mem_map.1 hc
  obtain⟨i,hi⟩:=List.mem_iff_getElem?.1 hx
  exact (zpu (h i x hi).1).1
 have at':∀ (j:Nat) u,(l.map (·.2)).flatten[j]? = some u→∃x,l[j / sz]? = some x∧x.2[j % sz]? = some u:=fun j u hu=>by
  have hj:j<(l.map (·.2)).flatten.length:=(List.getElem?_eq_some_iff.1 hu).1
  rw[zb8 hcs,List.length_map] at hj
  have hd:j / sz<l.length:=(Nat.div_lt_iff_lt_mul h0).2 hj
  have e2:=zi4 hcs (j / sz) (j % sz) (by simpa using hd) (Nat.mod_lt _ h0)
  rw[Nat.div_add_mod' j sz,hu] at e2
  refine⟨l[j / sz],List.getElem?_eq_getElem hd,?_⟩
  rw[e2]
  simp[hd]
 refine .lst (some a) len cap _ (l.map (·.2)).flatten sz (by simp[hl]) hall ?_ (fun j u c hu hc=>?_) (fun u hu=>?_) ?_ (by simp) hcap
 ·rw[zb8 hcs,zb8 hall]
  simp
 ·obtain⟨x,hx,hxu⟩:=at' j u hu
  have hd:j / sz<l.length:=(List.getElem?_eq_some_iff.1 hx).1
  have e2:=zi4 hall (j / sz) (j % sz) (by simpa using hd) (Nat.mod_lt _ h0)
  rw[Nat.div_add_mod' j sz,hc] at e2
  have e3:((l.map (·.1)).map ec).getD (j / sz) []=ec x.1:=by
   have:l[j / sz]=x:=by
    have:=List.getElem?_eq_getElem hd
    rw[hx] at this
    exact (Option.some.inj this).symm
   simp[hd,this]
  rw[e3] at e2
  exact (h _ x hx).2.2.1 _ u c hxu e2.symm
 ·obtain⟨c,hc,huc⟩:=List.mem_flatten.1 hu
  obtain⟨x,hx,rfl⟩:=List.mem_map.1 hc
  obtain⟨i,hi⟩:=List.mem_iff_getElem?.1 hx
  exact (h i x hi).2.2.2 u huc
 ·by_cases hn:(l.map (·.2)).flatten=[]
  ·exact .inl hn
  ·right
   have hpos:0<l.length:=by
    rcases Nat.eq_zero_or_pos l.length with h' | h'
    ·exact absurd (by rw[List.length_eq_zero_iff.1 h']; rfl) hn
    ·exact h'
   have hsp:a.spot=none:=by
    have hx:=h 0 l[0] (List.getElem?_eq_getElem hpos)
    obtain⟨k1,k2⟩:=zpu hx.1
    have h00:0<l[0].2.length:=by rw[k1]; exact h0
    have:=k2 0 l[0].2[0] (List.getElem?_eq_getElem h00)
    have:=zbam this
    simpa[Addr.add] using this
   refine⟨a.block,a.off,?_,fun j u hu=>?_⟩
   ·obtain⟨b,o,s⟩:=a
    simp only at hsp
    subst hsp
    rfl
   ·obtain⟨x,hx,hxu⟩:=at' j u hu
    have:=(zpu (h _ x hx).1).2 _ u hxu
    rw[zxu hsp,zxu rfl] at this
    simp only at this
    rw[Nat.add_assoc,Nat.div_add_mod' j sz] at this
    exact this

theorem Dec.slice {α : Type} {t e : TypeId} {sz : Nat} {ec : α → List PV} {G : α → Prop} (ht : P.underlying t = some (.slice e)) (hc : P.cellsOf e = sz) (h0 : 0 < sz) (hb : 0 < P.bytesOf e) (he : Dec P w enc e sz ec G) :
  Dec P w enc t 1 (fun l:List α=>[.lst (l.map ec)]) (fun l=>(∀a∈l,G a)∧l.length≤reachBytes) :=
 ⟨fun _=>rfl,fun sp hd fuel cs x h hw=>by
  rcases DataW.trod_slice ht h with ⟨rfl,rfl⟩ | ⟨a,len,cap,elems,rest,n,_,rfl,rfl,_,hle,_,hlen,hel,_,_⟩
  ·exact⟨[],⟨by simp,by simp⟩,.one (.lst none 0 0 [] [] 1 rfl (by simp) rfl (by simp) (by simp) (.inl rfl) (fun _=>⟨rfl,rfl⟩) (Nat.le_refl _)) rfl⟩
  ·have hwt:∀k,k∈((elems.map (·.1)).length+(rest.map (·.1)).length) * P.bytesOf e :: (DataW.weightsAll P e (elems.map (·.1))++DataW.weightsAll P e (rest.map (·.1)))→k≤reachBytes:=fun k hk=>by
    refine hw k ?_
    simp only[DataW.weights,ht]
    exact hk
   obtain⟨l,l1,l2⟩:=zso (n:=len) (Q:=fun i (x:α×List Value)=>G x.1∧w.cells? 0 (a.add (i * sz)) sz=some x.2∧zh6 w x.2 (ec x.1)) fun i hi=>by
    have h1:=hel i hi
    have hi':i<elems.length:=by omega
    rw[List.getElem?_eq_getElem hi',hc] at h1
    obtain⟨cs',h2,h3⟩:=Option.bind_eq_some_iff.1 h1
    obtain⟨b,h4,h5⟩:=he.dec sp hd n cs' _ h3 fun k hk=>hwt k (List.mem_cons_of_mem _ (List.mem_append_left _ (zli (List.mem_map.2 ⟨elems[i],List.getElem_mem hi',rfl⟩) k hk)))
    exact⟨(b,cs'),h4,h2,h5⟩
   refine⟨l.map (·.1),⟨fun b hb'=>?_,?_⟩,.one (zyz h0 he.len hle l1 fun i x hx=>(l2 i x hx).2) rfl⟩
   ·obtain⟨x,hx,rfl⟩:=List.mem_map.1 hb'
    obtain⟨i,hi⟩:=List.mem_iff_getElem?.1 hx
    exact (l2 i x hi).1
   ·have:=hwt _ (List.mem_cons_self ..)
    rw[List.length_map,List.length_map,hlen] at this
    rw[List.length_map,l1]
    exact Nat.le_trans (Nat.le_trans (Nat.le_add_right len rest.length) (Nat.le_mul_of_pos_right _ hb)) this⟩

structure zqd (P:Program) (w:World) {H:Type} (enc:TypeId×Value→H) {α:Type} (fs:List Field) (off sz:Nat) (e:α→List PV) (G:α→Prop):Prop where
 len:∀a,(e a).length=sz
 dec:∀ (sp:Nat→Bool) (hd:Bool) (n:Nat) (cs:List Value) (ds:List (DataW H)),ds.length=fs.length→cs.length=off+sz→(∀ (i:Nat) f,fs[i]? = some f→∃ps,DataW.trod enc P w 0 sp hd n f.type ((cs.drop f.offset).take (P.cellsOf f.type))=(ds[i]?).map fun d=>(d,ps)) →
  (∀k∈DataW.weightsEach P (fs.map (·.type)) ds,k≤reachBytes)→∃a,G a∧zh6 w (cs.drop off) (e a)

theorem zqd.nil (off:Nat):zqd P w enc [] off 0 (fun _:Unit=>[]) (fun _=>True) :=
 ⟨fun _=>rfl,fun sp hd n cs ds _ hl _ _=>⟨(),trivial,by
  have:cs.drop off=[]:=List.drop_eq_nil_of_le (by omega)
  rw[this]
  exact⟨rfl,by simp,by simp⟩⟩⟩
theorem zh6.append {cs ds:List Value} {ps qs:List PV} (h:zh6 w cs ps) (k:zh6 w ds qs):zh6 w (cs++ds) (ps++qs):=by
 refine⟨by simp[h.1,k.1],fun j u c hu hc=>?_,fun u hu=>?_⟩
 ·rcases Nat.lt_or_ge j cs.length with hj | hj
  ·rw[List.getElem?_append_left hj] at hu
   rw[List.getElem?_append_left (by rw[←h.1]; exact hj)] at hc
   exact h.2.1 j u c hu hc
  ·rw[List.getElem?_append_right hj] at hu
   rw[List.getElem?_append_right (by rw[←h.1]; exact hj),←h.1] at hc
   exact k.2.1 _ u c hu hc
 ·rcases List.mem_append.1 hu with hu | hu
  ·exact h.2.2 u hu
  ·exact k.2.2 u hu
theorem zqd.cons {α β : Type} {f : Field} {fs : List Field} {off sz sz' : Nat} {e : α → List PV} {G : α → Prop} {e' : β → List PV} {G' : β → Prop} (ho : f.offset = off) (hc : P.cellsOf f.type = sz) (h : Dec P w enc f.type sz e G) (hr : zqd P w enc fs (off + sz) sz' e' G') :
  zqd P w enc (f :: fs) off (sz+sz') (fun x:α×β=>e x.1++e' x.2) (fun x=>G x.1∧G' x.2) :=
 ⟨fun x=>by rw[List.length_append,h.len,hr.len],fun sp hd n cs ds hl hcs hall hw=>by
  match ds,hl with
  | [],hl=>simp at hl
  | d :: ds,hl =>
   rw[List.map_cons,DataW.weightsEach] at hw
   obtain⟨ps,h0⟩:=hall 0 f rfl
   simp only[List.getElem?_cons_zero,Option.map_some] at h0
   obtain⟨a,a1,a2⟩:=h.dec sp hd n _ _ h0 fun k hk=>hw k (List.mem_append_left _ hk)
   obtain⟨b,b1,b2⟩:=hr.dec sp hd n cs ds (by simpa using hl) (by omega) (fun i g hg=>by simpa using hall (i+1) g (by simpa using hg)) fun k hk=>hw k (List.mem_append_right _ hk)
   refine⟨(a,b),⟨a1,b1⟩,?_⟩
   have e1:cs.drop off=(cs.drop off).take sz++cs.drop (off+sz):=by
    rw[←List.drop_drop,List.take_append_drop]
   rw[e1]
   rw[ho,hc] at a2
   exact a2.append b2⟩
theorem Dec.struct {α:Type} {t:TypeId} {fs:Array Field} {sz:Nat} {e:α→List PV} {G:α→Prop} (ht:P.underlying t=some (.struct fs)) (hc:P.cellsOf t=sz) (h:zqd P w enc fs.toList 0 sz e G):Dec P w enc t sz e G :=
 ⟨h.len,fun sp hd fuel cs x hx hw=>by
  obtain⟨xs,n,_,rfl,hl,hxs,hf⟩:=DataW.trod_struct ht hx
  obtain⟨a,a1,a2⟩:=h.dec sp hd n cs (xs.map (·.1)) (by simp[hxs]) (by rw[hl,hc,Nat.zero_add]) (fun i f hi=>by
   have h1:=hf i f (by simpa using hi)
   have hlt:i<xs.length:=by
    have:=(List.getElem?_eq_some_iff.1 hi).1
    rw[hxs]; simpa using this
   refine⟨xs[i].2,?_⟩
   rw[h1]
   simp[hlt]) fun k hk=>hw k (by
    simp only[DataW.weights,ht]
    exact hk)
  exact⟨a,a1,by simpa using a2⟩⟩
end Go.Abs
namespace Go.Abs
open Go.RowKit

variable {P:Program} {w:World} {H:Type} {enc:TypeId×Value→H}

theorem Dec.intk {t:TypeId} (k:IntKind) (ht:P.underlying t=some (.int k)):Dec P w enc t 1 (fun n:Int=>[.val (.int k n)]) (fun n=>k.min≤n∧n≤k.max) :=
 ⟨fun _=>rfl,fun sp hd fuel cs x h _=>by
  obtain⟨n,rfl,_,hw⟩:=DataW.trod_int ht h
  refine⟨n,?_,.one (.val _ rfl) rfl⟩
  simpa[Lit.wf] using hw⟩
def arrF (e:TypeId) (off:Nat):Field:={ name := "",type:=e,offset:=off,embedded:=false,tag := "",pkgPath := "",byteOffset:=0 }
def arrFs (n:Nat) (e:TypeId) (sz:Nat):List Field:=(List.range n).map fun i=>arrF e (i * sz)
theorem zod {e:TypeId} : ∀ (n:Nat) (ds:List (DataW H)),ds.length=n→DataW.weightsEach P (List.replicate n e) ds=DataW.weightsAll P e ds
 | 0,[],_=>rfl
 | n+1,d :: r,h=>by
  rw[List.replicate_succ,DataW.weightsEach,DataW.weightsAll,zod n r (by simpa using h)]
 | n+1,[],h=>by simp at h
 | 0,d :: r,h=>by simp at h
theorem Dec.array {α:Type} {t e:TypeId} {n sz sz0:Nat} {ec:α→List PV} {G:α→Prop} (ht:P.underlying t=some (.array n e)) (hc:P.cellsOf t=sz) (h0:P.cellsOf e=sz0) (h:zqd P w enc (arrFs n e sz0) 0 sz ec G):Dec P w enc t sz ec G :=
 ⟨h.len,fun sp hd fuel cs x hx hw=>by
  obtain⟨xs,m,_,rfl,hl,hxs,hf⟩:=DataW.trod_array ht hx
  obtain⟨a,a1,a2⟩:=h.dec sp hd m cs (xs.map (·.1)) (by simp[hxs,arrFs]) (by rw[hl,hc,Nat.zero_add]) (fun i f hi=>by
   have hlt:i<n:=by
    have:=(List.getElem?_eq_some_iff.1 hi).1
    simpa[arrFs] using this
   have hfe:f=arrF e (i * sz0):=by
    simpa[arrFs,hlt] using hi.symm
   subst hfe
   have h1:=hf i hlt
   refine⟨(xs[i]'(by omega)).2,?_⟩
   subst h0
   show DataW.trod enc P w 0 sp hd m e (List.take (P.cellsOf e) (List.drop (i * P.cellsOf e) cs))=_
   rw[h1]
   simp[hxs,hlt]) fun k hk=>hw k (by
    simp only[DataW.weights,ht]
    have e1:(arrFs n e sz0).map (·.type)=List.replicate n e:=by
     unfold arrFs
     rw[List.map_map]
     exact (List.map_const' ..).trans (by rw[List.length_range])
    rw[e1,zod n _ (by simp[hxs])] at hk
    exact hk)
  exact⟨a,a1,by simpa using a2⟩⟩
end Go.Abs
namespace Go.Abs
open Go.ChangeShapes Go.WideShapes Go.ChangeAt Go.RowKit

variable {P:Program} {W:World} {H:Type} {enc:TypeId×Value→H} {α β:Type}

structure DecV (P:Program) (W:World) {H:Type} (enc:TypeId×Value→H) {α:Type} (t:TypeId) (e:α→PV) (G:α→Prop):Prop where
 dec:∀b0 v d ps,Value.okWide P W .any b0 t v→DataW.Trod enc P W 0 (fun _=>true) true t v d ps→z4k P t d→∃a,G a∧VR (snap W) v (e a)
 read:P.readableRec t=true
 size:t<P.types.size

theorem DecV.struct {t:TypeId} {fs:Array Field} {sz:Nat} {e:α→List PV} {G:α→Prop} (ht:P.underlying t=some (.struct fs)) (hdec:Dec P W enc t sz e G) (hr:P.readableRec t=true) (hs:t<P.types.size):DecV P W enc t (fun a=>.agg (e a)) G :=
 ⟨fun b0 v d ps hval h hw=>by
  unfold Value.okWide at hval
  rw[ht] at hval
  obtain⟨cs,rfl,_⟩:=hval
  obtain⟨fuel,hf⟩:=h
  obtain⟨a,h1,h2⟩:=hdec.dec _ _ fuel _ _ hf hw
  refine⟨a,h1,?_⟩
  have:VR (snap W) (.agg (cs.toList).toArray) (.agg (e a)):=.agg cs.toList (e a) h2.1 h2.2.1 h2.2.2
  simpa using this,hr,hs⟩
theorem DecV.array {t e':TypeId} {n sz:Nat} {e:α→List PV} {G:α→Prop} (ht:P.underlying t=some (.array n e')) (hdec:Dec P W enc t sz e G) (hr:P.readableRec t=true) (hs:t<P.types.size):DecV P W enc t (fun a=>.agg (e a)) G :=
 ⟨fun b0 v d ps hval h hw=>by
  unfold Value.okWide at hval
  rw[ht] at hval
  obtain⟨cs,rfl,_⟩:=hval
  obtain⟨fuel,hf⟩:=h
  obtain⟨a,h1,h2⟩:=hdec.dec _ _ fuel _ _ hf hw
  refine⟨a,h1,?_⟩
  have:VR (snap W) (.agg (cs.toList).toArray) (.agg (e a)):=.agg cs.toList (e a) h2.1 h2.2.1 h2.2.2
  simpa using this,hr,hs⟩
theorem DecV.one {t:TypeId} {e:α→PV} {G:α→Prop} (ht:∀b0 v,Value.okWide P W .any b0 t v→v.cells.toList=[v]) (hdec:Dec P W enc t 1 (fun a=>[e a]) G) (hr:P.readableRec t=true) (hs:t<P.types.size):DecV P W enc t e G :=
 ⟨fun b0 v d ps hval h hw=>by
  obtain⟨fuel,hf⟩:=h
  rw[ht b0 v hval] at hf
  obtain⟨a,h1,h2⟩:=hdec.dec _ _ fuel _ _ hf hw
  exact⟨a,h1,h2.2.1 0 v (e a) rfl rfl⟩,hr,hs⟩
theorem z0z {t e:TypeId} (ht:P.underlying t=some (.slice e)) (b0:Nat) (v:Value) (h:Value.okWide P W .any b0 t v):v.cells.toList=[v]:=by
 unfold Value.okWide at h
 rw[ht] at h
 unfold Cell.okWide at h
 rw[ht] at h
 unfold Cell.ok at h
 rw[ht] at h
 cases v<;>first | rfl | cases h

theorem zst:∀ {ts:List TypeId} {vs:List Value} {ds:List (DataW H)} {ps:List MemPlace},DataW.TrodAll enc P W 0 (fun _=>true) true ts vs ds ps→ds.length=ts.length
 | [],vs,ds,ps,h=>by obtain⟨rfl,rfl,rfl⟩:=trodAll_nil h; rfl
 | t :: ts,vs,ds,ps,h=>by
  obtain⟨v,vs',d,ds',p,q,rfl,rfl,rfl,h1,h2⟩:=trodAll_cons h
  rw[List.length_cons,List.length_cons,zst h2]
structure zr7 (P:Program) (W:World) {H:Type} (enc:TypeId×Value→H) {α:Type} (ts:List TypeId) (e:α→List PV) (G:α→Prop):Prop where
 dec:∀b0 vs ds ps,(∀ (j:Nat) t v,ts[j]? = some t→vs[j]? = some v→Value.okWide P W .any b0 t v)→DataW.TrodAll enc P W 0 (fun _=>true) true ts vs ds ps→(∀n∈DataW.weightsEach P ts ds,n≤reachBytes) →
  ∃a,G a∧vs.length=(e a).length∧∀ (j:Nat) u x,vs[j]? = some u→(e a)[j]? = some x→VR (snap W) u x
 stay:laidOutB P=true→∀vs ds ps W',DataW.TrodAll enc P W 0 (fun _=>true) true ts vs ds ps→Below W.heap.size W W'→(∀x∈ps,x.block<W.heap.size)→DataW.TrodAll enc P W' 0 (fun b=>decide (b<W.heap.size)) true ts vs ds ps
theorem zr7.nil:zr7 P W enc [] (fun _:Unit=>[]) (fun _=>True) :=
 ⟨fun b0 vs ds ps _ h _=>by
  obtain⟨rfl,rfl,rfl⟩:=trodAll_nil h
  exact⟨(),trivial,rfl,fun j u x hu=>by simp at hu⟩,fun _ vs ds ps W' h _ _=>by
  obtain⟨rfl,rfl,rfl⟩:=trodAll_nil h
  exact trodAll_mk0⟩
theorem zr7.cons {t : TypeId} {ts : List TypeId} {e : α → PV} {G : α → Prop} {e' : β → List PV} {G' : β → Prop} (h : DecV P W enc t e G) (hr : zr7 P W enc ts e' G') :
  zr7 P W enc (t :: ts) (fun x:α×β=>e x.1 :: e' x.2) (fun x=>G x.1∧G' x.2) :=
 ⟨fun b0 vs ds ps hv ht hw=>by
  obtain⟨v,vs',d,ds',p,q,rfl,rfl,rfl,h1,h2⟩:=trodAll_cons ht
  rw[DataW.weightsEach] at hw
  obtain⟨a,a1,a2⟩:=h.dec b0 v d p (hv 0 t v rfl rfl) h1 fun n hn=>hw n (List.mem_append_left _ hn)
  obtain⟨b,b1,b2,b3⟩:=hr.dec b0 vs' ds' q (fun j t v ht hv'=>hv (j+1) t v (by simpa using ht) (by simpa using hv')) h2 fun n hn=>hw n (List.mem_append_right _ hn)
  refine⟨(a,b),⟨a1,b1⟩,by simp[b2],fun j u x hu hx=>?_⟩
  cases j with
  | zero=>simp at hu hx; subst hu hx; exact a2
  | succ j=>exact b3 j u x (by simpa using hu) (by simpa using hx),fun hl vs ds ps W' ht hb hlt=>by
  obtain⟨v,vs',d,ds',p,q,rfl,rfl,rfl,h1,h2⟩:=trodAll_cons ht
  exact⟨p,q,Below.trod hl h.read h.size h1 hb fun x hx=>hlt x (List.mem_append_left _ hx),hr.stay hl vs' ds' q W' h2 hb fun x hx=>hlt x (List.mem_append_right _ hx),rfl⟩⟩

theorem zbeq {C : Checked} {os : Os} {f : FuncId} {fn : Func} {s : ChangeSpec} {conds : List PathCond} {apart fresh handsOn : Bool} {e : α → List PV} {G : α → Prop} {tb : TypeId}
  (own:ownKnob C.prog.godebug=none) (laid:laidOutB C.prog=true) (started:os.Started) (noInit:C.prog.inits.idxOf? f=none) (hfn:C.prog.funcs[f]? = some fn)
  (witness:∃ (w:World) (tape:Tape) (i:Input),w.os=os∧(w.forCall tape i).Shaped C.prog∧i.vars=[]∧Input.okWide C.prog (w.forCall tape i) .any w.heap.size f i ∧
   s.pre6 enc C.prog fn conds apart (w.forCall tape i).memory i.args∧({} : Assume).holds C.prog (lone (Frame.enter C.prog f i.args .normal) [] (w.forCall tape i)))
  (hres:fn.resultTypes = #[tb]) (hb:C.prog.underlying tb=some .bool) (hv:s.vars=[]) (hs:∀ds:List (DataW H),ds.length=fn.params.size→(s.fn H ds).results=[.lit (.bool true)]∧(s.fn H ds).args=ds∧(s.fn H ds).vars=[])
  (hd:∀W,zr7 C.prog W enc fn.params.toList e G) (ok:∀a,G a→zh C.prog f (e a) fun r=>r = .val (.bool true)) :
  ReturnsInHanded {} C os f .any (s.pre6 enc C.prog fn conds apart) (s.post enc C.prog fn apart fresh handsOn false):=by
 refine returnsInHanded_of_change_sized (C:=C) own started noInit hfn witness ?_
 intro W base args ds gs before hval hW _ hz _
 have hW':=hW
 obtain⟨p,q,hA,hV,rfl,hfz,hnd⟩:=hW
 rw[hv] at hV
 have hg:gs=[]∧q=[]:=by
  cases gs with
  | nil=>exact⟨rfl,hV⟩
  | cons=>exact hV.elim
 obtain⟨rfl,rfl⟩:=hg
 have hvt:s.plain.varTypes C.prog=[]:=by
  have:s.plain.vars=[]:=hv
  unfold DataSpec.varTypes
  rw[this]
  rfl
 rw[hvt,List.append_nil,List.append_nil] at hz
 have hw:∀n∈DataW.weightsEach C.prog fn.params.toList ds,n≤reachBytes:=fun n hn=>by
  have:=List.all_eq_true.1 hz n hn
  simpa using this
 obtain⟨a,a1,a2,a3⟩:=(hd W).dec base args.toList ds p (fun j t v ht hv'=>hval j t v (by simpa using ht) (by simpa using hv')) hA hw
 have hlt:∀x∈p,x.block<W.heap.size:=fun x hx=>hW'.lt x (List.mem_append_left _ hx)
 obtain⟨s1,s2,s3⟩:=hs ds (by
  have:=zst hA
  simpa using this)
 refine ((ok a a1).2 (snap W) W args.toList (zs2 W) ⟨a2,a3⟩).mono ?_
 rintro e' W' ⟨v,r,I',rfl,rfl,hv',bel,_⟩
 have hvb:v = .bool true:=by cases hv'; rfl
 subst hvb
 refine⟨_,rfl,ds,[],p++[],[],p,[],hW',?_,?_,?_,bel.frame _,fun h=>by cases h⟩
 ·rw[List.append_nil,s1,hres]
  exact trodAll_mk1 (shut_bool hb true)
 ·rw[List.append_nil,s2]
  exact (hd W).stay laid _ _ _ _ hA bel hlt
 ·rw[List.append_nil,s3,hv]
  rfl
end Go.Abs
namespace Go.Abs
open Go.RowKit

variable {P:Program} {w:World} {H:Type} {enc:TypeId×Value→H}

structure DecN (P:Program) (w:World) {H:Type} (enc:TypeId×Value→H) (N:Nat) {α:Type} (t:TypeId) (sz:Nat) (e:α→List PV) (G:α→Prop):Prop where
 len:∀a,(e a).length=sz
 dec:∀ (sp:Nat→Bool) (hd:Bool) (fuel:Nat),fuel<N→∀ (cs:List Value) (x:DataW H×List MemPlace),DataW.trod enc P w 0 sp hd fuel t cs=some x→z4k P t x.1→∃a,G a∧zh6 w cs (e a)
theorem Dec.toN {α:Type} {t:TypeId} {sz:Nat} {e:α→List PV} {G:α→Prop} (h:Dec P w enc t sz e G) (N:Nat):DecN P w enc N t sz e G:=⟨h.len,fun sp hd fuel _=>h.dec sp hd fuel⟩
theorem Dec.ofN {α:Type} {t:TypeId} {sz:Nat} {e:α→List PV} {G:α→Prop} (h:∀N,DecN P w enc N t sz e G):Dec P w enc t sz e G:=⟨(h 0).len,fun sp hd fuel=>(h (fuel+1)).dec sp hd fuel (Nat.lt_succ_self _)⟩
theorem DecN.zero {α:Type} {t:TypeId} {sz:Nat} {e:α→List PV} {G:α→Prop} (h:∀a,(e a).length=sz):DecN P w enc 0 t sz e G:=⟨h,fun _ _ _ h=>absurd h (Nat.not_lt_zero _)⟩
theorem DecN.map {N:Nat} {α β:Type} {t:TypeId} {sz:Nat} {e:α→List PV} {G:α→Prop} {e':β→List PV} {G':β→Prop} (g:α→β) (f:β→α) (hgf:∀b,e (f b)=e' b) (hg:∀a,e' (g a)=e a) (hG:∀a,G a→G' (g a)) (h:DecN P w enc N t sz e G):DecN P w enc N t sz e' G' :=
 ⟨fun b=>by rw[←hgf]; exact h.len _,fun sp hd fuel hf cs x hx hw=>by
  obtain⟨a,h1,h2⟩:=h.dec sp hd fuel hf cs x hx hw
  exact⟨g a,hG a h1,by rw[hg]; exact h2⟩⟩
theorem DecN.slice {N : Nat} {α : Type} {t e : TypeId} {sz : Nat} {ec : α → List PV} {G : α → Prop} (ht : P.underlying t = some (.slice e)) (hc : P.cellsOf e = sz) (h0 : 0 < sz) (hb : 0 < P.bytesOf e) (he : DecN P w enc N e sz ec G) :
  DecN P w enc N t 1 (fun l:List α=>[.lst (l.map ec)]) (fun l=>(∀a∈l,G a)∧l.length≤reachBytes) :=
 ⟨fun _=>rfl,fun sp hd fuel hN cs x h hw=>by
  rcases DataW.trod_slice ht h with ⟨rfl,rfl⟩ | ⟨a,len,cap,elems,rest,n,hfn,rfl,rfl,_,hle,_,hlen,hel,_,_⟩
  ·exact⟨[],⟨by simp,by simp⟩,.one (.lst none 0 0 [] [] 1 rfl (by simp) rfl (by simp) (by simp) (.inl rfl) (fun _=>⟨rfl,rfl⟩) (Nat.le_refl _)) rfl⟩
  ·have hn:n<N:=by omega
   have hwt:∀k,k∈((elems.map (·.1)).length+(rest.map (·.1)).length) * P.bytesOf e :: (DataW.weightsAll P e (elems.map (·.1))++DataW.weightsAll P e (rest.map (·.1)))→k≤reachBytes:=fun k hk=>by
    refine hw k ?_
    simp only[DataW.weights,ht]
    exact hk
   obtain⟨l,l1,l2⟩:=zso (n:=len) (Q:=fun i (x:α×List Value)=>G x.1∧w.cells? 0 (a.add (i * sz)) sz=some x.2∧zh6 w x.2 (ec x.1)) fun i hi=>by
    have h1:=hel i hi
    have hi':i<elems.length:=by omega
    rw[List.getElem?_eq_getElem hi',hc] at h1
    obtain⟨cs',h2,h3⟩:=Option.bind_eq_some_iff.1 h1
    obtain⟨b,h4,h5⟩:=he.dec sp hd n hn cs' _ h3 fun k hk=>hwt k (List.mem_cons_of_mem _ (List.mem_append_left _ (zli (List.mem_map.2 ⟨elems[i],List.getElem_mem hi',rfl⟩) k hk)))
    exact⟨(b,cs'),h4,h2,h5⟩
   refine⟨l.map (·.1),⟨fun b hb'=>?_,?_⟩,.one (zyz h0 he.len hle l1 fun i x hx=>(l2 i x hx).2) rfl⟩
   ·obtain⟨x,hx,rfl⟩:=List.mem_map.1 hb'
    obtain⟨i,hi⟩:=List.mem_iff_getElem?.1 hx
    exact (l2 i x hi).1
   ·have:=hwt _ (List.mem_cons_self ..)
    rw[List.length_map,List.length_map,hlen] at this
    rw[List.length_map,l1]
    exact Nat.le_trans (Nat.le_trans (Nat.le_add_right len rest.length) (Nat.le_mul_of_pos_right _ hb)) this⟩

structure zpj (P:Program) (w:World) {H:Type} (enc:TypeId×Value→H) (N:Nat) {α:Type} (fs:List Field) (off sz:Nat) (e:α→List PV) (G:α→Prop):Prop where
 len:∀a,(e a).length=sz
 dec:∀ (sp:Nat→Bool) (hd:Bool) (n:Nat),n<N→∀ (cs:List Value) (ds:List (DataW H)),ds.length=fs.length→cs.length=off+sz→(∀ (i:Nat) f,fs[i]? = some f→∃ps,DataW.trod enc P w 0 sp hd n f.type ((cs.drop f.offset).take (P.cellsOf f.type))=(ds[i]?).map fun d=>(d,ps)) →
  (∀k∈DataW.weightsEach P (fs.map (·.type)) ds,k≤reachBytes)→∃a,G a∧zh6 w (cs.drop off) (e a)
theorem zpj.nil {N:Nat} (off:Nat):zpj P w enc N [] off 0 (fun _:Unit=>[]) (fun _=>True) :=
 ⟨fun _=>rfl,fun sp hd n _ cs ds _ hl _ _=>⟨(),trivial,by
  have:cs.drop off=[]:=List.drop_eq_nil_of_le (by omega)
  rw[this]
  exact⟨rfl,by simp,by simp⟩⟩⟩
theorem zpj.cons {N : Nat} {α β : Type} {f : Field} {fs : List Field} {off sz sz' : Nat} {e : α → List PV} {G : α → Prop} {e' : β → List PV} {G' : β → Prop} (ho : f.offset = off) (hc : P.cellsOf f.type = sz) (h : DecN P w enc N f.type sz e G) (hr : zpj P w enc N fs (off + sz) sz' e' G') :
  zpj P w enc N (f :: fs) off (sz+sz') (fun x:α×β=>e x.1++e' x.2) (fun x=>G x.1∧G' x.2) :=
 ⟨fun x=>by rw[List.length_append,h.len,hr.len],fun sp hd n hn cs ds hl hcs hall hw=>by
  match ds,hl with
  | [],hl=>simp at hl
  | d :: ds,hl =>
   rw[List.map_cons,DataW.weightsEach] at hw
   obtain⟨ps,h0⟩:=hall 0 f rfl
   simp only[List.getElem?_cons_zero,Option.map_some] at h0
   obtain⟨a,a1,a2⟩:=h.dec sp hd n hn _ _ h0 fun k hk=>hw k (List.mem_append_left _ hk)
   obtain⟨b,b1,b2⟩:=hr.dec sp hd n hn cs ds (by simpa using hl) (by omega) (fun i g hg=>by simpa using hall (i+1) g (by simpa using hg)) fun k hk=>hw k (List.mem_append_right _ hk)
   refine⟨(a,b),⟨a1,b1⟩,?_⟩
   have e1:cs.drop off=(cs.drop off).take sz++cs.drop (off+sz):=by
    rw[←List.drop_drop,List.take_append_drop]
   rw[e1]
   rw[ho,hc] at a2
   exact a2.append b2⟩
theorem DecN.struct {N:Nat} {α:Type} {t:TypeId} {fs:Array Field} {sz:Nat} {e:α→List PV} {G:α→Prop} (ht:P.underlying t=some (.struct fs)) (hc:P.cellsOf t=sz) (h:zpj P w enc N fs.toList 0 sz e G):DecN P w enc (N+1) t sz e G :=
 ⟨h.len,fun sp hd fuel hN cs x hx hw=>by
  obtain⟨xs,n,hfn,rfl,hl,hxs,hf⟩:=DataW.trod_struct ht hx
  obtain⟨a,a1,a2⟩:=h.dec sp hd n (by omega) cs (xs.map (·.1)) (by simp[hxs]) (by rw[hl,hc,Nat.zero_add]) (fun i f hi=>by
   have h1:=hf i f (by simpa using hi)
   have hlt:i<xs.length:=by
    have:=(List.getElem?_eq_some_iff.1 hi).1
    rw[hxs]; simpa using this
   refine⟨xs[i].2,?_⟩
   rw[h1]
   simp[hlt]) fun k hk=>hw k (by
    simp only[DataW.weights,ht]
    exact hk)
  exact⟨a,a1,by simpa using a2⟩⟩
end Go.Abs
set_option maxRecDepth 20000
namespace Go.Proofs.YthjgdkloabgcoaaGreat
open Go.Abs


noncomputable section
theorem zh0 (a0:Int) (r:zu) (h:zci a0=some r):zh Tryz.prog 25 [.val (.int .i64 a0)] (fun v=>v = .agg (zbj r)):=by
 refine zh.ple ?_
 refine zf [] Ty.mixed Tryz.func25 rfl (by kernel_rfl) (by simp[Tryz.ntmps25]) ?_; rw[Tryz.ntmps25,Tryz.results25]
 unfold zci at h
 try simp -implicitDefEqProofs only[go_sem]
 refine zc (fun b1=>?_) (fun b1=>?_)
 ·replace h:=zd h b1
  cases h
  try simp -implicitDefEqProofs only[go_sem,b1]
  all_goals((repeat' apply And.intro)<;>rfl)
 ·replace h:=ze h b1
  try simp -implicitDefEqProofs only[go_sem,b1]
  refine zc (fun b2=>?_) (fun b2=>?_)
  ·replace h:=zd h b2
   cases h
   try simp -implicitDefEqProofs only[go_sem,b1,b2]
   all_goals((repeat' apply And.intro)<;>rfl)
  ·replace h:=ze h b2
   try simp -implicitDefEqProofs only[go_sem,b1,b2]
   refine zc (fun b3=>?_) (fun b3=>?_)
   ·replace h:=zd h b3
    cases h
    try simp -implicitDefEqProofs only[go_sem,b1,b2,b3]
    all_goals((repeat' apply And.intro)<;>rfl)
   ·replace h:=ze h b3
    cases h
    try simp -implicitDefEqProofs only[go_sem,b1,b2,b3]
    all_goals((repeat' apply And.intro)<;>rfl)

theorem znm (a0:List Edge) (p1:Edge→Option Bool) (k1:FuncId) (fs1 cs1:List PV) (hp1:∀x0 r,p1 x0=some r→zh Tryz.prog k1 (fs1++[.agg (encEdge x0)]++cs1) (fun v=>v = .val (.bool r))) (r:Int) (h:ze7 a0 p1=some r):zh Tryz.prog 232 [.lst (a0.map encEdge),.clo (.func k1) fs1 cs1] (fun v=>v = .val (.int .i64 r)):=by
 refine zh.ple ?_
 refine zf [] Ty.mixed Tryz.func232 rfl (by kernel_rfl) (by simp[Tryz.ntmps232]) ?_; rw[Tryz.ntmps232,Tryz.results232]
 unfold ze7 at h
 obtain⟨fus2,h⟩:=zbg h
 unfold fuel at fus2
 try simp -implicitDefEqProofs only[go_sem]
 refine zbe (fun x:(Nat×(Unit))×(Unit)=>envL [(0,.p (.lst (a0.map encEdge))),(1,.p (.clo (.func k1) fs1 cs1)),(7,.p (.val (.int .i64 ((a0.length:Nat):Int)))),(8,.p (.val (.int .i64 ((x.1.1:Nat):Int))))]) (fun x=>heapL []) () h (weakL (by simp -implicitDefEqProofs only[go_sem]<;>((repeat' apply And.intro)<;>rfl))) ?_ ?_
 ·intro i2 s2 g2 nxts2 Rs2 his2 hNs2 h
  have hws2:=zt (k:=i2) his2 (by omega)
  try dsimp only at h
  obtain⟨e3,c3,g3,q3,h⟩:=zbu encEdge h
  obtain⟨r4,hr4,h⟩:=zm h
  try simp -implicitDefEqProofs only[go_sem,his2,hws2,c3,g3]
  refine callG (hp1 e3 r4 hr4) (by simp -implicitDefEqProofs only[go_sem,his2,hws2,c3,g3,zfx,zfq,Bool.or_false,Bool.false_or]<;>rfl) (zb _) (by first | exact pers | exact scal rfl) ?_
  try simp -implicitDefEqProofs only[go_sem,his2,hws2,c3,g3]
  refine zc (fun b5=>?_) (fun b5=>?_)
  ·replace h:=zd h b5
   cases h
   try simp -implicitDefEqProofs only[go_sem,his2,hws2,c3,g3,b5]
   all_goals((repeat' apply And.intro)<;>rfl)
  ·replace h:=ze h b5
   try simp -implicitDefEqProofs only[go_sem,his2,hws2,c3,g3,b5]
   exact hNs2 () () h (weakL (by simp -implicitDefEqProofs only[go_sem,his2,hws2,c3,g3,b5]<;>((repeat' apply And.intro)<;>rfl)))
 ·intro i2 s2 g2 Rs2 hes2 h
  have hns2:¬ (i2<a0.length):=by omega
  try dsimp only at h
  cases h
  try simp -implicitDefEqProofs only[go_sem,hns2]
  all_goals((repeat' apply And.intro)<;>rfl)

theorem zqt (a0:Edge) (a1:zl) (r:Bool) (h:zgi a0 a1=some r):zh Tryz.prog 184 [.agg (encEdge a0),.eptr [.lst (a1.nodes.map encNode),.lst (a1.edges.map encEdgeT)] 0] (fun v=>v = .val (.bool r)):=by
 refine zh.ple ?_
 refine zf [] Ty.mixed Tryz.func184 rfl (by kernel_rfl) (by simp[Tryz.ntmps184]) ?_; rw[Tryz.ntmps184,Tryz.results184]
 unfold zgi at h
 cases h
 try simp -implicitDefEqProofs only[go_sem]
 all_goals((repeat' apply And.intro)<;>rfl)

theorem zw8 (a0:zb4) (a1:zb4) (r:Bool) (h:zhq a0 a1=some r):zh Tryz.prog 239 [.agg (zbs a0),.eptr (zbs a1) 0] (fun v=>v = .val (.bool r)):=by
 refine zh.ple ?_
 refine zf [] Ty.mixed Tryz.func239 rfl (by kernel_rfl) (by simp[Tryz.ntmps239]) ?_; rw[Tryz.ntmps239,Tryz.results239]
 unfold zhq at h
 try simp -implicitDefEqProofs only[go_sem]
 refine zq (fun b2=>?_) (fun b2=>?_)
 ·replace h:=zd h b2
  cases h
  try simp -implicitDefEqProofs only[go_sem,b2]
  all_goals((repeat' apply And.intro)<;>rfl)
 ·replace h:=ze h b2
  cases h
  try simp -implicitDefEqProofs only[go_sem,b2]
  all_goals((repeat' apply And.intro)<;>rfl)

theorem zeu (rec1:zp→Option Bool) (hrec1:∀ (a0:zp) (r:Bool),rec1 a0=some r→zh Tryz.prog 245 [.agg (zz a0)] (fun v=>v = .val (.bool r))) (a0:zp) (r:Bool) (h:zb0 rec1 a0=some r):zh Tryz.prog 274 [.agg (zz a0)] (fun v=>v = .val (.bool r)):=by
 refine zh.ple ?_
 refine zf [] Ty.mixed Tryz.func274 rfl (by kernel_rfl) (by simp[Tryz.ntmps274]) ?_; rw[Tryz.ntmps274,Tryz.results274]
 unfold zb0 at h
 obtain⟨r2,hr2,h⟩:=zm h
 try simp -implicitDefEqProofs only[go_sem]
 refine callG (hrec1 a0 r2 hr2) (by simp -implicitDefEqProofs only[go_sem]<;>rfl) (zb _) (by first | exact pers | exact scal rfl) ?_
 cases h
 try simp -implicitDefEqProofs only[go_sem]
 all_goals((repeat' apply And.intro)<;>rfl)

theorem zq3 (a0:zo) (r:Bool) (h:zff a0=some r):zh Tryz.prog 31 [.agg [.lst (a0.deletes.map encI),.lst (a0.creates.map encI)]] (fun v=>v = .val (.bool r)):=by
 refine zh.ple ?_
 refine zf [] Ty.mixed Tryz.func31 rfl (by kernel_rfl) (by simp[Tryz.ntmps31]) ?_; rw[Tryz.ntmps31,Tryz.results31]
 unfold zff at h
 cases h
 try simp -implicitDefEqProofs only[go_sem]
 all_goals((repeat' apply And.intro)<;>rfl)

theorem zja (a0:List zi) (p1:zi→Option Bool) (k1:FuncId) (fs1 cs1:List PV) (hp1:∀x0 r,p1 x0=some r→zh Tryz.prog k1 (fs1++[.agg (zn x0)]++cs1) (fun v=>v = .val (.bool r))) (r:Int) (h:zcx a0 p1=some r):zh Tryz.prog 61 [.lst (a0.map zn),.clo (.func k1) fs1 cs1] (fun v=>v = .val (.int .i64 r)):=by
 refine zh.ple ?_
 refine zf [] Ty.mixed Tryz.func61 rfl (by kernel_rfl) (by simp[Tryz.ntmps61]) ?_; rw[Tryz.ntmps61,Tryz.results61]
 unfold zcx at h
 obtain⟨fus2,h⟩:=zbg h
 unfold fuel at fus2
 try simp -implicitDefEqProofs only[go_sem]
 refine zbe (fun x:(Nat×(Unit))×(Unit)=>envL [(0,.p (.lst (a0.map zn))),(1,.p (.clo (.func k1) fs1 cs1)),(7,.p (.val (.int .i64 ((a0.length:Nat):Int)))),(8,.p (.val (.int .i64 ((x.1.1:Nat):Int))))]) (fun x=>heapL []) () h (weakL (by simp -implicitDefEqProofs only[go_sem]<;>((repeat' apply And.intro)<;>rfl))) ?_ ?_
 ·intro i2 s2 g2 nxts2 Rs2 his2 hNs2 h
  have hws2:=zt (k:=i2) his2 (by omega)
  try dsimp only at h
  obtain⟨e3,c3,g3,q3,h⟩:=zbu zn h
  obtain⟨r4,hr4,h⟩:=zm h
  try simp -implicitDefEqProofs only[go_sem,his2,hws2,c3,g3]
  refine callG (hp1 e3 r4 hr4) (by simp -implicitDefEqProofs only[go_sem,his2,hws2,c3,g3,zfx,zfq,Bool.or_false,Bool.false_or]<;>rfl) (zb _) (by first | exact pers | exact scal rfl) ?_
  try simp -implicitDefEqProofs only[go_sem,his2,hws2,c3,g3]
  refine zc (fun b5=>?_) (fun b5=>?_)
  ·replace h:=zd h b5
   cases h
   try simp -implicitDefEqProofs only[go_sem,his2,hws2,c3,g3,b5]
   all_goals((repeat' apply And.intro)<;>rfl)
  ·replace h:=ze h b5
   try simp -implicitDefEqProofs only[go_sem,his2,hws2,c3,g3,b5]
   exact hNs2 () () h (weakL (by simp -implicitDefEqProofs only[go_sem,his2,hws2,c3,g3,b5]<;>((repeat' apply And.intro)<;>rfl)))
 ·intro i2 s2 g2 Rs2 hes2 h
  have hns2:¬ (i2<a0.length):=by omega
  try dsimp only at h
  cases h
  try simp -implicitDefEqProofs only[go_sem,hns2]
  all_goals((repeat' apply And.intro)<;>rfl)

theorem zok (a0:zl) (a1:z7) (a2:Int) (a3:Int) (r:Attr×Bool) (h:zfi a0 a1 a2 a3=some r):zh Tryz.prog 162 [.agg [.lst (a0.nodes.map encNode),.lst (a0.edges.map encEdgeT)],.agg (zb2 a1),.val (.int .i64 a2),.val (.int .i64 a3)] (fun v=>v = .tup [.agg (encAttr r.1),.val (.bool r.2)]):=by
 refine zh.ple ?_
 refine zf [] Ty.mixed Tryz.func162 rfl (by kernel_rfl) (by simp[Tryz.ntmps162]) ?_; rw[Tryz.ntmps162,Tryz.results162]
 unfold zfi at h
 try simp -implicitDefEqProofs only[go_sem]
 refine zw (fun b4=>?_) (fun b4=>?_)
 ·replace h:=zd h b4
  cases h
  try simp -implicitDefEqProofs only[go_sem,b4]
  all_goals((repeat' apply And.intro)<;>rfl)
 ·replace h:=ze h b4
  try simp -implicitDefEqProofs only[go_sem,b4]
  refine zc (fun b5=>?_) (fun b5=>?_)
  ·replace h:=zd h b5
   cases h
   try simp -implicitDefEqProofs only[go_sem,b4,b5]
   all_goals((repeat' apply And.intro)<;>rfl)
  ·replace h:=ze h b5
   try simp -implicitDefEqProofs only[go_sem,b4,b5]
   refine zbn [.q,.q,.q,.q,.q,.q,.q,.q,.q,.q,.q,.q,.q] (by kernel_rfl) ?_
   obtain⟨e6,c6a,c6b,g6,q6,h⟩:=zce encI h
   have c6n:=zbv c6a c6b
   obtain⟨r7,hr7,h⟩:=zm h
   try simp -implicitDefEqProofs only[go_sem,b4,b5,c6a,c6b,c6n,g6]
   refine calldG (zj3 a0 e6 r7 hr7) (by simp -implicitDefEqProofs only[go_sem,b4,b5,c6a,c6b,c6n,g6]<;>rfl) (zb _) (by first | exact pers | exact scal rfl) ?_
   try simp -implicitDefEqProofs only[go_sem,b4,b5,c6a,c6b,c6n,g6]
   refine zq (fun b8=>?_) (fun b8=>?_)
   ·replace h:=zd h b8
    try simp -implicitDefEqProofs only[go_sem,b4,b5,c6a,c6b,c6n,g6,b8]
    refine zw (fun b9=>?_) (fun b9=>?_)
    ·replace h:=zd h b9
     cases h
     try simp -implicitDefEqProofs only[go_sem,b4,b5,c6a,c6b,c6n,g6,b8,b9]
     all_goals((repeat' apply And.intro)<;>rfl)
    ·replace h:=ze h b9
     try simp -implicitDefEqProofs only[go_sem,b4,b5,c6a,c6b,c6n,g6,b8,b9]
     refine zc (fun b10=>?_) (fun b10=>?_)
     ·replace h:=zd h b10
      cases h
      try simp -implicitDefEqProofs only[go_sem,b4,b5,c6a,c6b,c6n,g6,b8,b9,b10]
      all_goals((repeat' apply And.intro)<;>rfl)
     ·replace h:=ze h b10
      obtain⟨e11,c11a,c11b,g11,q11,h⟩:=zce encAttr h
      have c11n:=zbv c11a c11b
      cases h
      try simp -implicitDefEqProofs only[go_sem,b4,b5,c6a,c6b,c6n,g6,b8,b9,b10,c11a,c11b,c11n,g11]
      all_goals((repeat' apply And.intro)<;>rfl)
   ·replace h:=ze h b8
    cases h
    try simp -implicitDefEqProofs only[go_sem,b4,b5,c6a,c6b,c6n,g6,b8]
    all_goals((repeat' apply And.intro)<;>rfl)

theorem znf (a0:z7) (a1:Int) (r:Bool) (h:zex a0 a1=some r):zh Tryz.prog 165 [.agg (zb2 a0),.val (.int .i64 a1)] (fun v=>v = .val (.bool r)):=by
 refine zh.ple ?_
 refine zf [] Ty.mixed Tryz.func165 rfl (by kernel_rfl) (by simp[Tryz.ntmps165]) ?_; rw[Tryz.ntmps165,Tryz.results165]
 unfold zex at h
 obtain⟨fus2,h⟩:=zbg h
 unfold fuel at fus2
 try simp -implicitDefEqProofs only[go_sem]
 refine zbe (fun x:(Nat×(Unit))×(Unit)=>envL [(1,.p (.val (.int .i64 a1))),(2,.ptr 2 0),(5,.p (.val (.int .i64 ((x.1.1:Nat):Int))))]) (fun x=>heapL [(2,.box ((zb2 a0).map .p))]) () h (weakL (by simp -implicitDefEqProofs only[go_sem]<;>((repeat' apply And.intro)<;>rfl))) ?_ ?_
 ·intro i2 s2 g2 nxts2 Rs2 his2 hNs2 h
  have hws2:=zt (k:=i2) his2 (by omega)
  try dsimp only at h
  obtain⟨e3,c3,g3,q3,h⟩:=zbu zbs h
  try simp -implicitDefEqProofs only[go_sem,his2,hws2,c3,g3]
  refine zc (fun b4=>?_) (fun b4=>?_)
  ·replace h:=zd h b4
   cases h
   try simp -implicitDefEqProofs only[go_sem,his2,hws2,c3,g3,b4]
   all_goals((repeat' apply And.intro)<;>rfl)
  ·replace h:=ze h b4
   try simp -implicitDefEqProofs only[go_sem,his2,hws2,c3,g3,b4]
   exact hNs2 () () h (weakL (by simp -implicitDefEqProofs only[go_sem,his2,hws2,c3,g3,b4]<;>((repeat' apply And.intro)<;>rfl)))
 ·intro i2 s2 g2 Rs2 hes2 h
  have hns2:¬ (i2<a0.slots.length):=by omega
  try dsimp only at h
  cases h
  try simp -implicitDefEqProofs only[go_sem,hns2]
  all_goals((repeat' apply And.intro)<;>rfl)

theorem zhp (a0:z8) (a1:z8) (a2:zby) (r:Int) (h:zbr a0 a1 a2=some r):zh Tryz.prog 167 [.agg [.lst (a0.nodes.map encI),.lst (a0.edges.map encEdge)],.agg [.lst (a1.nodes.map encI),.lst (a1.edges.map encEdge)],.agg [.lst (a2.nodes.map encI),.lst (a2.edges.map encI)]] (fun v=>v = .val (.int .i64 r)):=by
 refine zh.ple ?_
 refine zf [] Ty.mixed Tryz.func167 rfl (by kernel_rfl) (by simp[Tryz.ntmps167]) ?_; rw[Tryz.ntmps167,Tryz.results167]
 unfold zbr at h
 obtain⟨r3,hr3,h⟩:=zm h
 try simp -implicitDefEqProofs only[go_sem]
 refine callG (ze8 a0 r3 hr3) (by simp -implicitDefEqProofs only[go_sem]<;>rfl) (zb _) (by first | exact pers | exact scal rfl) ?_
 try simp -implicitDefEqProofs only[go_sem]
 refine zg (fun b4=>?_) (fun b4=>?_)
 ·replace h:=zd h b4
  obtain⟨r5,hr5,h⟩:=zm h
  try simp -implicitDefEqProofs only[go_sem,b4]
  refine callG (ze8 a1 r5 hr5) (by simp -implicitDefEqProofs only[go_sem,b4]<;>rfl) (zb _) (by first | exact pers | exact scal rfl) ?_
  try simp -implicitDefEqProofs only[go_sem,b4]
  refine zg (fun b6=>?_) (fun b6=>?_)
  ·replace h:=zd h b6
   try simp -implicitDefEqProofs only[go_sem,b4,b6]
   refine zq (fun b7=>?_) (fun b7=>?_)
   ·replace h:=zd h b7
    try simp -implicitDefEqProofs only[go_sem,b4,b6,b7]
    refine zg (fun b8=>?_) (fun b8=>?_)
    ·replace h:=zd h b8
     obtain⟨fus9,h⟩:=zbg h
     unfold fuel at fus9
     try simp -implicitDefEqProofs only[go_sem,b4,b6,b7,b8]
     refine zbe (fun x:(Nat×(Unit))×(Unit)=>envL [(3,.ptr 3 0),(4,.ptr 4 0),(5,.ptr 5 0),(9,.p (.val (.int .i64 ((x.1.1:Nat):Int))))]) (fun x=>heapL [(3,.box [.p (.lst (a0.nodes.map encI)),.p (.lst (a0.edges.map encEdge))]),(4,.box [.p (.lst (a1.nodes.map encI)),.p (.lst (a1.edges.map encEdge))]),(5,.box [.p (.lst (a2.nodes.map encI)),.p (.lst (a2.edges.map encI))])]) () h (weakL (by simp -implicitDefEqProofs only[go_sem,b4,b6,b7,b8]<;>((repeat' apply And.intro)<;>rfl))) ?_ ?_
     ·intro i9 s9 g9 nxts9 Rs9 his9 hNs9 h
      have hws9:=zt (k:=i9) his9 (by omega)
      try dsimp only at h
      try simp -implicitDefEqProofs only[go_sem,b4,b6,b7,b8,his9,hws9]
      refine zbn [.q,.q,.q,.q,.q,.q,.q,.q,.q,.q,.q,.q,.q,.q,.q,.q,.q] (by kernel_rfl) ?_
      obtain⟨e10,c10,g10,q10,h⟩:=zbu encI h
      try simp -implicitDefEqProofs only[go_sem,b4,b6,b7,b8,his9,hws9,c10,g10]
      refine zfm (fun b11=>?_) (fun b11=>?_)
      ·replace h:=zd h b11
       cases h
       try simp -implicitDefEqProofs only[go_sem,b4,b6,b7,b8,his9,hws9,c10,g10,b11]
       all_goals((repeat' apply And.intro)<;>rfl)
      ·replace h:=ze h b11
       try simp -implicitDefEqProofs only[go_sem,b4,b6,b7,b8,his9,hws9,c10,g10,b11]
       refine zc (fun b12=>?_) (fun b12=>?_)
       ·replace h:=zd h b12
        cases h
        try simp -implicitDefEqProofs only[go_sem,b4,b6,b7,b8,his9,hws9,c10,g10,b11,b12]
        all_goals((repeat' apply And.intro)<;>rfl)
       ·replace h:=ze h b12
        try simp -implicitDefEqProofs only[go_sem,b4,b6,b7,b8,his9,hws9,c10,g10,b11,b12]
        refine zbn [.q,.q,.q,.q,.q,.q,.q,.q,.q,.q,.q,.q,.q,.q,.q] (by kernel_rfl) ?_
        obtain⟨e13,c13a,c13b,g13,q13,h⟩:=zce encI h
        have c13n:=zbv c13a c13b
        obtain⟨e14,c14,g14,q14,h⟩:=zbu encI h
        try simp -implicitDefEqProofs only[go_sem,b4,b6,b7,b8,his9,hws9,c10,g10,b11,b12,c13a,c13b,c13n,g13,c14,g14]
        refine zg (fun b15=>?_) (fun b15=>?_)
        ·replace h:=zd h b15
         try simp -implicitDefEqProofs only[go_sem,b4,b6,b7,b8,his9,hws9,c10,g10,b11,b12,c13a,c13b,c13n,g13,c14,g14,b15]
         exact hNs9 () () h (weakL (by simp -implicitDefEqProofs only[go_sem,b4,b6,b7,b8,his9,hws9,c10,g10,b11,b12,c13a,c13b,c13n,g13,c14,g14,b15]<;>((repeat' apply And.intro)<;>rfl)))
        ·replace h:=ze h b15
         cases h
         try simp -implicitDefEqProofs only[go_sem,b4,b6,b7,b8,his9,hws9,c10,g10,b11,b12,c13a,c13b,c13n,g13,c14,g14,b15]
         all_goals((repeat' apply And.intro)<;>rfl)
     ·intro i9 s9 g9 Rs9 hes9 h
      have hns9:¬ (i9<a0.nodes.length):=by omega
      try dsimp only at h
      obtain⟨fus16,h⟩:=zbg h
      unfold fuel at fus16
      try simp -implicitDefEqProofs only[go_sem,b4,b6,b7,b8,hns9]
      refine zbe (fun x:(Nat×(Unit))×(Unit)=>envL [(3,.ptr 3 0),(4,.ptr 4 0),(5,.ptr 5 0),(10,.p (.val (.int .i64 ((x.1.1:Nat):Int))))]) (fun x=>heapL [(3,.box [.p (.lst (a0.nodes.map encI)),.p (.lst (a0.edges.map encEdge))]),(4,.box [.p (.lst (a1.nodes.map encI)),.p (.lst (a1.edges.map encEdge))]),(5,.box [.p (.lst (a2.nodes.map encI)),.p (.lst (a2.edges.map encI))])]) () h (weakL (by simp -implicitDefEqProofs only[go_sem,b4,b6,b7,b8,hns9]<;>((repeat' apply And.intro)<;>rfl))) ?_ ?_
      ·intro i16 s16 g16 nxts16 Rs16 his16 hNs16 h
       have hws16:=zt (k:=i16) his16 (by omega)
       try dsimp only at h
       try simp -implicitDefEqProofs only[go_sem,b4,b6,b7,b8,hns9,his16,hws16]
       refine zbn [.q,.q,.q,.q,.q,.q,.q,.q,.q,.q,.q,.q,.q,.q,.q,.q,.q] (by kernel_rfl) ?_
       obtain⟨e17,c17,g17,q17,h⟩:=zbu encI h
       try simp -implicitDefEqProofs only[go_sem,b4,b6,b7,b8,hns9,his16,hws16,c17,g17]
       refine zfm (fun b18=>?_) (fun b18=>?_)
       ·replace h:=zd h b18
        cases h
        try simp -implicitDefEqProofs only[go_sem,b4,b6,b7,b8,hns9,his16,hws16,c17,g17,b18]
        all_goals((repeat' apply And.intro)<;>rfl)
       ·replace h:=ze h b18
        try simp -implicitDefEqProofs only[go_sem,b4,b6,b7,b8,hns9,his16,hws16,c17,g17,b18]
        refine zc (fun b19=>?_) (fun b19=>?_)
        ·replace h:=zd h b19
         cases h
         try simp -implicitDefEqProofs only[go_sem,b4,b6,b7,b8,hns9,his16,hws16,c17,g17,b18,b19]
         all_goals((repeat' apply And.intro)<;>rfl)
        ·replace h:=ze h b19
         try simp -implicitDefEqProofs only[go_sem,b4,b6,b7,b8,hns9,his16,hws16,c17,g17,b18,b19]
         refine zbn [.q,.q,.q,.q,.q,.o,.o,.o,.o,.o,.o,.o,.o,.o,.w,.w,.s,.s] (by kernel_rfl) ?_
         obtain⟨e20,c20,g20,q20,h⟩:=zbu encEdge h
         obtain⟨e21,c21a,c21b,g21,q21,h⟩:=zce encEdge h
         have c21n:=zbv c21a c21b
         try simp -implicitDefEqProofs only[go_sem,b4,b6,b7,b8,hns9,his16,hws16,c17,g17,b18,b19,c20,g20,c21a,c21b,c21n,g21]
         refine zg (fun b22=>?_) (fun b22=>?_)
         ·replace h:=zd h b22
          try simp -implicitDefEqProofs only[go_sem,b4,b6,b7,b8,hns9,his16,hws16,c17,g17,b18,b19,c20,g20,c21a,c21b,c21n,g21,b22]
          refine zbn [.q,.q,.q,.q,.q,.q,.q,.q,.q,.q,.q,.q,.q,.q,.q,.q,.q,.q,.q,.q] (by kernel_rfl) ?_
          obtain⟨e23,c23a,c23b,g23,q23,h⟩:=zce encI h
          have c23n:=zbv c23a c23b
          try simp -implicitDefEqProofs only[go_sem,b4,b6,b7,b8,hns9,his16,hws16,c17,g17,b18,b19,c20,g20,c21a,c21b,c21n,g21,b22,c23a,c23b,c23n,g23]
          refine zdi (fun b24=>?_) (fun b24=>?_)
          ·replace h:=zd h b24
           obtain⟨e25,c25a,c25b,g25,q25,h⟩:=zce encI h
           have c25n:=zbv c25a c25b
           try simp -implicitDefEqProofs only[go_sem,b4,b6,b7,b8,hns9,his16,hws16,c17,g17,b18,b19,c20,g20,c21a,c21b,c21n,g21,b22,c23a,c23b,c23n,g23,b24,c25a,c25b,c25n,g25]
           refine zg (fun b26=>?_) (fun b26=>?_)
           ·replace h:=zd h b26
            try simp -implicitDefEqProofs only[go_sem,b4,b6,b7,b8,hns9,his16,hws16,c17,g17,b18,b19,c20,g20,c21a,c21b,c21n,g21,b22,c23a,c23b,c23n,g23,b24,c25a,c25b,c25n,g25,b26]
            exact hNs16 () () h (weakL (by simp -implicitDefEqProofs only[go_sem,b4,b6,b7,b8,hns9,his16,hws16,c17,g17,b18,b19,c20,g20,c21a,c21b,c21n,g21,b22,c23a,c23b,c23n,g23,b24,c25a,c25b,c25n,g25,b26]<;>((repeat' apply And.intro)<;>rfl)))
           ·replace h:=ze h b26
            cases h
            try simp -implicitDefEqProofs only[go_sem,b4,b6,b7,b8,hns9,his16,hws16,c17,g17,b18,b19,c20,g20,c21a,c21b,c21n,g21,b22,c23a,c23b,c23n,g23,b24,c25a,c25b,c25n,g25,b26]
            all_goals((repeat' apply And.intro)<;>rfl)
          ·replace h:=ze h b24
           cases h
           try simp -implicitDefEqProofs only[go_sem,b4,b6,b7,b8,hns9,his16,hws16,c17,g17,b18,b19,c20,g20,c21a,c21b,c21n,g21,b22,c23a,c23b,c23n,g23,b24]
           all_goals((repeat' apply And.intro)<;>rfl)
         ·replace h:=ze h b22
          cases h
          try simp -implicitDefEqProofs only[go_sem,b4,b6,b7,b8,hns9,his16,hws16,c17,g17,b18,b19,c20,g20,c21a,c21b,c21n,g21,b22]
          all_goals((repeat' apply And.intro)<;>rfl)
      ·intro i16 s16 g16 Rs16 hes16 h
       have hns16:¬ (i16<a0.edges.length):=by omega
       try dsimp only at h
       cases h
       try simp -implicitDefEqProofs only[go_sem,b4,b6,b7,b8,hns9,hns16]
       all_goals((repeat' apply And.intro)<;>rfl)
    ·replace h:=ze h b8
     cases h
     try simp -implicitDefEqProofs only[go_sem,b4,b6,b7,b8]
     all_goals((repeat' apply And.intro)<;>rfl)
   ·replace h:=ze h b7
    cases h
    try simp -implicitDefEqProofs only[go_sem,b4,b6,b7]
    all_goals((repeat' apply And.intro)<;>rfl)
  ·replace h:=ze h b6
   cases h
   try simp -implicitDefEqProofs only[go_sem,b4,b6]
   all_goals((repeat' apply And.intro)<;>rfl)
 ·replace h:=ze h b4
  cases h
  try simp -implicitDefEqProofs only[go_sem,b4]
  all_goals((repeat' apply And.intro)<;>rfl)

theorem zpg (a0:List Int) (a1:Int) (r:Bool) (h:zft a0 a1=some r):zh Tryz.prog 170 [.lst (a0.map encI),.val (.int .i64 a1)] (fun v=>v = .val (.bool r)):=by
 refine zh.ple ?_
 refine zf [] Ty.mixed Tryz.func170 rfl (by kernel_rfl) (by simp[Tryz.ntmps170]) ?_; rw[Tryz.ntmps170,Tryz.results170]
 unfold zft at h
 obtain⟨fus2,h⟩:=zbg h
 unfold fuel at fus2
 try simp -implicitDefEqProofs only[go_sem]
 refine zbe (fun x:(Nat×(Unit))×(Unit)=>envL [(0,.p (.lst (a0.map encI))),(1,.p (.val (.int .i64 a1))),(5,.p (.val (.int .i64 ((x.1.1:Nat):Int))))]) (fun x=>heapL []) () h (weakL (by simp -implicitDefEqProofs only[go_sem]<;>((repeat' apply And.intro)<;>rfl))) ?_ ?_
 ·intro i2 s2 g2 nxts2 Rs2 his2 hNs2 h
  have hws2:=zt (k:=i2) his2 (by omega)
  try dsimp only at h
  obtain⟨e3,c3,g3,q3,h⟩:=zbu encI h
  try simp -implicitDefEqProofs only[go_sem,his2,hws2,c3,g3]
  refine zc (fun b4=>?_) (fun b4=>?_)
  ·replace h:=zd h b4
   cases h
   try simp -implicitDefEqProofs only[go_sem,his2,hws2,c3,g3,b4]
   all_goals((repeat' apply And.intro)<;>rfl)
  ·replace h:=ze h b4
   try simp -implicitDefEqProofs only[go_sem,his2,hws2,c3,g3,b4]
   exact hNs2 () () h (weakL (by simp -implicitDefEqProofs only[go_sem,his2,hws2,c3,g3,b4]<;>((repeat' apply And.intro)<;>rfl)))
 ·intro i2 s2 g2 Rs2 hes2 h
  have hns2:¬ (i2<a0.length):=by omega
  try dsimp only at h
  cases h
  try simp -implicitDefEqProofs only[go_sem,hns2]
  all_goals((repeat' apply And.intro)<;>rfl)
theorem zgw (a0:Int) (a1:Int) (a2:Int) (r:Bool) (h:zdu a0 a1 a2=some r):zh Tryz.prog 185 [.val (.int .i64 a0),.val (.int .i64 a1),.val (.int .i64 a2)] (fun v=>v = .val (.bool r)):=by
 refine zh.ple ?_
 refine zf [] Ty.mixed Tryz.func185 rfl (by kernel_rfl) (by simp[Tryz.ntmps185]) ?_; rw[Tryz.ntmps185,Tryz.results185]
 unfold zdu at h
 try simp -implicitDefEqProofs only[go_sem]
 refine zq (fun b3=>?_) (fun b3=>?_)
 ·replace h:=zd h b3
  cases h
  try simp -implicitDefEqProofs only[go_sem,b3]
  all_goals((repeat' apply And.intro)<;>rfl)
 ·replace h:=ze h b3
  cases h
  try simp -implicitDefEqProofs only[go_sem,b3]
  all_goals((repeat' apply And.intro)<;>rfl)

theorem zut (a0:Edge) (a1:zl) (r:Bool) (h:zih a0 a1=some r):zh Tryz.prog 237 [.agg (encEdge a0),.eptr [.lst (a1.nodes.map encNode),.lst (a1.edges.map encEdgeT)] 0] (fun v=>v = .val (.bool r)):=by
 refine zh.ple ?_
 refine zf [] Ty.mixed Tryz.func237 rfl (by kernel_rfl) (by simp[Tryz.ntmps237]) ?_; rw[Tryz.ntmps237,Tryz.results237]
 unfold zih at h
 cases h
 try simp -implicitDefEqProofs only[go_sem]
 all_goals((repeat' apply And.intro)<;>rfl)

theorem zkh (a0:z8) (a1:z8) (a2:zby) (r:Int) (h:zfp a0 a1 a2=some r):zh Tryz.prog 192 [.agg [.lst (a0.nodes.map encI),.lst (a0.edges.map encEdge)],.agg [.lst (a1.nodes.map encI),.lst (a1.edges.map encEdge)],.agg [.lst (a2.nodes.map encI),.lst (a2.edges.map encI)]] (fun v=>v = .val (.int .i64 r)):=by
 refine zh.ple ?_
 refine zf [] Ty.mixed Tryz.func192 rfl (by kernel_rfl) (by simp[Tryz.ntmps192]) ?_; rw[Tryz.ntmps192,Tryz.results192]
 unfold zfp at h
 obtain⟨r3,hr3,h⟩:=zm h
 try simp -implicitDefEqProofs only[go_sem]
 refine callG (ziy a0 r3 hr3) (by simp -implicitDefEqProofs only[go_sem]<;>rfl) (zb _) (by first | exact pers | exact scal rfl) ?_
 try simp -implicitDefEqProofs only[go_sem]
 refine zg (fun b4=>?_) (fun b4=>?_)
 ·replace h:=zd h b4
  obtain⟨r5,hr5,h⟩:=zm h
  try simp -implicitDefEqProofs only[go_sem,b4]
  refine callG (ziy a1 r5 hr5) (by simp -implicitDefEqProofs only[go_sem,b4]<;>rfl) (zb _) (by first | exact pers | exact scal rfl) ?_
  try simp -implicitDefEqProofs only[go_sem,b4]
  refine zg (fun b6=>?_) (fun b6=>?_)
  ·replace h:=zd h b6
   try simp -implicitDefEqProofs only[go_sem,b4,b6]
   refine zq (fun b7=>?_) (fun b7=>?_)
   ·replace h:=zd h b7
    try simp -implicitDefEqProofs only[go_sem,b4,b6,b7]
    refine zg (fun b8=>?_) (fun b8=>?_)
    ·replace h:=zd h b8
     obtain⟨fus9,h⟩:=zbg h
     unfold fuel at fus9
     try simp -implicitDefEqProofs only[go_sem,b4,b6,b7,b8]
     refine zbe (fun x:(Nat×(Unit))×(Unit)=>envL [(3,.ptr 3 0),(4,.ptr 4 0),(5,.ptr 5 0),(42,.p (.lst (a2.nodes.map encI))),(43,.p (.val (.int .i64 ((a2.nodes.length:Nat):Int)))),(44,.p (.val (.int .i64 ((x.1.1:Nat):Int))))]) (fun x=>heapL [(3,.box [.p (.lst (a0.nodes.map encI)),.p (.lst (a0.edges.map encEdge))]),(4,.box [.p (.lst (a1.nodes.map encI)),.p (.lst (a1.edges.map encEdge))]),(5,.box [.p (.lst (a2.nodes.map encI)),.p (.lst (a2.edges.map encI))])]) () h (weakL (by simp -implicitDefEqProofs only[go_sem,b4,b6,b7,b8]<;>((repeat' apply And.intro)<;>rfl))) ?_ ?_
     ·intro i9 s9 g9 nxts9 Rs9 his9 hNs9 h
      have hws9:=zt (k:=i9) his9 (by omega)
      try dsimp only at h
      obtain⟨e10,c10,g10,q10,h⟩:=zbu encI h
      try simp -implicitDefEqProofs only[go_sem,b4,b6,b7,b8,his9,hws9,c10,g10]
      refine zw (fun b11=>?_) (fun b11=>?_)
      ·replace h:=zd h b11
       cases h
       try simp -implicitDefEqProofs only[go_sem,b4,b6,b7,b8,his9,hws9,c10,g10,b11]
       all_goals((repeat' apply And.intro)<;>rfl)
      ·replace h:=ze h b11
       try simp -implicitDefEqProofs only[go_sem,b4,b6,b7,b8,his9,hws9,c10,g10,b11]
       refine zc (fun b12=>?_) (fun b12=>?_)
       ·replace h:=zd h b12
        cases h
        try simp -implicitDefEqProofs only[go_sem,b4,b6,b7,b8,his9,hws9,c10,g10,b11,b12]
        all_goals((repeat' apply And.intro)<;>rfl)
       ·replace h:=ze h b12
        try simp -implicitDefEqProofs only[go_sem,b4,b6,b7,b8,his9,hws9,c10,g10,b11,b12]
        refine zbn [.q,.q,.q,.q,.q,.q,.q,.q,.q,.q,.q] (by kernel_rfl) ?_
        obtain⟨e13,c13a,c13b,g13,q13,h⟩:=zce encI h
        have c13n:=zbv c13a c13b
        obtain⟨e14,c14,g14,q14,h⟩:=zbu encI h
        try simp -implicitDefEqProofs only[go_sem,b4,b6,b7,b8,his9,hws9,c10,g10,b11,b12,c13a,c13b,c13n,g13,c14,g14]
        refine zg (fun b15=>?_) (fun b15=>?_)
        ·replace h:=zd h b15
         try simp -implicitDefEqProofs only[go_sem,b4,b6,b7,b8,his9,hws9,c10,g10,b11,b12,c13a,c13b,c13n,g13,c14,g14,b15]
         exact hNs9 () () h (weakL (by simp -implicitDefEqProofs only[go_sem,b4,b6,b7,b8,his9,hws9,c10,g10,b11,b12,c13a,c13b,c13n,g13,c14,g14,b15]<;>((repeat' apply And.intro)<;>rfl)))
        ·replace h:=ze h b15
         cases h
         try simp -implicitDefEqProofs only[go_sem,b4,b6,b7,b8,his9,hws9,c10,g10,b11,b12,c13a,c13b,c13n,g13,c14,g14,b15]
         all_goals((repeat' apply And.intro)<;>rfl)
     ·intro i9 s9 g9 Rs9 hes9 h
      have hns9:¬ (i9<a2.nodes.length):=by omega
      try dsimp only at h
      obtain⟨fus16,h⟩:=zbg h
      unfold fuel at fus16
      try simp -implicitDefEqProofs only[go_sem,b4,b6,b7,b8,hns9]
      refine zbe (fun x:(Nat×(Unit))×(Unit)=>envL [(3,.ptr 3 0),(4,.ptr 4 0),(5,.ptr 5 0),(71,.p (.lst (a2.edges.map encI))),(72,.p (.val (.int .i64 ((a2.edges.length:Nat):Int)))),(73,.p (.val (.int .i64 ((x.1.1:Nat):Int))))]) (fun x=>heapL [(3,.box [.p (.lst (a0.nodes.map encI)),.p (.lst (a0.edges.map encEdge))]),(4,.box [.p (.lst (a1.nodes.map encI)),.p (.lst (a1.edges.map encEdge))]),(5,.box [.p (.lst (a2.nodes.map encI)),.p (.lst (a2.edges.map encI))])]) () h (weakL (by simp -implicitDefEqProofs only[go_sem,b4,b6,b7,b8,hns9]<;>((repeat' apply And.intro)<;>rfl))) ?_ ?_
      ·intro i16 s16 g16 nxts16 Rs16 his16 hNs16 h
       have hws16:=zt (k:=i16) his16 (by omega)
       try dsimp only at h
       obtain⟨e17,c17,g17,q17,h⟩:=zbu encI h
       try simp -implicitDefEqProofs only[go_sem,b4,b6,b7,b8,hns9,his16,hws16,c17,g17]
       refine zw (fun b18=>?_) (fun b18=>?_)
       ·replace h:=zd h b18
        cases h
        try simp -implicitDefEqProofs only[go_sem,b4,b6,b7,b8,hns9,his16,hws16,c17,g17,b18]
        all_goals((repeat' apply And.intro)<;>rfl)
       ·replace h:=ze h b18
        try simp -implicitDefEqProofs only[go_sem,b4,b6,b7,b8,hns9,his16,hws16,c17,g17,b18]
        refine zc (fun b19=>?_) (fun b19=>?_)
        ·replace h:=zd h b19
         cases h
         try simp -implicitDefEqProofs only[go_sem,b4,b6,b7,b8,hns9,his16,hws16,c17,g17,b18,b19]
         all_goals((repeat' apply And.intro)<;>rfl)
        ·replace h:=ze h b19
         try simp -implicitDefEqProofs only[go_sem,b4,b6,b7,b8,hns9,his16,hws16,c17,g17,b18,b19]
         refine zbn [.q,.q,.q,.q,.q,.o,.o,.o,.o,.o,.w,.w,.s,.s] (by kernel_rfl) ?_
         obtain⟨e20,c20,g20,q20,h⟩:=zbu encEdge h
         obtain⟨e21,c21a,c21b,g21,q21,h⟩:=zce encEdge h
         have c21n:=zbv c21a c21b
         try simp -implicitDefEqProofs only[go_sem,b4,b6,b7,b8,hns9,his16,hws16,c17,g17,b18,b19,c20,g20,c21a,c21b,c21n,g21]
         refine zg (fun b22=>?_) (fun b22=>?_)
         ·replace h:=zd h b22
          try simp -implicitDefEqProofs only[go_sem,b4,b6,b7,b8,hns9,his16,hws16,c17,g17,b18,b19,c20,g20,c21a,c21b,c21n,g21,b22]
          refine zbn [.q,.q,.q,.q,.q,.q,.q,.q,.q,.q,.q,.q,.q,.q,.q,.q,.q,.q,.q,.q] (by kernel_rfl) ?_
          obtain⟨e23,c23a,c23b,g23,q23,h⟩:=zce encI h
          have c23n:=zbv c23a c23b
          try simp -implicitDefEqProofs only[go_sem,b4,b6,b7,b8,hns9,his16,hws16,c17,g17,b18,b19,c20,g20,c21a,c21b,c21n,g21,b22,c23a,c23b,c23n,g23]
          refine zdi (fun b24=>?_) (fun b24=>?_)
          ·replace h:=zd h b24
           obtain⟨e25,c25a,c25b,g25,q25,h⟩:=zce encI h
           have c25n:=zbv c25a c25b
           try simp -implicitDefEqProofs only[go_sem,b4,b6,b7,b8,hns9,his16,hws16,c17,g17,b18,b19,c20,g20,c21a,c21b,c21n,g21,b22,c23a,c23b,c23n,g23,b24,c25a,c25b,c25n,g25]
           refine zg (fun b26=>?_) (fun b26=>?_)
           ·replace h:=zd h b26
            try simp -implicitDefEqProofs only[go_sem,b4,b6,b7,b8,hns9,his16,hws16,c17,g17,b18,b19,c20,g20,c21a,c21b,c21n,g21,b22,c23a,c23b,c23n,g23,b24,c25a,c25b,c25n,g25,b26]
            exact hNs16 () () h (weakL (by simp -implicitDefEqProofs only[go_sem,b4,b6,b7,b8,hns9,his16,hws16,c17,g17,b18,b19,c20,g20,c21a,c21b,c21n,g21,b22,c23a,c23b,c23n,g23,b24,c25a,c25b,c25n,g25,b26]<;>((repeat' apply And.intro)<;>rfl)))
           ·replace h:=ze h b26
            cases h
            try simp -implicitDefEqProofs only[go_sem,b4,b6,b7,b8,hns9,his16,hws16,c17,g17,b18,b19,c20,g20,c21a,c21b,c21n,g21,b22,c23a,c23b,c23n,g23,b24,c25a,c25b,c25n,g25,b26]
            all_goals((repeat' apply And.intro)<;>rfl)
          ·replace h:=ze h b24
           cases h
           try simp -implicitDefEqProofs only[go_sem,b4,b6,b7,b8,hns9,his16,hws16,c17,g17,b18,b19,c20,g20,c21a,c21b,c21n,g21,b22,c23a,c23b,c23n,g23,b24]
           all_goals((repeat' apply And.intro)<;>rfl)
         ·replace h:=ze h b22
          cases h
          try simp -implicitDefEqProofs only[go_sem,b4,b6,b7,b8,hns9,his16,hws16,c17,g17,b18,b19,c20,g20,c21a,c21b,c21n,g21,b22]
          all_goals((repeat' apply And.intro)<;>rfl)
      ·intro i16 s16 g16 Rs16 hes16 h
       have hns16:¬ (i16<a2.edges.length):=by omega
       try dsimp only at h
       cases h
       try simp -implicitDefEqProofs only[go_sem,b4,b6,b7,b8,hns9,hns16]
       all_goals((repeat' apply And.intro)<;>rfl)
    ·replace h:=ze h b8
     cases h
     try simp -implicitDefEqProofs only[go_sem,b4,b6,b7,b8]
     all_goals((repeat' apply And.intro)<;>rfl)
   ·replace h:=ze h b7
    cases h
    try simp -implicitDefEqProofs only[go_sem,b4,b6,b7]
    all_goals((repeat' apply And.intro)<;>rfl)
  ·replace h:=ze h b6
   cases h
   try simp -implicitDefEqProofs only[go_sem,b4,b6]
   all_goals((repeat' apply And.intro)<;>rfl)
 ·replace h:=ze h b4
  cases h
  try simp -implicitDefEqProofs only[go_sem,b4]
  all_goals((repeat' apply And.intro)<;>rfl)

theorem zmo (a0:List Int) (r:Int) (h:zgd a0=some r):zh Tryz.prog 242 [.lst (a0.map encI)] (fun v=>v = .val (.int .i64 r)):=by
 refine zh.ple ?_
 refine zf [] Ty.mixed Tryz.func242 rfl (by kernel_rfl) (by simp[Tryz.ntmps242]) ?_; rw[Tryz.ntmps242,Tryz.results242]
 unfold zgd at h
 obtain⟨r1,hr1,h⟩:=zm h
 try simp -implicitDefEqProofs only[go_sem]
 refine callfG 1080 (zjo a0 r1 hr1) (by simp -implicitDefEqProofs only[go_sem]<;>rfl) (zb _) (by first | exact persF | exact flatF rfl | exact flatF (by simp[RV.flat,RV.flatL,PV.scalar,isVal,encI])) (by simp -implicitDefEqProofs only[go_sem]) ?_
 obtain⟨r2,hr2,h⟩:=zm h
 try simp -implicitDefEqProofs only[go_sem]
 refine ztc (zmn 0 r1 r2 hr2) (by simp -implicitDefEqProofs only[go_sem]<;>rfl) (by simp -implicitDefEqProofs only[go_sem]<;>rfl) (by simp -implicitDefEqProofs only[go_sem]<;>rfl) (fun h=>by cases h) ?_
 obtain⟨r3,hr3,h⟩:=zm h
 try simp -implicitDefEqProofs only[go_sem]
 refine zvx (zk8 0 r2 r3 hr3) (by simp -implicitDefEqProofs only[go_sem]<;>rfl) (by simp -implicitDefEqProofs only[go_sem]<;>rfl) (by simp -implicitDefEqProofs only[go_sem]<;>rfl) (fun h=>by cases h) ?_
 cases h
 try simp -implicitDefEqProofs only[go_sem]
 all_goals((repeat' apply And.intro)<;>rfl)

theorem ztr (a0:Int) (a1:zl) (a2:z8) (r:Bool) (h:zgp a0 a1 a2=some r):zh Tryz.prog 194 [.val (.int .i64 a0),.eptr [.lst (a1.nodes.map encNode),.lst (a1.edges.map encEdgeT)] 0,.eptr [.lst (a2.nodes.map encI),.lst (a2.edges.map encEdge)] 0] (fun v=>v = .val (.bool r)):=by
 refine zh.ple ?_
 refine zf [] Ty.mixed Tryz.func194 rfl (by kernel_rfl) (by simp[Tryz.ntmps194]) ?_; rw[Tryz.ntmps194,Tryz.results194]
 unfold zgp at h
 try simp -implicitDefEqProofs only[go_sem]
 refine zbn [.q,.q,.q,.q,.q,.q,.q,.q,.q,.q,.q] (by kernel_rfl) ?_
 obtain⟨e3,c3a,c3b,g3,q3,h⟩:=zce encI h
 have c3n:=zbv c3a c3b
 obtain⟨e4,c4a,c4b,g4,q4,h⟩:=zce encNode h
 have c4n:=zbv c4a c4b
 cases h
 try simp -implicitDefEqProofs only[go_sem,c3a,c3b,c3n,g3,c4a,c4b,c4n,g4]
 all_goals((repeat' apply And.intro)<;>rfl)

theorem zga (a0:Int) (a1:zie) (r:Int) (h:zcj a0 a1=some r):zh Tryz.prog 260 [.val (.int .i64 a0),.agg [.val (.int .i64 a1.var),.val (.int .i64 a1.add)]] (fun v=>v = .val (.int .i64 r)):=by
 refine zh.ple ?_
 refine zf [] Ty.mixed Tryz.func260 rfl (by kernel_rfl) (by simp[Tryz.ntmps260]) ?_; rw[Tryz.ntmps260,Tryz.results260]
 unfold zcj at h
 try simp -implicitDefEqProofs only[go_sem]
 refine zw (fun b2=>?_) (fun b2=>?_)
 ·replace h:=zd h b2
  cases h
  try simp -implicitDefEqProofs only[go_sem,b2]
  all_goals((repeat' apply And.intro)<;>rfl)
 ·replace h:=ze h b2
  try simp -implicitDefEqProofs only[go_sem,b2]
  refine zw (fun b3=>?_) (fun b3=>?_)
  ·replace h:=zd h b3
   cases h
   try simp -implicitDefEqProofs only[go_sem,b2,b3]
   all_goals((repeat' apply And.intro)<;>rfl)
  ·replace h:=ze h b3
   try simp -implicitDefEqProofs only[go_sem,b2,b3]
   refine zw (fun b4=>?_) (fun b4=>?_)
   ·replace h:=zd h b4
    cases h
    try simp -implicitDefEqProofs only[go_sem,b2,b3,b4]
    all_goals((repeat' apply And.intro)<;>rfl)
   ·replace h:=ze h b4
    try simp -implicitDefEqProofs only[go_sem,b2,b3,b4]
    refine zc (fun b5=>?_) (fun b5=>?_)
    ·replace h:=zd h b5
     cases h
     try simp -implicitDefEqProofs only[go_sem,b2,b3,b4,b5]
     all_goals((repeat' apply And.intro)<;>rfl)
    ·replace h:=ze h b5
     cases h
     try simp -implicitDefEqProofs only[go_sem,b2,b3,b4,b5]
     all_goals((repeat' apply And.intro)<;>rfl)

theorem zim (a0:List Int) (a1:Int) (r:Int) (h:zc2 a0 a1=some r):zh Tryz.prog 218 [.lst (a0.map encI),.val (.int .i64 a1)] (fun v=>v = .val (.int .i64 r)):=by
 refine zh.ple ?_
 refine zf [] Ty.mixed Tryz.func218 rfl (by kernel_rfl) (by simp[Tryz.ntmps218]) ?_; rw[Tryz.ntmps218,Tryz.results218]
 unfold zc2 at h
 obtain⟨fus2,h⟩:=zbg h
 unfold fuel at fus2
 try simp -implicitDefEqProofs only[go_sem]
 refine zbe (fun x:(Nat×(Unit))×(Unit)=>envL [(0,.p (.lst (a0.map encI))),(1,.p (.val (.int .i64 a1))),(5,.p (.val (.int .i64 ((x.1.1:Nat):Int))))]) (fun x=>heapL []) () h (weakL (by simp -implicitDefEqProofs only[go_sem]<;>((repeat' apply And.intro)<;>rfl))) ?_ ?_
 ·intro i2 s2 g2 nxts2 Rs2 his2 hNs2 h
  have hws2:=zt (k:=i2) his2 (by omega)
  try dsimp only at h
  obtain⟨e3,c3,g3,q3,h⟩:=zbu encI h
  try simp -implicitDefEqProofs only[go_sem,his2,hws2,c3,g3]
  refine zw (fun b4=>?_) (fun b4=>?_)
  ·replace h:=zd h b4
   cases h
   try simp -implicitDefEqProofs only[go_sem,his2,hws2,c3,g3,b4]
   all_goals((repeat' apply And.intro)<;>rfl)
  ·replace h:=ze h b4
   try simp -implicitDefEqProofs only[go_sem,his2,hws2,c3,g3,b4]
   refine zc (fun b5=>?_) (fun b5=>?_)
   ·replace h:=zd h b5
    cases h
    try simp -implicitDefEqProofs only[go_sem,his2,hws2,c3,g3,b4,b5]
    all_goals((repeat' apply And.intro)<;>rfl)
   ·replace h:=ze h b5
    try simp -implicitDefEqProofs only[go_sem,his2,hws2,c3,g3,b4,b5]
    refine zbn [.q,.q,.q,.q,.q,.q,.q,.q,.q,.q,.q,.q,.q,.q] (by kernel_rfl) ?_
    try simp -implicitDefEqProofs only[go_sem,his2,hws2,c3,g3,b4,b5]
    refine zdi (fun b6=>?_) (fun b6=>?_)
    ·replace h:=zd h b6
     obtain⟨e7,c7a,c7b,g7,q7,h⟩:=zce encI h
     have c7n:=zbv c7a c7b
     try simp -implicitDefEqProofs only[go_sem,his2,hws2,c3,g3,b4,b5,b6,c7a,c7b,c7n,g7]
     refine zc (fun b8=>?_) (fun b8=>?_)
     ·replace h:=zd h b8
      cases h
      try simp -implicitDefEqProofs only[go_sem,his2,hws2,c3,g3,b4,b5,b6,c7a,c7b,c7n,g7,b8]
      all_goals((repeat' apply And.intro)<;>rfl)
     ·replace h:=ze h b8
      try simp -implicitDefEqProofs only[go_sem,his2,hws2,c3,g3,b4,b5,b6,c7a,c7b,c7n,g7,b8]
      exact hNs2 () () h (weakL (by simp -implicitDefEqProofs only[go_sem,his2,hws2,c3,g3,b4,b5,b6,c7a,c7b,c7n,g7,b8]<;>((repeat' apply And.intro)<;>rfl)))
    ·replace h:=ze h b6
     try simp -implicitDefEqProofs only[go_sem,his2,hws2,c3,g3,b4,b5,b6]
     exact hNs2 () () h (weakL (by simp -implicitDefEqProofs only[go_sem,his2,hws2,c3,g3,b4,b5,b6]<;>((repeat' apply And.intro)<;>rfl)))
 ·intro i2 s2 g2 Rs2 hes2 h
  have hns2:¬ (i2<a0.length):=by omega
  try dsimp only at h
  cases h
  try simp -implicitDefEqProofs only[go_sem,hns2]
  all_goals((repeat' apply And.intro)<;>rfl)

theorem zkq (a0:List Int) (a1:Int) (r:Bool) (h:zdl a0 a1=some r):zh Tryz.prog 219 [.lst (a0.map encI),.val (.int .i64 a1)] (fun v=>v = .val (.bool r)):=by
 refine zh.ple ?_
 refine zf [] Ty.mixed Tryz.func219 rfl (by kernel_rfl) (by simp[Tryz.ntmps219]) ?_; rw[Tryz.ntmps219,Tryz.results219]
 unfold zdl at h
 obtain⟨fus2,h⟩:=zbg h
 unfold fuel at fus2
 try simp -implicitDefEqProofs only[go_sem]
 refine zbe (fun x:(Nat×(Unit))×(Unit)=>envL [(0,.p (.lst (a0.map encI))),(1,.p (.val (.int .i64 a1))),(5,.p (.val (.int .i64 ((x.1.1:Nat):Int))))]) (fun x=>heapL []) () h (weakL (by simp -implicitDefEqProofs only[go_sem]<;>((repeat' apply And.intro)<;>rfl))) ?_ ?_
 ·intro i2 s2 g2 nxts2 Rs2 his2 hNs2 h
  have hws2:=zt (k:=i2) his2 (by omega)
  try dsimp only at h
  obtain⟨e3,c3,g3,q3,h⟩:=zbu encI h
  try simp -implicitDefEqProofs only[go_sem,his2,hws2,c3,g3]
  refine zc (fun b4=>?_) (fun b4=>?_)
  ·replace h:=zd h b4
   cases h
   try simp -implicitDefEqProofs only[go_sem,his2,hws2,c3,g3,b4]
   all_goals((repeat' apply And.intro)<;>rfl)
  ·replace h:=ze h b4
   try simp -implicitDefEqProofs only[go_sem,his2,hws2,c3,g3,b4]
   exact hNs2 () () h (weakL (by simp -implicitDefEqProofs only[go_sem,his2,hws2,c3,g3,b4]<;>((repeat' apply And.intro)<;>rfl)))
 ·intro i2 s2 g2 Rs2 hes2 h
  have hns2:¬ (i2<a0.length):=by omega
  try dsimp only at h
  cases h
  try simp -implicitDefEqProofs only[go_sem,hns2]
  all_goals((repeat' apply And.intro)<;>rfl)

theorem zmp (n:Nat):∀ (a0:zp) (r:Int×Int) (h:zd1 n a0=some r),zh Tryz.prog 215 [.agg (zz a0)] (fun v=>v = .tup [.val (.int .i64 r.1),.val (.int .i64 r.2)]):=by
 induction n with
 | zero=>intro a0 r h; cases h
 | succ n ih =>
 intro a0 r h
 refine zh.ple ?_
 refine zf [] Ty.mixed Tryz.func215 rfl (by kernel_rfl) (by simp[Tryz.ntmps215]) ?_; rw[Tryz.ntmps215,Tryz.results215]
 unfold zd1 at h
 obtain⟨fus1,h⟩:=zbg h
 unfold fuel at fus1
 try simp -implicitDefEqProofs only[go_sem]
 refine zbe (fun x:(Nat×(Int×Int))×(Unit)=>envL [(1,.ptr 1 0),(4,.p (.val (.int .i64 x.1.2.1))),(5,.p (.val (.int .i64 x.1.2.2))),(6,.p (.val (.int .i64 ((x.1.1:Nat):Int))))]) (fun x=>heapL [(1,.box ((zz a0).map .p))]) () h (weakL (by simp -implicitDefEqProofs only[go_sem]<;>((repeat' apply And.intro)<;>rfl))) ?_ ?_
 ·intro i1 s1 g1 nxts1 Rs1 his1 hNs1 h
  have hws1:=zt (k:=i1) his1 (by omega)
  try dsimp only at h
  obtain⟨e2,c2,g2,q2,h⟩:=zbu zz h
  obtain⟨r3,hr3,h⟩:=zm h
  try simp -implicitDefEqProofs only[go_sem,his1,hws1,c2,g2]
  refine callG (ih e2 r3 hr3) (by simp -implicitDefEqProofs only[go_sem,his1,hws1,c2,g2]<;>rfl) (zb _) (by first | exact pers | exact scal rfl) ?_
  try simp -implicitDefEqProofs only[go_sem,his1,hws1,c2,g2]
  exact hNs1 ((IntKind.i64.wrap (s1.1+r3.1)),(max s1.2 r3.2)) () h (weakL (by simp -implicitDefEqProofs only[go_sem,his1,hws1,c2,g2]<;>((repeat' apply And.intro)<;>rfl)))
 ·intro i1 s1 g1 Rs1 hes1 h
  have hns1:¬ (i1<a0.kids.length):=by omega
  try dsimp only at h
  try simp -implicitDefEqProofs only[go_sem,hns1]
  refine zc (fun b4=>?_) (fun b4=>?_)
  ·replace h:=zd h b4
   cases h
   try simp -implicitDefEqProofs only[go_sem,hns1,b4]
   all_goals((repeat' apply And.intro)<;>rfl)
  ·replace h:=ze h b4
   cases h
   try simp -implicitDefEqProofs only[go_sem,hns1,b4]
   all_goals((repeat' apply And.intro)<;>rfl)

theorem zqz (a0:Int) (a1:zl) (r:Bool) (h:zgj a0 a1=some r):zh Tryz.prog 182 [.val (.int .i64 a0),.eptr [.lst (a1.nodes.map encNode),.lst (a1.edges.map encEdgeT)] 0] (fun v=>v = .val (.bool r)):=by
 refine zh.ple ?_
 refine zf [] Ty.mixed Tryz.func182 rfl (by kernel_rfl) (by simp[Tryz.ntmps182]) ?_; rw[Tryz.ntmps182,Tryz.results182]
 unfold zgj at h
 cases h
 try simp -implicitDefEqProofs only[go_sem]
 all_goals((repeat' apply And.intro)<;>rfl)

theorem zn0 (a0:List zb4) (p1:zb4→Option Bool) (k1:FuncId) (fs1 cs1:List PV) (hp1:∀x0 r,p1 x0=some r→zh Tryz.prog k1 (fs1++[.agg (zbs x0)]++cs1) (fun v=>v = .val (.bool r))) (r:Int) (h:ze5 a0 p1=some r):zh Tryz.prog 267 [.lst (a0.map zbs),.clo (.func k1) fs1 cs1] (fun v=>v = .val (.int .i64 r)):=by
 refine zh.ple ?_
 refine zf [] Ty.mixed Tryz.func267 rfl (by kernel_rfl) (by simp[Tryz.ntmps267]) ?_; rw[Tryz.ntmps267,Tryz.results267]
 unfold ze5 at h
 obtain⟨fus2,h⟩:=zbg h
 unfold fuel at fus2
 try simp -implicitDefEqProofs only[go_sem]
 refine zbe (fun x:(Nat×(Unit))×(Unit)=>envL [(0,.p (.lst (a0.map zbs))),(1,.p (.clo (.func k1) fs1 cs1)),(7,.p (.val (.int .i64 ((a0.length:Nat):Int)))),(8,.p (.val (.int .i64 ((x.1.1:Nat):Int))))]) (fun x=>heapL []) () h (weakL (by simp -implicitDefEqProofs only[go_sem]<;>((repeat' apply And.intro)<;>rfl))) ?_ ?_
 ·intro i2 s2 g2 nxts2 Rs2 his2 hNs2 h
  have hws2:=zt (k:=i2) his2 (by omega)
  try dsimp only at h
  obtain⟨e3,c3,g3,q3,h⟩:=zbu zbs h
  obtain⟨r4,hr4,h⟩:=zm h
  try simp -implicitDefEqProofs only[go_sem,his2,hws2,c3,g3]
  refine callG (hp1 e3 r4 hr4) (by simp -implicitDefEqProofs only[go_sem,his2,hws2,c3,g3,zfx,zfq,Bool.or_false,Bool.false_or]<;>rfl) (zb _) (by first | exact pers | exact scal rfl) ?_
  try simp -implicitDefEqProofs only[go_sem,his2,hws2,c3,g3]
  refine zc (fun b5=>?_) (fun b5=>?_)
  ·replace h:=zd h b5
   cases h
   try simp -implicitDefEqProofs only[go_sem,his2,hws2,c3,g3,b5]
   all_goals((repeat' apply And.intro)<;>rfl)
  ·replace h:=ze h b5
   try simp -implicitDefEqProofs only[go_sem,his2,hws2,c3,g3,b5]
   exact hNs2 () () h (weakL (by simp -implicitDefEqProofs only[go_sem,his2,hws2,c3,g3,b5]<;>((repeat' apply And.intro)<;>rfl)))
 ·intro i2 s2 g2 Rs2 hes2 h
  have hns2:¬ (i2<a0.length):=by omega
  try dsimp only at h
  cases h
  try simp -implicitDefEqProofs only[go_sem,hns2]
  all_goals((repeat' apply And.intro)<;>rfl)

theorem zo8 (a0:zb4) (a1:Int) (r:Bool) (h:zf3 a0 a1=some r):zh Tryz.prog 275 [.agg (zbs a0),.eptr [.val (.int .i64 a1)] 0] (fun v=>v = .val (.bool r)):=by
 refine zh.ple ?_
 refine zf [] Ty.mixed Tryz.func275 rfl (by kernel_rfl) (by simp[Tryz.ntmps275]) ?_; rw[Tryz.ntmps275,Tryz.results275]
 unfold zf3 at h
 cases h
 try simp -implicitDefEqProofs only[go_sem]
 all_goals((repeat' apply And.intro)<;>rfl)

theorem zub (a0:zd0) (a1:zu) (a2:Int) (r:Bool) (h:zhr a0 a1 a2=some r):zh Tryz.prog 86 [.agg (encNode a0),.eptr (zbj a1) 0,.eptr [.val (.int .i64 a2)] 0] (fun v=>v = .val (.bool r)):=by
 refine zh.ple ?_
 refine zf [] Ty.mixed Tryz.func86 rfl (by kernel_rfl) (by simp[Tryz.ntmps86]) ?_; rw[Tryz.ntmps86,Tryz.results86]
 unfold zhr at h
 try simp -implicitDefEqProofs only[go_sem]
 refine zbn [.q,.q,.q,.q,.q,.q,.q,.q,.q,.q,.q] (by kernel_rfl) ?_
 obtain⟨e3,c3a,c3b,g3,q3,h⟩:=zce encI h
 have c3n:=zbv c3a c3b
 cases h
 try simp -implicitDefEqProofs only[go_sem,c3a,c3b,c3n,g3]
 all_goals((repeat' apply And.intro)<;>rfl)

theorem zkv (a0:List zi) (a1:List zi) (r:Bool) (h:zer a0 a1=some r):zh Tryz.prog 13 [.lst (a0.map zn),.lst (a1.map zn)] (fun v=>v = .val (.bool r)):=by
 refine zh.ple ?_
 refine zf [] Ty.mixed Tryz.func13 rfl (by kernel_rfl) (by simp[Tryz.ntmps13]) ?_; rw[Tryz.ntmps13,Tryz.results13]
 unfold zer at h
 try simp -implicitDefEqProofs only[go_sem]
 refine zg (fun b2=>?_) (fun b2=>?_)
 ·replace h:=zd h b2
  obtain⟨fus3,h⟩:=zbg h
  unfold fuel at fus3
  try simp -implicitDefEqProofs only[go_sem,b2]
  refine zbe (fun x:(Nat×(Unit))×(Unit)=>envL [(0,.p (.lst (a0.map zn))),(1,.p (.lst (a1.map zn))),(12,.p (.val (.int .i64 ((a0.length:Nat):Int)))),(13,.p (.val (.int .i64 ((x.1.1:Nat):Int))))]) (fun x=>heapL []) () h (weakL (by simp -implicitDefEqProofs only[go_sem,b2]<;>((repeat' apply And.intro)<;>rfl))) ?_ ?_
  ·intro i3 s3 g3 nxts3 Rs3 his3 hNs3 h
   have hws3:=zt (k:=i3) his3 (by omega)
   try dsimp only at h
   try simp -implicitDefEqProofs only[go_sem,b2,his3,hws3]
   refine zbn [.q,.q,.q,.q,.q,.q,.q,.q,.q] (by kernel_rfl) ?_
   obtain⟨e4,c4,g4,q4,h⟩:=zbu zn h
   obtain⟨e5,c5,g5,q5,h⟩:=zbu zn h
   try simp -implicitDefEqProofs only[go_sem,b2,his3,hws3,c4,g4,c5,g5]
   refine zg (fun b6=>?_) (fun b6=>?_)
   ·replace h:=zd h b6
    try simp -implicitDefEqProofs only[go_sem,b2,his3,hws3,c4,g4,c5,g5,b6]
    exact hNs3 () () h (weakL (by simp -implicitDefEqProofs only[go_sem,b2,his3,hws3,c4,g4,c5,g5,b6]<;>((repeat' apply And.intro)<;>rfl)))
   ·replace h:=ze h b6
    cases h
    try simp -implicitDefEqProofs only[go_sem,b2,his3,hws3,c4,g4,c5,g5,b6]
    all_goals((repeat' apply And.intro)<;>rfl)
  ·intro i3 s3 g3 Rs3 hes3 h
   have hns3:¬ (i3<a0.length):=by omega
   try dsimp only at h
   cases h
   try simp -implicitDefEqProofs only[go_sem,b2,hns3]
   all_goals((repeat' apply And.intro)<;>rfl)
 ·replace h:=ze h b2
  cases h
  try simp -implicitDefEqProofs only[go_sem,b2]
  all_goals((repeat' apply And.intro)<;>rfl)

theorem zpa (a0:zl) (r:Bool) (h:zfu a0=some r):zh Tryz.prog 27 [.agg [.lst (a0.nodes.map encNode),.lst (a0.edges.map encEdgeT)]] (fun v=>v = .val (.bool r)):=by
 refine zh.ple ?_
 refine zf [] Ty.mixed Tryz.func27 rfl (by kernel_rfl) (by simp[Tryz.ntmps27]) ?_; rw[Tryz.ntmps27,Tryz.results27]
 unfold zfu at h
 try simp -implicitDefEqProofs only[go_sem]
 refine zw (fun b1=>?_) (fun b1=>?_)
 ·replace h:=zd h b1
  cases h
  try simp -implicitDefEqProofs only[go_sem,b1]
  all_goals((repeat' apply And.intro)<;>rfl)
 ·replace h:=ze h b1
  try simp -implicitDefEqProofs only[go_sem,b1]
  refine zc (fun b2=>?_) (fun b2=>?_)
  ·replace h:=zd h b2
   cases h
   try simp -implicitDefEqProofs only[go_sem,b1,b2]
   all_goals((repeat' apply And.intro)<;>rfl)
  ·replace h:=ze h b2
   obtain⟨fus3,h⟩:=zbg h
   unfold fuel at fus3
   try simp -implicitDefEqProofs only[go_sem,b1,b2]
   refine zbe (fun x:(Nat×(Int))×(Unit)=>envL [(1,.ptr 1 0),(3,.p (.val (.int .i64 x.1.2))),(4,.p (.val (.int .i64 ((x.1.1:Nat):Int))))]) (fun x=>heapL [(1,.box [.p (.lst (a0.nodes.map encNode)),.p (.lst (a0.edges.map encEdgeT))])]) () h (weakL (by simp -implicitDefEqProofs only[go_sem,b1,b2]<;>((repeat' apply And.intro)<;>rfl))) ?_ ?_
   ·intro i3 s3 g3 nxts3 Rs3 his3 hNs3 h
    have hws3:=zt (k:=i3) his3 (by omega)
    try dsimp only at h
    obtain⟨e4,c4,g4,q4,h⟩:=zbu encNode h
    try simp -implicitDefEqProofs only[go_sem,b1,b2,his3,hws3,c4,g4]
    refine zw (fun b5=>?_) (fun b5=>?_)
    ·replace h:=zd h b5
     cases h
     try simp -implicitDefEqProofs only[go_sem,b1,b2,his3,hws3,c4,g4,b5]
     all_goals((repeat' apply And.intro)<;>rfl)
    ·replace h:=ze h b5
     try simp -implicitDefEqProofs only[go_sem,b1,b2,his3,hws3,c4,g4,b5]
     refine zc (fun b6=>?_) (fun b6=>?_)
     ·replace h:=zd h b6
      cases h
      try simp -implicitDefEqProofs only[go_sem,b1,b2,his3,hws3,c4,g4,b5,b6]
      all_goals((repeat' apply And.intro)<;>rfl)
     ·replace h:=ze h b6
      obtain⟨fus7,h⟩:=zbg h
      unfold fuel at fus7
      try simp -implicitDefEqProofs only[go_sem,b1,b2,his3,hws3,c4,g4,b5,b6]
      refine zbe (fun x:(Nat×(Unit))×(Unit)=>envL [(1,.ptr 1 0),(3,.p (.val (.int .i64 (IntKind.i64.wrap (s3+((e4.attrs.length:Nat):Int)))))),(4,.p (.val (.int .i64 ((i3:Nat):Int)))),(5,.p (.val (.int .i64 ((x.1.1:Nat):Int))))]) (fun x=>heapL [(1,.box [.p (.lst (a0.nodes.map encNode)),.p (.lst (a0.edges.map encEdgeT))])]) () h (weakL (by simp -implicitDefEqProofs only[go_sem,b1,b2,his3,hws3,c4,g4,b5,b6]<;>((repeat' apply And.intro)<;>rfl))) ?_ ?_
      ·intro i7 s7 g7 nxts7 Rs7 his7 hNs7 h
       have hws7:=zt (k:=i7) his7 (by omega)
       try dsimp only at h
       obtain⟨e8,c8,g8,q8,h⟩:=zbu encAttr h
       try simp -implicitDefEqProofs only[go_sem,b1,b2,his3,hws3,c4,g4,b5,b6,his7,hws7,c8,g8]
       refine zw (fun b9=>?_) (fun b9=>?_)
       ·replace h:=zd h b9
        cases h
        try simp -implicitDefEqProofs only[go_sem,b1,b2,his3,hws3,c4,g4,b5,b6,his7,hws7,c8,g8,b9]
        all_goals((repeat' apply And.intro)<;>rfl)
       ·replace h:=ze h b9
        try simp -implicitDefEqProofs only[go_sem,b1,b2,his3,hws3,c4,g4,b5,b6,his7,hws7,c8,g8,b9]
        refine zc (fun b10=>?_) (fun b10=>?_)
        ·replace h:=zd h b10
         cases h
         try simp -implicitDefEqProofs only[go_sem,b1,b2,his3,hws3,c4,g4,b5,b6,his7,hws7,c8,g8,b9,b10]
         all_goals((repeat' apply And.intro)<;>rfl)
        ·replace h:=ze h b10
         obtain⟨fus11,h⟩:=zbg h
         unfold fuel at fus11
         try simp -implicitDefEqProofs only[go_sem,b1,b2,his3,hws3,c4,g4,b5,b6,his7,hws7,c8,g8,b9,b10]
         refine zbe (fun x:(Nat×(Unit))×(Unit)=>envL [(1,.ptr 1 0),(3,.p (.val (.int .i64 (IntKind.i64.wrap (s3+((e4.attrs.length:Nat):Int)))))),(4,.p (.val (.int .i64 ((i3:Nat):Int)))),(5,.p (.val (.int .i64 ((i7:Nat):Int)))),(6,.ptr 6 0),(7,.p (.val (.int .i64 ((x.1.1:Nat):Int))))]) (fun x=>heapL [(1,.box [.p (.lst (a0.nodes.map encNode)),.p (.lst (a0.edges.map encEdgeT))]),(6,.box ((encAttr e8).map .p))]) () h (weakL (by simp -implicitDefEqProofs only[go_sem,b1,b2,his3,hws3,c4,g4,b5,b6,his7,hws7,c8,g8,b9,b10]<;>((repeat' apply And.intro)<;>rfl))) ?_ ?_
         ·intro i11 s11 g11 nxts11 Rs11 his11 hNs11 h
          have hws11:=zt (k:=i11) his11 (by omega)
          try dsimp only at h
          obtain⟨e12,c12,g12,q12,h⟩:=zbu encS h
          try simp -implicitDefEqProofs only[go_sem,b1,b2,his3,hws3,c4,g4,b5,b6,his7,hws7,c8,g8,b9,b10,his11,hws11,c12,g12]
          refine zc (fun b13=>?_) (fun b13=>?_)
          ·replace h:=zd h b13
           cases h
           try simp -implicitDefEqProofs only[go_sem,b1,b2,his3,hws3,c4,g4,b5,b6,his7,hws7,c8,g8,b9,b10,his11,hws11,c12,g12,b13]
           all_goals((repeat' apply And.intro)<;>rfl)
          ·replace h:=ze h b13
           try simp -implicitDefEqProofs only[go_sem,b1,b2,his3,hws3,c4,g4,b5,b6,his7,hws7,c8,g8,b9,b10,his11,hws11,c12,g12,b13]
           exact hNs11 () () h (weakL (by simp -implicitDefEqProofs only[go_sem,b1,b2,his3,hws3,c4,g4,b5,b6,his7,hws7,c8,g8,b9,b10,his11,hws11,c12,g12,b13]<;>((repeat' apply And.intro)<;>rfl)))
         ·intro i11 s11 g11 Rs11 hes11 h
          have hns11:¬ (i11<e8.names.length):=by omega
          try dsimp only at h
          try simp -implicitDefEqProofs only[go_sem,b1,b2,his3,hws3,c4,g4,b5,b6,his7,hws7,c8,g8,b9,b10,hns11]
          exact hNs7 () () h (weakL (by simp -implicitDefEqProofs only[go_sem,b1,b2,his3,hws3,c4,g4,b5,b6,his7,hws7,c8,g8,b9,b10,hns11]<;>((repeat' apply And.intro)<;>rfl)))
      ·intro i7 s7 g7 Rs7 hes7 h
       have hns7:¬ (i7<e4.attrs.length):=by omega
       try dsimp only at h
       try simp -implicitDefEqProofs only[go_sem,b1,b2,his3,hws3,c4,g4,b5,b6,hns7]
       exact hNs3 (IntKind.i64.wrap (s3+((e4.attrs.length:Nat):Int))) () h (weakL (by simp -implicitDefEqProofs only[go_sem,b1,b2,his3,hws3,c4,g4,b5,b6,hns7]<;>((repeat' apply And.intro)<;>rfl)))
   ·intro i3 s3 g3 Rs3 hes3 h
    have hns3:¬ (i3<a0.nodes.length):=by omega
    try dsimp only at h
    obtain⟨fus14,h⟩:=zbg h
    unfold fuel at fus14
    try simp -implicitDefEqProofs only[go_sem,b1,b2,hns3]
    refine zbe (fun x:(Nat×(Unit))×(Unit)=>envL [(1,.ptr 1 0),(8,.p (.val (.int .i64 ((x.1.1:Nat):Int))))]) (fun x=>heapL [(1,.box [.p (.lst (a0.nodes.map encNode)),.p (.lst (a0.edges.map encEdgeT))])]) () h (weakL (by simp -implicitDefEqProofs only[go_sem,b1,b2,hns3]<;>((repeat' apply And.intro)<;>rfl))) ?_ ?_
    ·intro i14 s14 g14 nxts14 Rs14 his14 hNs14 h
     have hws14:=zt (k:=i14) his14 (by omega)
     try dsimp only at h
     obtain⟨e15,c15,g15,q15,h⟩:=zbu encEdgeT h
     try simp -implicitDefEqProofs only[go_sem,b1,b2,hns3,his14,hws14,c15,g15]
     refine zc (fun b16=>?_) (fun b16=>?_)
     ·replace h:=zd h b16
      cases h
      try simp -implicitDefEqProofs only[go_sem,b1,b2,hns3,his14,hws14,c15,g15,b16]
      all_goals((repeat' apply And.intro)<;>rfl)
     ·replace h:=ze h b16
      try simp -implicitDefEqProofs only[go_sem,b1,b2,hns3,his14,hws14,c15,g15,b16]
      exact hNs14 () () h (weakL (by simp -implicitDefEqProofs only[go_sem,b1,b2,hns3,his14,hws14,c15,g15,b16]<;>((repeat' apply And.intro)<;>rfl)))
    ·intro i14 s14 g14 Rs14 hes14 h
     have hns14:¬ (i14<a0.edges.length):=by omega
     try dsimp only at h
     cases h
     try simp -implicitDefEqProofs only[go_sem,b1,b2,hns3,hns14]
     all_goals((repeat' apply And.intro)<;>rfl)

theorem zgb (a0:zp) (r:Bool) (h:zc1 a0=some r):zh Tryz.prog 277 [.agg (zz a0)] (fun v=>v = .val (.bool r)):=by
 refine zh.ple ?_
 refine zf [] Ty.mixed Tryz.func277 rfl (by kernel_rfl) (by simp[Tryz.ntmps277]) ?_; rw[Tryz.ntmps277,Tryz.results277]
 unfold zc1 at h
 try simp -implicitDefEqProofs only[go_sem]
 refine zq (fun b1=>?_) (fun b1=>?_)
 ·replace h:=zd h b1
  try simp -implicitDefEqProofs only[go_sem,b1]
  refine zq (fun b2=>?_) (fun b2=>?_)
  ·replace h:=zd h b2
   cases h
   try simp -implicitDefEqProofs only[go_sem,b1,b2]
   all_goals((repeat' apply And.intro)<;>rfl)
  ·replace h:=ze h b2
   cases h
   try simp -implicitDefEqProofs only[go_sem,b1,b2]
   all_goals((repeat' apply And.intro)<;>rfl)
 ·replace h:=ze h b1
  cases h
  try simp -implicitDefEqProofs only[go_sem,b1]
  all_goals((repeat' apply And.intro)<;>rfl)

theorem zng (a0:z7) (a1:Int) (r:Bool) (h:ze1 a0 a1=some r):zh Tryz.prog 262 [.agg (zb2 a0),.val (.int .i64 a1)] (fun v=>v = .val (.bool r)):=by
 refine zh.ple ?_
 refine zf [] Ty.mixed Tryz.func262 rfl (by kernel_rfl) (by simp[Tryz.ntmps262]) ?_; rw[Tryz.ntmps262,Tryz.results262]
 unfold ze1 at h
 obtain⟨fus2,h⟩:=zbg h
 unfold fuel at fus2
 try simp -implicitDefEqProofs only[go_sem]
 refine zbe (fun x:(Nat×(Unit))×(Unit)=>envL [(1,.p (.val (.int .i64 a1))),(2,.ptr 2 0),(5,.p (.val (.int .i64 ((x.1.1:Nat):Int))))]) (fun x=>heapL [(2,.box ((zb2 a0).map .p))]) () h (weakL (by simp -implicitDefEqProofs only[go_sem]<;>((repeat' apply And.intro)<;>rfl))) ?_ ?_
 ·intro i2 s2 g2 nxts2 Rs2 his2 hNs2 h
  have hws2:=zt (k:=i2) his2 (by omega)
  try dsimp only at h
  obtain⟨e3,c3,g3,q3,h⟩:=zbu zbs h
  try simp -implicitDefEqProofs only[go_sem,his2,hws2,c3,g3]
  refine zc (fun b4=>?_) (fun b4=>?_)
  ·replace h:=zd h b4
   cases h
   try simp -implicitDefEqProofs only[go_sem,his2,hws2,c3,g3,b4]
   all_goals((repeat' apply And.intro)<;>rfl)
  ·replace h:=ze h b4
   try simp -implicitDefEqProofs only[go_sem,his2,hws2,c3,g3,b4]
   exact hNs2 () () h (weakL (by simp -implicitDefEqProofs only[go_sem,his2,hws2,c3,g3,b4]<;>((repeat' apply And.intro)<;>rfl)))
 ·intro i2 s2 g2 Rs2 hes2 h
  have hns2:¬ (i2<a0.slots.length):=by omega
  try dsimp only at h
  cases h
  try simp -implicitDefEqProofs only[go_sem,hns2]
  all_goals((repeat' apply And.intro)<;>rfl)

theorem zk7 (a0:Int) (a1:Int) (a2:Int) (r:Bool) (h:zf8 a0 a1 a2=some r):zh Tryz.prog 107 [.val (.int .i64 a0),.val (.int .i64 a1),.val (.int .i64 a2)] (fun v=>v = .val (.bool r)):=by
 refine zh.ple ?_
 refine zf [] Ty.mixed Tryz.func107 rfl (by kernel_rfl) (by simp[Tryz.ntmps107]) ?_; rw[Tryz.ntmps107,Tryz.results107]
 unfold zf8 at h
 try simp -implicitDefEqProofs only[go_sem]
 refine zq (fun b3=>?_) (fun b3=>?_)
 ·replace h:=zd h b3
  cases h
  try simp -implicitDefEqProofs only[go_sem,b3]
  all_goals((repeat' apply And.intro)<;>rfl)
 ·replace h:=ze h b3
  cases h
  try simp -implicitDefEqProofs only[go_sem,b3]
  all_goals((repeat' apply And.intro)<;>rfl)

theorem w_scarfjointref40_in (a0:List Int) (r:Bool) (h:zk3 a0=some r):zh Tryz.prog 48 [.lst (a0.map encI)] (fun v=>v = .val (.bool r)):=by
 refine zh.ple ?_
 refine zf [] Ty.mixed Tryz.func48 rfl (by kernel_rfl) (by simp[Tryz.ntmps48]) ?_; rw[Tryz.ntmps48,Tryz.results48]
 unfold zk3 at h
 obtain⟨fus1,h⟩:=zbg h
 unfold fuel at fus1
 try simp -implicitDefEqProofs only[go_sem]
 refine zbe (fun x:(Nat×(Unit))×(Unit)=>envL [(0,.p (.lst (a0.map encI))),(3,.p (.val (.int .i64 ((x.1.1:Nat):Int))))]) (fun x=>heapL []) () h (weakL (by simp -implicitDefEqProofs only[go_sem]<;>((repeat' apply And.intro)<;>rfl))) ?_ ?_
 ·intro i1 s1 g1 nxts1 Rs1 his1 hNs1 h
  have hws1:=zt (k:=i1) his1 (by omega)
  try dsimp only at h
  obtain⟨e2,c2,g2,q2,h⟩:=zbu encI h
  try simp -implicitDefEqProofs only[go_sem,his1,hws1,c2,g2]
  refine zw (fun b3=>?_) (fun b3=>?_)
  ·replace h:=zd h b3
   cases h
   try simp -implicitDefEqProofs only[go_sem,his1,hws1,c2,g2,b3]
   all_goals((repeat' apply And.intro)<;>rfl)
  ·replace h:=ze h b3
   try simp -implicitDefEqProofs only[go_sem,his1,hws1,c2,g2,b3]
   refine zc (fun b4=>?_) (fun b4=>?_)
   ·replace h:=zd h b4
    cases h
    try simp -implicitDefEqProofs only[go_sem,his1,hws1,c2,g2,b3,b4]
    all_goals((repeat' apply And.intro)<;>rfl)
   ·replace h:=ze h b4
    try simp -implicitDefEqProofs only[go_sem,his1,hws1,c2,g2,b3,b4]
    exact hNs1 () () h (weakL (by simp -implicitDefEqProofs only[go_sem,his1,hws1,c2,g2,b3,b4]<;>((repeat' apply And.intro)<;>rfl)))
 ·intro i1 s1 g1 Rs1 hes1 h
  have hns1:¬ (i1<a0.length):=by omega
  try dsimp only at h
  cases h
  try simp -implicitDefEqProofs only[go_sem,hns1]
  all_goals((repeat' apply And.intro)<;>rfl)

theorem zid (a0:List Int) (a1:Int) (r:Bool) (h:zc4 a0 a1=some r):zh Tryz.prog 67 [.lst (a0.map encI),.val (.int .i64 a1)] (fun v=>v = .val (.bool r)):=by
 refine zh.ple ?_
 refine zf [] Ty.mixed Tryz.func67 rfl (by kernel_rfl) (by simp[Tryz.ntmps67]) ?_; rw[Tryz.ntmps67,Tryz.results67]
 unfold zc4 at h
 obtain⟨fus2,h⟩:=zbg h
 unfold fuel at fus2
 try simp -implicitDefEqProofs only[go_sem]
 refine zbe (fun x:(Nat×(Unit))×(Unit)=>envL [(0,.p (.lst (a0.map encI))),(1,.p (.val (.int .i64 a1))),(5,.p (.val (.int .i64 ((x.1.1:Nat):Int))))]) (fun x=>heapL []) () h (weakL (by simp -implicitDefEqProofs only[go_sem]<;>((repeat' apply And.intro)<;>rfl))) ?_ ?_
 ·intro i2 s2 g2 nxts2 Rs2 his2 hNs2 h
  have hws2:=zt (k:=i2) his2 (by omega)
  try dsimp only at h
  obtain⟨e3,c3,g3,q3,h⟩:=zbu encI h
  try simp -implicitDefEqProofs only[go_sem,his2,hws2,c3,g3]
  refine zc (fun b4=>?_) (fun b4=>?_)
  ·replace h:=zd h b4
   cases h
   try simp -implicitDefEqProofs only[go_sem,his2,hws2,c3,g3,b4]
   all_goals((repeat' apply And.intro)<;>rfl)
  ·replace h:=ze h b4
   try simp -implicitDefEqProofs only[go_sem,his2,hws2,c3,g3,b4]
   exact hNs2 () () h (weakL (by simp -implicitDefEqProofs only[go_sem,his2,hws2,c3,g3,b4]<;>((repeat' apply And.intro)<;>rfl)))
 ·intro i2 s2 g2 Rs2 hes2 h
  have hns2:¬ (i2<a0.length):=by omega
  try dsimp only at h
  cases h
  try simp -implicitDefEqProofs only[go_sem,hns2]
  all_goals((repeat' apply And.intro)<;>rfl)
theorem zq1 (a0:List Bool) (a1:Bool) (r:Int) (h:zhl a0 a1=some r):zh Tryz.prog 235 [.lst (a0.map zk2),.val (.bool a1)] (fun v=>v = .val (.int .i64 r)):=by
 refine zh.ple ?_
 refine zf [] Ty.mixed Tryz.func235 rfl (by kernel_rfl) (by simp[Tryz.ntmps235]) ?_; rw[Tryz.ntmps235,Tryz.results235]
 unfold zhl at h
 obtain⟨fus2,h⟩:=zbg h
 unfold fuel at fus2
 try simp -implicitDefEqProofs only[go_sem]
 refine zbe (fun x:(Nat×(Unit))×(Unit)=>envL [(0,.p (.lst (a0.map zk2))),(1,.p (.val (.bool a1))),(7,.p (.val (.int .i64 ((a0.length:Nat):Int)))),(8,.p (.val (.int .i64 ((x.1.1:Nat):Int))))]) (fun x=>heapL []) () h (weakL (by simp -implicitDefEqProofs only[go_sem]<;>((repeat' apply And.intro)<;>rfl))) ?_ ?_
 ·intro i2 s2 g2 nxts2 Rs2 his2 hNs2 h
  have hws2:=zt (k:=i2) his2 (by omega)
  try dsimp only at h
  obtain⟨e3,c3,g3,q3,h⟩:=zbu zk2 h
  try simp -implicitDefEqProofs only[go_sem,his2,hws2,c3,g3]
  refine zc (fun b4=>?_) (fun b4=>?_)
  ·replace h:=zd h b4
   cases h
   try simp -implicitDefEqProofs only[go_sem,his2,hws2,c3,g3,b4]
   all_goals((repeat' apply And.intro)<;>rfl)
  ·replace h:=ze h b4
   try simp -implicitDefEqProofs only[go_sem,his2,hws2,c3,g3,b4]
   exact hNs2 () () h (weakL (by simp -implicitDefEqProofs only[go_sem,his2,hws2,c3,g3,b4]<;>((repeat' apply And.intro)<;>rfl)))
 ·intro i2 s2 g2 Rs2 hes2 h
  have hns2:¬ (i2<a0.length):=by omega
  try dsimp only at h
  cases h
  try simp -implicitDefEqProofs only[go_sem,hns2]
  all_goals((repeat' apply And.intro)<;>rfl)

theorem ztg (a0:Int) (a1:z8) (a2:zl) (r:Bool) (h:zgn a0 a1 a2=some r):zh Tryz.prog 195 [.val (.int .i64 a0),.eptr [.lst (a1.nodes.map encI),.lst (a1.edges.map encEdge)] 0,.eptr [.lst (a2.nodes.map encNode),.lst (a2.edges.map encEdgeT)] 0] (fun v=>v = .val (.bool r)):=by
 refine zh.ple ?_
 refine zf [] Ty.mixed Tryz.func195 rfl (by kernel_rfl) (by simp[Tryz.ntmps195]) ?_; rw[Tryz.ntmps195,Tryz.results195]
 unfold zgn at h
 obtain⟨e3,c3a,c3b,g3,q3,h⟩:=zce encEdge h
 have c3n:=zbv c3a c3b
 try simp -implicitDefEqProofs only[go_sem,c3a,c3b,c3n,g3]
 refine zbn [.q,.q,.q,.q,.q,.q,.q,.q,.q,.q,.q,.q,.q,.q,.q,.q,.q,.q] (by kernel_rfl) ?_
 obtain⟨e4,c4a,c4b,g4,q4,h⟩:=zce encI h
 have c4n:=zbv c4a c4b
 obtain⟨e5,c5a,c5b,g5,q5,h⟩:=zce encI h
 have c5n:=zbv c5a c5b
 obtain⟨r6,hr6,h⟩:=zm h
 try simp -implicitDefEqProofs only[go_sem,c3a,c3b,c3n,g3,c4a,c4b,c4n,g4,c5a,c5b,c5n,g5]
 refine calldG (zzp a2 e3.type e4 e5 r6 hr6) (by simp -implicitDefEqProofs only[go_sem,c3a,c3b,c3n,g3,c4a,c4b,c4n,g4,c5a,c5b,c5n,g5]<;>rfl) (zb _) (by first | exact pers | exact scal rfl) ?_
 cases h
 try simp -implicitDefEqProofs only[go_sem,c3a,c3b,c3n,g3,c4a,c4b,c4n,g4,c5a,c5b,c5n,g5]
 all_goals((repeat' apply And.intro)<;>rfl)

theorem zir (a0:zp) (r:Bool) (h:zet a0=some r):zh Tryz.prog 272 [.agg (zz a0)] (fun v=>v = .val (.bool r)):=by
 refine zh.ple ?_
 refine zf [] Ty.mixed Tryz.func272 rfl (by kernel_rfl) (by simp[Tryz.ntmps272]) ?_; rw[Tryz.ntmps272,Tryz.results272]
 unfold zet at h
 try simp -implicitDefEqProofs only[go_sem]
 refine zq (fun b1=>?_) (fun b1=>?_)
 ·replace h:=zd h b1
  cases h
  try simp -implicitDefEqProofs only[go_sem,b1]
  all_goals((repeat' apply And.intro)<;>rfl)
 ·replace h:=ze h b1
  cases h
  try simp -implicitDefEqProofs only[go_sem,b1]
  all_goals((repeat' apply And.intro)<;>rfl)

theorem zlz (a0:List zd0) (p1:zd0→Option Bool) (k1:FuncId) (fs1 cs1:List PV) (hp1:∀x0 r,p1 x0=some r→zh Tryz.prog k1 (fs1++[.agg (encNode x0)]++cs1) (fun v=>v = .val (.bool r))) (r:Int) (h:zd9 a0 p1=some r):zh Tryz.prog 118 [.lst (a0.map encNode),.clo (.func k1) fs1 cs1] (fun v=>v = .val (.int .i64 r)):=by
 refine zh.ple ?_
 refine zf [] Ty.mixed Tryz.func118 rfl (by kernel_rfl) (by simp[Tryz.ntmps118]) ?_; rw[Tryz.ntmps118,Tryz.results118]
 unfold zd9 at h
 obtain⟨fus2,h⟩:=zbg h
 unfold fuel at fus2
 try simp -implicitDefEqProofs only[go_sem]
 refine zbe (fun x:(Nat×(Unit))×(Unit)=>envL [(0,.p (.lst (a0.map encNode))),(1,.p (.clo (.func k1) fs1 cs1)),(7,.p (.val (.int .i64 ((a0.length:Nat):Int)))),(8,.p (.val (.int .i64 ((x.1.1:Nat):Int))))]) (fun x=>heapL []) () h (weakL (by simp -implicitDefEqProofs only[go_sem]<;>((repeat' apply And.intro)<;>rfl))) ?_ ?_
 ·intro i2 s2 g2 nxts2 Rs2 his2 hNs2 h
  have hws2:=zt (k:=i2) his2 (by omega)
  try dsimp only at h
  obtain⟨e3,c3,g3,q3,h⟩:=zbu encNode h
  obtain⟨r4,hr4,h⟩:=zm h
  try simp -implicitDefEqProofs only[go_sem,his2,hws2,c3,g3]
  refine callG (hp1 e3 r4 hr4) (by simp -implicitDefEqProofs only[go_sem,his2,hws2,c3,g3,zfx,zfq,Bool.or_false,Bool.false_or]<;>rfl) (zb _) (by first | exact pers | exact scal rfl) ?_
  try simp -implicitDefEqProofs only[go_sem,his2,hws2,c3,g3]
  refine zc (fun b5=>?_) (fun b5=>?_)
  ·replace h:=zd h b5
   cases h
   try simp -implicitDefEqProofs only[go_sem,his2,hws2,c3,g3,b5]
   all_goals((repeat' apply And.intro)<;>rfl)
  ·replace h:=ze h b5
   try simp -implicitDefEqProofs only[go_sem,his2,hws2,c3,g3,b5]
   exact hNs2 () () h (weakL (by simp -implicitDefEqProofs only[go_sem,his2,hws2,c3,g3,b5]<;>((repeat' apply And.intro)<;>rfl)))
 ·intro i2 s2 g2 Rs2 hes2 h
  have hns2:¬ (i2<a0.length):=by omega
  try dsimp only at h
  cases h
  try simp -implicitDefEqProofs only[go_sem,hns2]
  all_goals((repeat' apply And.intro)<;>rfl)

theorem zg8 (a0:List zo) (p1:zo→Option Bool) (k1:FuncId) (fs1 cs1:List PV) (hp1:∀x0 r,p1 x0=some r→zh Tryz.prog k1 (fs1++[.agg [.lst (x0.deletes.map encI),.lst (x0.creates.map encI)]]++cs1) (fun v=>v = .val (.bool r))) (r:Int) (h:zcm a0 p1=some r):zh Tryz.prog 30 [.lst (a0.map zbd),.clo (.func k1) fs1 cs1] (fun v=>v = .val (.int .i64 r)):=by
 refine zh.ple ?_
 refine zf [] Ty.mixed Tryz.func30 rfl (by kernel_rfl) (by simp[Tryz.ntmps30]) ?_; rw[Tryz.ntmps30,Tryz.results30]
 unfold zcm at h
 obtain⟨fus2,h⟩:=zbg h
 unfold fuel at fus2
 try simp -implicitDefEqProofs only[go_sem]
 refine zbe (fun x:(Nat×(Unit))×(Unit)=>envL [(0,.p (.lst (a0.map zbd))),(1,.p (.clo (.func k1) fs1 cs1)),(7,.p (.val (.int .i64 ((a0.length:Nat):Int)))),(8,.p (.val (.int .i64 ((x.1.1:Nat):Int))))]) (fun x=>heapL []) () h (weakL (by simp -implicitDefEqProofs only[go_sem]<;>((repeat' apply And.intro)<;>rfl))) ?_ ?_
 ·intro i2 s2 g2 nxts2 Rs2 his2 hNs2 h
  have hws2:=zt (k:=i2) his2 (by omega)
  try dsimp only at h
  obtain⟨e3,c3,g3,q3,h⟩:=zbu zbd h
  obtain⟨r4,hr4,h⟩:=zm h
  try simp -implicitDefEqProofs only[go_sem,his2,hws2,c3,g3]
  refine callG (hp1 e3 r4 hr4) (by simp -implicitDefEqProofs only[go_sem,his2,hws2,c3,g3,zfx,zfq,Bool.or_false,Bool.false_or]<;>rfl) (zb _) (by first | exact pers | exact scal rfl) ?_
  try simp -implicitDefEqProofs only[go_sem,his2,hws2,c3,g3]
  refine zc (fun b5=>?_) (fun b5=>?_)
  ·replace h:=zd h b5
   cases h
   try simp -implicitDefEqProofs only[go_sem,his2,hws2,c3,g3,b5]
   all_goals((repeat' apply And.intro)<;>rfl)
  ·replace h:=ze h b5
   try simp -implicitDefEqProofs only[go_sem,his2,hws2,c3,g3,b5]
   exact hNs2 () () h (weakL (by simp -implicitDefEqProofs only[go_sem,his2,hws2,c3,g3,b5]<;>((repeat' apply And.intro)<;>rfl)))
 ·intro i2 s2 g2 Rs2 hes2 h
  have hns2:¬ (i2<a0.length):=by omega
  try dsimp only at h
  cases h
  try simp -implicitDefEqProofs only[go_sem,hns2]
  all_goals((repeat' apply And.intro)<;>rfl)

theorem zrf (a0:zo) (r:Bool) (h:zgs a0=some r):zh Tryz.prog 69 [.agg [.lst (a0.deletes.map encI),.lst (a0.creates.map encI)]] (fun v=>v = .val (.bool r)):=by
 refine zh.ple ?_
 refine zf [] Ty.mixed Tryz.func69 rfl (by kernel_rfl) (by simp[Tryz.ntmps69]) ?_; rw[Tryz.ntmps69,Tryz.results69]
 unfold zgs at h
 cases h
 try simp -implicitDefEqProofs only[go_sem]
 all_goals((repeat' apply And.intro)<;>rfl)

theorem zkw (a0:zby) (a1:Int) (r:Bool) (h:zes a0 a1=some r):zh Tryz.prog 56 [.agg [.lst (a0.nodes.map encI),.lst (a0.edges.map encI)],.val (.int .i64 a1)] (fun v=>v = .val (.bool r)):=by
 refine zh.ple ?_
 refine zf [] Ty.mixed Tryz.func56 rfl (by kernel_rfl) (by simp[Tryz.ntmps56]) ?_; rw[Tryz.ntmps56,Tryz.results56]
 unfold zes at h
 cases h
 try simp -implicitDefEqProofs only[go_sem]
 all_goals((repeat' apply And.intro)<;>rfl)

theorem zj2 (a0:zl) (a1:z8) (r:Bool) (h:zeb a0 a1=some r):zh Tryz.prog 161 [.agg [.lst (a0.nodes.map encNode),.lst (a0.edges.map encEdgeT)],.agg [.lst (a1.nodes.map encI),.lst (a1.edges.map encEdge)]] (fun v=>v = .val (.bool r)):=by
 refine zh.ple ?_
 refine zf [] Ty.mixed Tryz.func161 rfl (by kernel_rfl) (by simp[Tryz.ntmps161]) ?_; rw[Tryz.ntmps161,Tryz.results161]
 unfold zeb at h
 obtain⟨fus2,h⟩:=zbg h
 unfold fuel at fus2
 try simp -implicitDefEqProofs only[go_sem]
 refine zbe (fun x:(Nat×(Unit))×(Unit)=>envL [(2,.ptr 2 0),(3,.ptr 3 0),(5,.p (.val (.int .i64 ((x.1.1:Nat):Int))))]) (fun x=>heapL [(2,.box [.p (.lst (a0.nodes.map encNode)),.p (.lst (a0.edges.map encEdgeT))]),(3,.box [.p (.lst (a1.nodes.map encI)),.p (.lst (a1.edges.map encEdge))])]) () h (weakL (by simp -implicitDefEqProofs only[go_sem]<;>((repeat' apply And.intro)<;>rfl))) ?_ ?_
 ·intro i2 s2 g2 nxts2 Rs2 his2 hNs2 h
  have hws2:=zt (k:=i2) his2 (by omega)
  try dsimp only at h
  try simp -implicitDefEqProofs only[go_sem,his2,hws2]
  refine zbn [.q,.q,.q,.q,.q,.q,.q,.q,.q,.q,.q,.q,.q,.q,.q,.q,.q] (by kernel_rfl) ?_
  obtain⟨e3,c3,g3,q3,h⟩:=zbu encI h
  try simp -implicitDefEqProofs only[go_sem,his2,hws2,c3,g3]
  refine zfm (fun b4=>?_) (fun b4=>?_)
  ·replace h:=zd h b4
   cases h
   try simp -implicitDefEqProofs only[go_sem,his2,hws2,c3,g3,b4]
   all_goals((repeat' apply And.intro)<;>rfl)
  ·replace h:=ze h b4
   try simp -implicitDefEqProofs only[go_sem,his2,hws2,c3,g3,b4]
   refine zc (fun b5=>?_) (fun b5=>?_)
   ·replace h:=zd h b5
    cases h
    try simp -implicitDefEqProofs only[go_sem,his2,hws2,c3,g3,b4,b5]
    all_goals((repeat' apply And.intro)<;>rfl)
   ·replace h:=ze h b5
    try simp -implicitDefEqProofs only[go_sem,his2,hws2,c3,g3,b4,b5]
    exact hNs2 () () h (weakL (by simp -implicitDefEqProofs only[go_sem,his2,hws2,c3,g3,b4,b5]<;>((repeat' apply And.intro)<;>rfl)))
 ·intro i2 s2 g2 Rs2 hes2 h
  have hns2:¬ (i2<a1.nodes.length):=by omega
  try dsimp only at h
  obtain⟨fus6,h⟩:=zbg h
  unfold fuel at fus6
  try simp -implicitDefEqProofs only[go_sem,hns2]
  refine zbe (fun x:(Nat×(Unit))×(Unit)=>envL [(2,.ptr 2 0),(3,.ptr 3 0),(6,.p (.val (.int .i64 ((x.1.1:Nat):Int))))]) (fun x=>heapL [(2,.box [.p (.lst (a0.nodes.map encNode)),.p (.lst (a0.edges.map encEdgeT))]),(3,.box [.p (.lst (a1.nodes.map encI)),.p (.lst (a1.edges.map encEdge))])]) () h (weakL (by simp -implicitDefEqProofs only[go_sem,hns2]<;>((repeat' apply And.intro)<;>rfl))) ?_ ?_
  ·intro i6 s6 g6 nxts6 Rs6 his6 hNs6 h
   have hws6:=zt (k:=i6) his6 (by omega)
   try dsimp only at h
   try simp -implicitDefEqProofs only[go_sem,hns2,his6,hws6]
   refine zbn [.q,.q,.q,.q,.q,.q,.q,.q,.q,.q,.q,.q,.q,.q,.q,.q,.q,.q,.q] (by kernel_rfl) ?_
   obtain⟨e7,c7,g7,q7,h⟩:=zbu encEdge h
   try simp -implicitDefEqProofs only[go_sem,hns2,his6,hws6,c7,g7]
   refine zfm (fun b8=>?_) (fun b8=>?_)
   ·replace h:=zd h b8
    cases h
    try simp -implicitDefEqProofs only[go_sem,hns2,his6,hws6,c7,g7,b8]
    all_goals((repeat' apply And.intro)<;>rfl)
   ·replace h:=ze h b8
    try simp -implicitDefEqProofs only[go_sem,hns2,his6,hws6,c7,g7,b8]
    refine zc (fun b9=>?_) (fun b9=>?_)
    ·replace h:=zd h b9
     cases h
     try simp -implicitDefEqProofs only[go_sem,hns2,his6,hws6,c7,g7,b8,b9]
     all_goals((repeat' apply And.intro)<;>rfl)
    ·replace h:=ze h b9
     try simp -implicitDefEqProofs only[go_sem,hns2,his6,hws6,c7,g7,b8,b9]
     exact hNs6 () () h (weakL (by simp -implicitDefEqProofs only[go_sem,hns2,his6,hws6,c7,g7,b8,b9]<;>((repeat' apply And.intro)<;>rfl)))
  ·intro i6 s6 g6 Rs6 hes6 h
   have hns6:¬ (i6<a1.edges.length):=by omega
   try dsimp only at h
   cases h
   try simp -implicitDefEqProofs only[go_sem,hns2,hns6]
   all_goals((repeat' apply And.intro)<;>rfl)

theorem zoi (a0:zl) (a1:z7) (a2:Int) (r:Int) (h:zdx a0 a1 a2=some r):zh Tryz.prog 166 [.agg [.lst (a0.nodes.map encNode),.lst (a0.edges.map encEdgeT)],.agg (zb2 a1),.val (.int .i64 a2)] (fun v=>v = .val (.int .i64 r)):=by
 refine zh.ple ?_
 refine zf [] Ty.mixed Tryz.func166 rfl (by kernel_rfl) (by simp[Tryz.ntmps166]) ?_; rw[Tryz.ntmps166,Tryz.results166]
 unfold zdx at h
 obtain⟨e3,c3a,c3b,g3,q3,h⟩:=zce zbs h
 have c3n:=zbv c3a c3b
 try simp -implicitDefEqProofs only[go_sem,c3a,c3b,c3n,g3]
 refine zw (fun b4=>?_) (fun b4=>?_)
 ·replace h:=zd h b4
  cases h
  try simp -implicitDefEqProofs only[go_sem,c3a,c3b,c3n,g3,b4]
  all_goals((repeat' apply And.intro)<;>rfl)
 ·replace h:=ze h b4
  try simp -implicitDefEqProofs only[go_sem,c3a,c3b,c3n,g3,b4]
  refine zc (fun b5=>?_) (fun b5=>?_)
  ·replace h:=zd h b5
   cases h
   try simp -implicitDefEqProofs only[go_sem,c3a,c3b,c3n,g3,b4,b5]
   all_goals((repeat' apply And.intro)<;>rfl)
  ·replace h:=ze h b5
   try simp -implicitDefEqProofs only[go_sem,c3a,c3b,c3n,g3,b4,b5]
   refine zbn [.q,.q,.q,.q,.q,.q,.q,.q,.q,.q,.q,.q,.q,.q] (by kernel_rfl) ?_
   obtain⟨e6,c6a,c6b,g6,q6,h⟩:=zce encI h
   have c6n:=zbv c6a c6b
   obtain⟨r7,hr7,h⟩:=zm h
   try simp -implicitDefEqProofs only[go_sem,c3a,c3b,c3n,g3,b4,b5,c6a,c6b,c6n,g6]
   refine calldG (zj3 a0 e6 r7 hr7) (by simp -implicitDefEqProofs only[go_sem,c3a,c3b,c3n,g3,b4,b5,c6a,c6b,c6n,g6]<;>rfl) (zb _) (by first | exact pers | exact scal rfl) ?_
   try simp -implicitDefEqProofs only[go_sem,c3a,c3b,c3n,g3,b4,b5,c6a,c6b,c6n,g6]
   refine zw (fun b8=>?_) (fun b8=>?_)
   ·replace h:=zd h b8
    cases h
    try simp -implicitDefEqProofs only[go_sem,c3a,c3b,c3n,g3,b4,b5,c6a,c6b,c6n,g6,b8]
    all_goals((repeat' apply And.intro)<;>rfl)
   ·replace h:=ze h b8
    try simp -implicitDefEqProofs only[go_sem,c3a,c3b,c3n,g3,b4,b5,c6a,c6b,c6n,g6,b8]
    refine zw (fun b9=>?_) (fun b9=>?_)
    ·replace h:=zd h b9
     cases h
     try simp -implicitDefEqProofs only[go_sem,c3a,c3b,c3n,g3,b4,b5,c6a,c6b,c6n,g6,b8,b9]
     all_goals((repeat' apply And.intro)<;>rfl)
    ·replace h:=ze h b9
     try simp -implicitDefEqProofs only[go_sem,c3a,c3b,c3n,g3,b4,b5,c6a,c6b,c6n,g6,b8,b9]
     refine zw (fun b10=>?_) (fun b10=>?_)
     ·replace h:=zd h b10
      cases h
      try simp -implicitDefEqProofs only[go_sem,c3a,c3b,c3n,g3,b4,b5,c6a,c6b,c6n,g6,b8,b9,b10]
      all_goals((repeat' apply And.intro)<;>rfl)
     ·replace h:=ze h b10
      try simp -implicitDefEqProofs only[go_sem,c3a,c3b,c3n,g3,b4,b5,c6a,c6b,c6n,g6,b8,b9,b10]
      refine zw (fun b11=>?_) (fun b11=>?_)
      ·replace h:=zd h b11
       cases h
       try simp -implicitDefEqProofs only[go_sem,c3a,c3b,c3n,g3,b4,b5,c6a,c6b,c6n,g6,b8,b9,b10,b11]
       all_goals((repeat' apply And.intro)<;>rfl)
      ·replace h:=ze h b11
       try simp -implicitDefEqProofs only[go_sem,c3a,c3b,c3n,g3,b4,b5,c6a,c6b,c6n,g6,b8,b9,b10,b11]
       refine zw (fun b12=>?_) (fun b12=>?_)
       ·replace h:=zd h b12
        cases h
        try simp -implicitDefEqProofs only[go_sem,c3a,c3b,c3n,g3,b4,b5,c6a,c6b,c6n,g6,b8,b9,b10,b11,b12]
        all_goals((repeat' apply And.intro)<;>rfl)
       ·replace h:=ze h b12
        try simp -implicitDefEqProofs only[go_sem,c3a,c3b,c3n,g3,b4,b5,c6a,c6b,c6n,g6,b8,b9,b10,b11,b12]
        refine zc (fun b13=>?_) (fun b13=>?_)
        ·replace h:=zd h b13
         cases h
         try simp -implicitDefEqProofs only[go_sem,c3a,c3b,c3n,g3,b4,b5,c6a,c6b,c6n,g6,b8,b9,b10,b11,b12,b13]
         all_goals((repeat' apply And.intro)<;>rfl)
        ·replace h:=ze h b13
         obtain⟨fus14,h⟩:=zbg h
         unfold fuel at fus14
         try simp -implicitDefEqProofs only[go_sem,c3a,c3b,c3n,g3,b4,b5,c6a,c6b,c6n,g6,b8,b9,b10,b11,b12,b13]
         refine zbe (fun x:(Nat×(Unit))×(Unit)=>envL [(2,.p (.val (.int .i64 a2))),(4,.ptr 4 0),(7,.ptr 7 0),(10,.p (.val (.int .i64 ((x.1.1:Nat):Int))))]) (fun x=>heapL [(4,.box ((zb2 a1).map .p)),(7,.box ((zbs e3).map .p))]) () h (weakL (by simp -implicitDefEqProofs only[go_sem,c3a,c3b,c3n,g3,b4,b5,c6a,c6b,c6n,g6,b8,b9,b10,b11,b12,b13]<;>((repeat' apply And.intro)<;>rfl))) ?_ ?_
         ·intro i14 s14 g14 nxts14 Rs14 his14 hNs14 h
          have hws14:=zt (k:=i14) his14 (by omega)
          have hjs14:((i14:Nat):Int)<a2:=by omega
          try dsimp only at h
          try simp -implicitDefEqProofs only[go_sem,c3a,c3b,c3n,g3,b4,b5,c6a,c6b,c6n,g6,b8,b9,b10,b11,b12,b13,his14,hws14,hjs14]
          refine zbn [.q,.q,.q,.q,.q,.q,.q,.q,.q,.q,.q,.q,.q,.q,.q,.q,.q,.q,.q,.q] (by kernel_rfl) ?_
          obtain⟨e15,c15,g15,q15,h⟩:=zbu zbs h
          try simp -implicitDefEqProofs only[go_sem,c3a,c3b,c3n,g3,b4,b5,c6a,c6b,c6n,g6,b8,b9,b10,b11,b12,b13,his14,hws14,hjs14,c15,g15]
          refine zdi (fun b16=>?_) (fun b16=>?_)
          ·replace h:=zd h b16
           try simp -implicitDefEqProofs only[go_sem,c3a,c3b,c3n,g3,b4,b5,c6a,c6b,c6n,g6,b8,b9,b10,b11,b12,b13,his14,hws14,hjs14,c15,g15,b16]
           refine zc (fun b17=>?_) (fun b17=>?_)
           ·replace h:=zd h b17
            cases h
            try simp -implicitDefEqProofs only[go_sem,c3a,c3b,c3n,g3,b4,b5,c6a,c6b,c6n,g6,b8,b9,b10,b11,b12,b13,his14,hws14,hjs14,c15,g15,b16,b17]
            all_goals((repeat' apply And.intro)<;>rfl)
           ·replace h:=ze h b17
            try simp -implicitDefEqProofs only[go_sem,c3a,c3b,c3n,g3,b4,b5,c6a,c6b,c6n,g6,b8,b9,b10,b11,b12,b13,his14,hws14,hjs14,c15,g15,b16,b17]
            exact hNs14 () () h (weakL (by simp -implicitDefEqProofs only[go_sem,c3a,c3b,c3n,g3,b4,b5,c6a,c6b,c6n,g6,b8,b9,b10,b11,b12,b13,his14,hws14,hjs14,c15,g15,b16,b17]<;>((repeat' apply And.intro)<;>rfl)))
          ·replace h:=ze h b16
           try simp -implicitDefEqProofs only[go_sem,c3a,c3b,c3n,g3,b4,b5,c6a,c6b,c6n,g6,b8,b9,b10,b11,b12,b13,his14,hws14,hjs14,c15,g15,b16]
           exact hNs14 () () h (weakL (by simp -implicitDefEqProofs only[go_sem,c3a,c3b,c3n,g3,b4,b5,c6a,c6b,c6n,g6,b8,b9,b10,b11,b12,b13,his14,hws14,hjs14,c15,g15,b16]<;>((repeat' apply And.intro)<;>rfl)))
         ·intro i14 s14 g14 Rs14 hes14 h
          have hns14:¬ (((i14:Nat):Int)<a2):=by omega
          try dsimp only at h
          cases h
          try simp -implicitDefEqProofs only[go_sem,c3a,c3b,c3n,g3,b4,b5,c6a,c6b,c6n,g6,b8,b9,b10,b11,b12,b13,hns14]
          all_goals((repeat' apply And.intro)<;>rfl)

theorem zo7 (a0:List zi) (a1:zi) (r:Int) (h:zfs a0 a1=some r):zh Tryz.prog 70 [.lst (a0.map zn),.agg (zn a1)] (fun v=>v = .val (.int .i64 r)):=by
 refine zh.ple ?_
 refine zf [] Ty.mixed Tryz.func70 rfl (by kernel_rfl) (by simp[Tryz.ntmps70]) ?_; rw[Tryz.ntmps70,Tryz.results70]
 unfold zfs at h
 obtain⟨fus2,h⟩:=zbg h
 unfold fuel at fus2
 try simp -implicitDefEqProofs only[go_sem]
 refine zbe (fun x:(Nat×(Unit))×(Unit)=>envL [(0,.p (.lst (a0.map zn))),(3,.ptr 3 0),(7,.p (.val (.int .i64 ((a0.length:Nat):Int)))),(8,.p (.val (.int .i64 ((x.1.1:Nat):Int))))]) (fun x=>heapL [(3,.box ((zn a1).map .p))]) () h (weakL (by simp -implicitDefEqProofs only[go_sem]<;>((repeat' apply And.intro)<;>rfl))) ?_ ?_
 ·intro i2 s2 g2 nxts2 Rs2 his2 hNs2 h
  have hws2:=zt (k:=i2) his2 (by omega)
  try dsimp only at h
  try simp -implicitDefEqProofs only[go_sem,his2,hws2]
  refine zbn [.q,.q,.q,.q,.q,.q] (by kernel_rfl) ?_
  obtain⟨e3,c3,g3,q3,h⟩:=zbu zn h
  try simp -implicitDefEqProofs only[go_sem,his2,hws2,c3,g3]
  refine zc (fun b4=>?_) (fun b4=>?_)
  ·replace h:=zd h b4
   cases h
   try simp -implicitDefEqProofs only[go_sem,his2,hws2,c3,g3,b4]
   all_goals((repeat' apply And.intro)<;>rfl)
  ·replace h:=ze h b4
   try simp -implicitDefEqProofs only[go_sem,his2,hws2,c3,g3,b4]
   exact hNs2 () () h (weakL (by simp -implicitDefEqProofs only[go_sem,his2,hws2,c3,g3,b4]<;>((repeat' apply And.intro)<;>rfl)))
 ·intro i2 s2 g2 Rs2 hes2 h
  have hns2:¬ (i2<a0.length):=by omega
  try dsimp only at h
  cases h
  try simp -implicitDefEqProofs only[go_sem,hns2]
  all_goals((repeat' apply And.intro)<;>rfl)
theorem zoj (a0:List Int) (p1:Int→Option Bool) (k1:FuncId) (fs1 cs1:List PV) (hp1:∀x0 r,p1 x0=some r→zh Tryz.prog k1 (fs1++[.val (.int .i64 x0)]++cs1) (fun v=>v = .val (.bool r))) (r:Int) (h:zfj a0 p1=some r):zh Tryz.prog 74 [.lst (a0.map encI),.clo (.func k1) fs1 cs1] (fun v=>v = .val (.int .i64 r)):=by
 refine zh.ple ?_
 refine zf [] Ty.mixed Tryz.func74 rfl (by kernel_rfl) (by simp[Tryz.ntmps74]) ?_; rw[Tryz.ntmps74,Tryz.results74]
 unfold zfj at h
 obtain⟨fus2,h⟩:=zbg h
 unfold fuel at fus2
 try simp -implicitDefEqProofs only[go_sem]
 refine zbe (fun x:(Nat×(Unit))×(Unit)=>envL [(0,.p (.lst (a0.map encI))),(1,.p (.clo (.func k1) fs1 cs1)),(7,.p (.val (.int .i64 ((a0.length:Nat):Int)))),(8,.p (.val (.int .i64 ((x.1.1:Nat):Int))))]) (fun x=>heapL []) () h (weakL (by simp -implicitDefEqProofs only[go_sem]<;>((repeat' apply And.intro)<;>rfl))) ?_ ?_
 ·intro i2 s2 g2 nxts2 Rs2 his2 hNs2 h
  have hws2:=zt (k:=i2) his2 (by omega)
  try dsimp only at h
  obtain⟨e3,c3,g3,q3,h⟩:=zbu encI h
  obtain⟨r4,hr4,h⟩:=zm h
  try simp -implicitDefEqProofs only[go_sem,his2,hws2,c3,g3]
  refine callG (hp1 e3 r4 hr4) (by simp -implicitDefEqProofs only[go_sem,his2,hws2,c3,g3,zfx,zfq,Bool.or_false,Bool.false_or]<;>rfl) (zb _) (by first | exact pers | exact scal rfl) ?_
  try simp -implicitDefEqProofs only[go_sem,his2,hws2,c3,g3]
  refine zc (fun b5=>?_) (fun b5=>?_)
  ·replace h:=zd h b5
   cases h
   try simp -implicitDefEqProofs only[go_sem,his2,hws2,c3,g3,b5]
   all_goals((repeat' apply And.intro)<;>rfl)
  ·replace h:=ze h b5
   try simp -implicitDefEqProofs only[go_sem,his2,hws2,c3,g3,b5]
   exact hNs2 () () h (weakL (by simp -implicitDefEqProofs only[go_sem,his2,hws2,c3,g3,b5]<;>((repeat' apply And.intro)<;>rfl)))
 ·intro i2 s2 g2 Rs2 hes2 h
  have hns2:¬ (i2<a0.length):=by omega
  try dsimp only at h
  cases h
  try simp -implicitDefEqProofs only[go_sem,hns2]
  all_goals((repeat' apply And.intro)<;>rfl)

theorem zl7 (a0:Int) (r:Bool) (h:zfv a0=some r):zh Tryz.prog 269 [.val (.int .i64 a0)] (fun v=>v = .val (.bool r)):=by
 refine zh.ple ?_
 refine zf [] Ty.mixed Tryz.func269 rfl (by kernel_rfl) (by simp[Tryz.ntmps269]) ?_; rw[Tryz.ntmps269,Tryz.results269]
 unfold zfv at h
 cases h
 try simp -implicitDefEqProofs only[go_sem]
 all_goals((repeat' apply And.intro)<;>rfl)

theorem zln (a0:List zp) (p1:zp→Option Bool) (k1:FuncId) (fs1 cs1:List PV) (hp1:∀x0 r,p1 x0=some r→zh Tryz.prog k1 (fs1++[.agg (zz x0)]++cs1) (fun v=>v = .val (.bool r))) (r:Int) (h:zd4 a0 p1=some r):zh Tryz.prog 282 [.lst (a0.map zz),.clo (.func k1) fs1 cs1] (fun v=>v = .val (.int .i64 r)):=by
 refine zh.ple ?_
 refine zf [] Ty.mixed Tryz.func282 rfl (by kernel_rfl) (by simp[Tryz.ntmps282]) ?_; rw[Tryz.ntmps282,Tryz.results282]
 unfold zd4 at h
 obtain⟨fus2,h⟩:=zbg h
 unfold fuel at fus2
 try simp -implicitDefEqProofs only[go_sem]
 refine zbe (fun x:(Nat×(Unit))×(Unit)=>envL [(0,.p (.lst (a0.map zz))),(1,.p (.clo (.func k1) fs1 cs1)),(7,.p (.val (.int .i64 ((a0.length:Nat):Int)))),(8,.p (.val (.int .i64 ((x.1.1:Nat):Int))))]) (fun x=>heapL []) () h (weakL (by simp -implicitDefEqProofs only[go_sem]<;>((repeat' apply And.intro)<;>rfl))) ?_ ?_
 ·intro i2 s2 g2 nxts2 Rs2 his2 hNs2 h
  have hws2:=zt (k:=i2) his2 (by omega)
  try dsimp only at h
  obtain⟨e3,c3,g3,q3,h⟩:=zbu zz h
  obtain⟨r4,hr4,h⟩:=zm h
  try simp -implicitDefEqProofs only[go_sem,his2,hws2,c3,g3]
  refine callG (hp1 e3 r4 hr4) (by simp -implicitDefEqProofs only[go_sem,his2,hws2,c3,g3,zfx,zfq,Bool.or_false,Bool.false_or]<;>rfl) (zb _) (by first | exact pers | exact scal rfl) ?_
  try simp -implicitDefEqProofs only[go_sem,his2,hws2,c3,g3]
  refine zc (fun b5=>?_) (fun b5=>?_)
  ·replace h:=zd h b5
   cases h
   try simp -implicitDefEqProofs only[go_sem,his2,hws2,c3,g3,b5]
   all_goals((repeat' apply And.intro)<;>rfl)
  ·replace h:=ze h b5
   try simp -implicitDefEqProofs only[go_sem,his2,hws2,c3,g3,b5]
   exact hNs2 () () h (weakL (by simp -implicitDefEqProofs only[go_sem,his2,hws2,c3,g3,b5]<;>((repeat' apply And.intro)<;>rfl)))
 ·intro i2 s2 g2 Rs2 hes2 h
  have hns2:¬ (i2<a0.length):=by omega
  try dsimp only at h
  cases h
  try simp -implicitDefEqProofs only[go_sem,hns2]
  all_goals((repeat' apply And.intro)<;>rfl)

theorem zmm (a0:zl) (a1:z8) (a2:List Int) (a3:List Int) (r:(List Int)) (h:zej a0 a1 a2 a3=some r):zbt Tryz.prog 88 [.agg [.lst (a0.nodes.map encNode),.lst (a0.edges.map encEdgeT)],.agg [.lst (a1.nodes.map encI),.lst (a1.edges.map encEdge)],.lst (a2.map encI),.lst (a3.map encI)] (fun v=>v = .row 3 1 (r.map encI)):=by
 refine zbt.rle ?_
 refine zbx [27] Ty.mixed Tryz.func88 rfl (by kernel_rfl) (by simp[Tryz.ntmps88]) ?_; rw[Tryz.ntmps88,Tryz.results88]
 unfold zej at h
 obtain⟨fus4,h⟩:=zbg h
 unfold fuel at fus4
 try simp -implicitDefEqProofs only[go_sem]
 refine zbe (fun x:(Nat×((List Int)))×(Nat)=>envL [(3,.p (.lst (a3.map encI))),(4,.ptr 4 0),(5,.ptr 5 0),(9,.row 2867 x.2),(14,.p (.lst (a2.map encI))),(15,.p (.val (.int .i64 ((a2.length:Nat):Int)))),(16,.p (.val (.int .i64 ((x.1.1:Nat):Int))))]) (fun x=>heapL [(4,.box [.p (.lst (a0.nodes.map encNode)),.p (.lst (a0.edges.map encEdgeT))]),(5,.box [.p (.lst (a1.nodes.map encI)),.p (.lst (a1.edges.map encEdge))]),(2867,.row x.2 3 1 (x.1.2.map encI))]) 0 h (by refine Weak.trans (zhi 9 2867 3 1 rfl rfl (by decide)) ?_; exact (weakL (by simp -implicitDefEqProofs only[go_sem]<;>((repeat' apply And.intro)<;>rfl)))) ?_ ?_
 ·intro i4 s4 g4 nxts4 Rs4 his4 hNs4 h
  have hws4:=zt (k:=i4) his4 (by omega)
  try dsimp only at h
  obtain⟨e5,c5,g5,q5,h⟩:=zbu encI h
  obtain⟨e6,c6a,c6b,g6,q6,h⟩:=zce encI h
  have c6n:=zbv c6a c6b
  obtain⟨c7,h⟩:=zbg h
  have k8:=eq_true (show (s4.length+1) * 8≤140737488355328 by omega)
  have a9:=zfc encI s4 [e6] (c:=[[.val (.int .i64 e6)]]) rfl
  try simp -implicitDefEqProofs only[go_sem,his4,hws4,c5,g5,c6a,c6b,c6n,g6,c7,k8,a9]
  exact hNs4 (s4++[e6]) (g4+1) h (weakL (by simp -implicitDefEqProofs only[go_sem,his4,hws4,c5,g5,c6a,c6b,c6n,g6,c7,k8,a9]<;>((repeat' apply And.intro)<;>rfl)))
 ·intro i4 s4 g4 Rs4 hes4 h
  have hns4:¬ (i4<a2.length):=by omega
  try dsimp only at h
  obtain⟨fus10,h⟩:=zbg h
  unfold fuel at fus10
  try simp -implicitDefEqProofs only[go_sem,hns4]
  refine zbe (fun x:(Nat×((List Int)))×(Nat)=>envL [(4,.ptr 4 0),(5,.ptr 5 0),(9,.row 2867 x.2),(29,.p (.lst (a3.map encI))),(30,.p (.val (.int .i64 ((a3.length:Nat):Int)))),(31,.p (.val (.int .i64 ((x.1.1:Nat):Int))))]) (fun x=>heapL [(4,.box [.p (.lst (a0.nodes.map encNode)),.p (.lst (a0.edges.map encEdgeT))]),(5,.box [.p (.lst (a1.nodes.map encI)),.p (.lst (a1.edges.map encEdge))]),(2867,.row x.2 3 1 (x.1.2.map encI))]) g4 h (weakL (by simp -implicitDefEqProofs only[go_sem,hns4]<;>((repeat' apply And.intro)<;>rfl))) ?_ ?_
  ·intro i10 s10 g10 nxts10 Rs10 his10 hNs10 h
   have hws10:=zt (k:=i10) his10 (by omega)
   try dsimp only at h
   obtain⟨e11,c11,g11,q11,h⟩:=zbu encI h
   try simp -implicitDefEqProofs only[go_sem,hns4,his10,hws10,c11,g11]
   refine zbn [.p,.q,.q,.q,.q,.q,.q,.q,.q,.q,.q,.p,.w,.q] (by kernel_rfl) ?_
   obtain⟨e12,c12a,c12b,g12,q12,h⟩:=zce encEdge h
   have c12n:=zbv c12a c12b
   obtain⟨c13,h⟩:=zbg h
   have k14:=eq_true (show (s10.length+1) * 8≤140737488355328 by omega)
   have a15:=zfc encI s10 [(IntKind.i64.wrap (((a0.nodes.length:Nat):Int)+e12.type))] (c:=[[.val (.int .i64 (IntKind.i64.wrap (((a0.nodes.length:Nat):Int)+e12.type)))]]) rfl
   try simp -implicitDefEqProofs only[go_sem,hns4,his10,hws10,c11,g11,c12a,c12b,c12n,g12,c13,k14,a15]
   exact hNs10 (s10++[(IntKind.i64.wrap (((a0.nodes.length:Nat):Int)+e12.type))]) (g10+1) h (weakL (by simp -implicitDefEqProofs only[go_sem,hns4,his10,hws10,c11,g11,c12a,c12b,c12n,g12,c13,k14,a15]<;>((repeat' apply And.intro)<;>rfl)))
  ·intro i10 s10 g10 Rs10 hes10 h
   have hns10:¬ (i10<a3.length):=by omega
   try dsimp only at h
   obtain⟨r16,hr16,h⟩:=zm h
   try simp -implicitDefEqProofs only[go_sem,hns4,hns10]
   refine ztc (zmn g10 s10 r16 hr16) (by simp -implicitDefEqProofs only[go_sem,hns4,hns10]<;>rfl) (by simp -implicitDefEqProofs only[go_sem,hns4,hns10]<;>rfl) (by simp -implicitDefEqProofs only[go_sem,hns4,hns10]<;>rfl) (fun h=>by cases h) ?_
   obtain⟨r17,hr17,h⟩:=zm h
   try simp -implicitDefEqProofs only[go_sem,hns4,hns10]
   refine zvx (zk8 g10 r16 r17 hr17) (by simp -implicitDefEqProofs only[go_sem,hns4,hns10]<;>rfl) (by simp -implicitDefEqProofs only[go_sem,hns4,hns10]<;>rfl) (by simp -implicitDefEqProofs only[go_sem,hns4,hns10]<;>rfl) (fun h=>by cases h) ?_
   cases h
   try simp -implicitDefEqProofs only[go_sem,hns4,hns10]
   refine⟨by decide,_,.refl _,?_⟩
   simp -implicitDefEqProofs only[go_sem,hns4,hns10]<;>((repeat' apply And.intro)<;>rfl)

theorem zlf (a0:zi) (a1:Int) (a2:List Int) (r:Bool) (h:zc5 a0 a1 a2=some r):zh Tryz.prog 62 [.agg (zn a0),.eptr [.val (.int .i64 a1)] 0,.eptr [.lst (a2.map encI)] 0] (fun v=>v = .val (.bool r)):=by
 refine zh.ple ?_
 refine zf [] Ty.mixed Tryz.func62 rfl (by kernel_rfl) (by simp[Tryz.ntmps62]) ?_; rw[Tryz.ntmps62,Tryz.results62]
 unfold zc5 at h
 try simp -implicitDefEqProofs only[go_sem]
 refine zbn [.q,.q,.q,.q,.q,.q,.q,.q,.q,.q,.q,.q,.q,.q,.q,.q,.q,.q,.q,.q,.q,.q,.q,.q,.q,.q] (by kernel_rfl) ?_
 try simp -implicitDefEqProofs only[go_sem]
 refine zdi (fun b3=>?_) (fun b3=>?_)
 ·replace h:=zd h b3
  obtain⟨e4,c4a,c4b,g4,q4,h⟩:=zce encI h
  have c4n:=zbv c4a c4b
  try simp -implicitDefEqProofs only[go_sem,b3,c4a,c4b,c4n,g4]
  refine zdi (fun b5=>?_) (fun b5=>?_)
  ·replace h:=zd h b5
   obtain⟨e6,c6a,c6b,g6,q6,h⟩:=zce encI h
   have c6n:=zbv c6a c6b
   cases h
   try simp -implicitDefEqProofs only[go_sem,b3,c4a,c4b,c4n,g4,b5,c6a,c6b,c6n,g6]
   all_goals((repeat' apply And.intro)<;>rfl)
  ·replace h:=ze h b5
   cases h
   try simp -implicitDefEqProofs only[go_sem,b3,c4a,c4b,c4n,g4,b5]
   all_goals((repeat' apply And.intro)<;>rfl)
 ·replace h:=ze h b3
  cases h
  try simp -implicitDefEqProofs only[go_sem,b3]
  all_goals((repeat' apply And.intro)<;>rfl)

theorem zpf (a0:zdb) (a1:Int) (r:Bool) (h:zf0 a0 a1=some r):zh Tryz.prog 55 [.agg [.lst (a0.nodes.map encI),.lst (a0.edges.map encI)],.val (.int .i64 a1)] (fun v=>v = .val (.bool r)):=by
 refine zh.ple ?_
 refine zf [] Ty.mixed Tryz.func55 rfl (by kernel_rfl) (by simp[Tryz.ntmps55]) ?_; rw[Tryz.ntmps55,Tryz.results55]
 unfold zf0 at h
 cases h
 try simp -implicitDefEqProofs only[go_sem]
 all_goals((repeat' apply And.intro)<;>rfl)

theorem zms (a0:Int) (r:Bool) (h:zf6 a0=some r):zh Tryz.prog 163 [.val (.int .i64 a0)] (fun v=>v = .val (.bool r)):=by
 refine zh.ple ?_
 refine zf [] Ty.mixed Tryz.func163 rfl (by kernel_rfl) (by simp[Tryz.ntmps163]) ?_; rw[Tryz.ntmps163,Tryz.results163]
 unfold zf6 at h
 try simp -implicitDefEqProofs only[go_sem]
 refine zq (fun b1=>?_) (fun b1=>?_)
 ·replace h:=zd h b1
  cases h
  try simp -implicitDefEqProofs only[go_sem,b1]
  all_goals((repeat' apply And.intro)<;>rfl)
 ·replace h:=ze h b1
  cases h
  try simp -implicitDefEqProofs only[go_sem,b1]
  all_goals((repeat' apply And.intro)<;>rfl)

theorem zj4 (a0:List Int) (a1:Int) (r:Int) (h:zec a0 a1=some r):zh Tryz.prog 137 [.lst (a0.map encI),.val (.int .i64 a1)] (fun v=>v = .val (.int .i64 r)):=by
 refine zh.ple ?_
 refine zf [] Ty.mixed Tryz.func137 rfl (by kernel_rfl) (by simp[Tryz.ntmps137]) ?_; rw[Tryz.ntmps137,Tryz.results137]
 unfold zec at h
 obtain⟨fus2,h⟩:=zbg h
 unfold fuel at fus2
 try simp -implicitDefEqProofs only[go_sem]
 refine zbe (fun x:(Nat×(Unit))×(Unit)=>envL [(0,.p (.lst (a0.map encI))),(1,.p (.val (.int .i64 a1))),(5,.p (.val (.int .i64 ((x.1.1:Nat):Int))))]) (fun x=>heapL []) () h (weakL (by simp -implicitDefEqProofs only[go_sem]<;>((repeat' apply And.intro)<;>rfl))) ?_ ?_
 ·intro i2 s2 g2 nxts2 Rs2 his2 hNs2 h
  have hws2:=zt (k:=i2) his2 (by omega)
  try dsimp only at h
  obtain⟨e3,c3,g3,q3,h⟩:=zbu encI h
  try simp -implicitDefEqProofs only[go_sem,his2,hws2,c3,g3]
  refine zc (fun b4=>?_) (fun b4=>?_)
  ·replace h:=zd h b4
   cases h
   try simp -implicitDefEqProofs only[go_sem,his2,hws2,c3,g3,b4]
   all_goals((repeat' apply And.intro)<;>rfl)
  ·replace h:=ze h b4
   try simp -implicitDefEqProofs only[go_sem,his2,hws2,c3,g3,b4]
   exact hNs2 () () h (weakL (by simp -implicitDefEqProofs only[go_sem,his2,hws2,c3,g3,b4]<;>((repeat' apply And.intro)<;>rfl)))
 ·intro i2 s2 g2 Rs2 hes2 h
  have hns2:¬ (i2<a0.length):=by omega
  try dsimp only at h
  cases h
  try simp -implicitDefEqProofs only[go_sem,hns2]
  all_goals((repeat' apply And.intro)<;>rfl)

theorem zfl (a0:List Int) (r:Bool) (h:zcr a0=some r):zh Tryz.prog 129 [.lst (a0.map encI)] (fun v=>v = .val (.bool r)):=by
 refine zh.ple ?_
 refine zf [] Ty.mixed Tryz.func129 rfl (by kernel_rfl) (by simp[Tryz.ntmps129]) ?_; rw[Tryz.ntmps129,Tryz.results129]
 unfold zcr at h
 obtain⟨fus1,h⟩:=zbg h
 unfold fuel at fus1
 try simp -implicitDefEqProofs only[go_sem]
 refine zbe (fun x:(Nat×(Unit))×(Unit)=>envL [(0,.p (.lst (a0.map encI))),(3,.p (.val (.int .i64 ((x.1.1:Nat):Int))))]) (fun x=>heapL []) () h (weakL (by simp -implicitDefEqProofs only[go_sem]<;>((repeat' apply And.intro)<;>rfl))) ?_ ?_
 ·intro i1 s1 g1 nxts1 Rs1 his1 hNs1 h
  have hws1:=zt (k:=i1) his1 (by omega)
  try dsimp only at h
  obtain⟨fus2,h⟩:=zbg h
  unfold fuel at fus2
  try simp -implicitDefEqProofs only[go_sem,his1,hws1]
  refine zbe (fun x:(Nat×(Unit))×(Unit)=>envL [(0,.p (.lst (a0.map encI))),(3,.p (.val (.int .i64 ((i1:Nat):Int)))),(4,.p (.val (.int .i64 ((x.1.1:Nat):Int))))]) (fun x=>heapL []) () h (weakL (by simp -implicitDefEqProofs only[go_sem,his1,hws1]<;>((repeat' apply And.intro)<;>rfl))) ?_ ?_
  ·intro i2 s2 g2 nxts2 Rs2 his2 hNs2 h
   have hws2:=zt (k:=i2) his2 (by omega)
   try dsimp only at h
   try simp -implicitDefEqProofs only[go_sem,his1,hws1,his2,hws2]
   refine zbn [.q,.q,.q,.q,.q,.q,.q,.q,.q] (by kernel_rfl) ?_
   obtain⟨e3,c3,g3,q3,h⟩:=zbu encI h
   obtain⟨e4,c4,g4,q4,h⟩:=zbu encI h
   try simp -implicitDefEqProofs only[go_sem,his1,hws1,his2,hws2,c3,g3,c4,g4]
   refine zc (fun b5=>?_) (fun b5=>?_)
   ·replace h:=zd h b5
    cases h
    try simp -implicitDefEqProofs only[go_sem,his1,hws1,his2,hws2,c3,g3,c4,g4,b5]
    all_goals((repeat' apply And.intro)<;>rfl)
   ·replace h:=ze h b5
    try simp -implicitDefEqProofs only[go_sem,his1,hws1,his2,hws2,c3,g3,c4,g4,b5]
    exact hNs2 () () h (weakL (by simp -implicitDefEqProofs only[go_sem,his1,hws1,his2,hws2,c3,g3,c4,g4,b5]<;>((repeat' apply And.intro)<;>rfl)))
  ·intro i2 s2 g2 Rs2 hes2 h
   have hns2:¬ (i2<i1):=by omega
   try dsimp only at h
   try simp -implicitDefEqProofs only[go_sem,his1,hws1,hns2]
   exact hNs1 () () h (weakL (by simp -implicitDefEqProofs only[go_sem,his1,hws1,hns2]<;>((repeat' apply And.intro)<;>rfl)))
 ·intro i1 s1 g1 Rs1 hes1 h
  have hns1:¬ (i1<a0.length):=by omega
  try dsimp only at h
  cases h
  try simp -implicitDefEqProofs only[go_sem,hns1]
  all_goals((repeat' apply And.intro)<;>rfl)

theorem zjl (a0:zl) (a1:z8) (a2:List Int) (a3:List Int) (r:(List Int)) (h:zc0 a0 a1 a2 a3=some r):zbt Tryz.prog 66 [.agg [.lst (a0.nodes.map encNode),.lst (a0.edges.map encEdgeT)],.agg [.lst (a1.nodes.map encI),.lst (a1.edges.map encEdge)],.lst (a2.map encI),.lst (a3.map encI)] (fun v=>v = .row 3 1 (r.map encI)):=by
 refine zbt.rle ?_
 refine zbx [72] Ty.mixed Tryz.func66 rfl (by kernel_rfl) (by simp[Tryz.ntmps66]) ?_; rw[Tryz.ntmps66,Tryz.results66]
 unfold zc0 at h
 obtain⟨fus4,h⟩:=zbg h
 unfold fuel at fus4
 try simp -implicitDefEqProofs only[go_sem]
 refine zbe (fun x:(Nat×((List Int)))×(Nat)=>envL [(2,.p (.lst (a2.map encI))),(3,.p (.lst (a3.map encI))),(4,.ptr 4 0),(5,.ptr 5 0),(9,.row 5354 x.2),(10,.p (.val (.int .i64 ((x.1.1:Nat):Int))))]) (fun x=>heapL [(4,.box [.p (.lst (a0.nodes.map encNode)),.p (.lst (a0.edges.map encEdgeT))]),(5,.box [.p (.lst (a1.nodes.map encI)),.p (.lst (a1.edges.map encEdge))]),(5354,.row x.2 3 1 (x.1.2.map encI))]) 0 h (by refine Weak.trans (zhi 9 5354 3 1 rfl rfl (by decide)) ?_; exact (weakL (by simp -implicitDefEqProofs only[go_sem]<;>((repeat' apply And.intro)<;>rfl)))) ?_ ?_
 ·intro i4 s4 g4 nxts4 Rs4 his4 hNs4 h
  have hws4:=zt (k:=i4) his4 (by omega)
  have hjs4:((i4:Nat):Int)<(IntKind.i64.wrap (((a0.nodes.length:Nat):Int)+((a0.edges.length:Nat):Int))):=by omega
  try dsimp only at h
  obtain⟨fus5,h⟩:=zbg h
  unfold fuel at fus5
  try simp -implicitDefEqProofs only[go_sem,his4,hws4,hjs4]
  refine zbe (fun x:(Nat×(Bool))×(Unit)=>envL [(2,.p (.lst (a2.map encI))),(3,.p (.lst (a3.map encI))),(4,.ptr 4 0),(5,.ptr 5 0),(9,.row 5354 g4),(10,.p (.val (.int .i64 ((i4:Nat):Int)))),(11,.p (.val (.bool x.1.2))),(12,.p (.val (.int .i64 ((x.1.1:Nat):Int))))]) (fun x=>heapL [(4,.box [.p (.lst (a0.nodes.map encNode)),.p (.lst (a0.edges.map encEdgeT))]),(5,.box [.p (.lst (a1.nodes.map encI)),.p (.lst (a1.edges.map encEdge))]),(5354,.row g4 3 1 (s4.map encI))]) () h (weakL (by simp -implicitDefEqProofs only[go_sem,his4,hws4,hjs4]<;>((repeat' apply And.intro)<;>rfl))) ?_ ?_
  ·intro i5 s5 g5 nxts5 Rs5 his5 hNs5 h
   have hws5:=zt (k:=i5) his5 (by omega)
   try dsimp only at h
   try simp -implicitDefEqProofs only[go_sem,his4,hws4,hjs4,his5,hws5]
   refine zbn [.q,.q,.q,.q,.q,.q,.q,.q,.q,.q,.q,.q,.q,.q] (by kernel_rfl) ?_
   try simp -implicitDefEqProofs only[go_sem,his4,hws4,hjs4,his5,hws5]
   refine zfm (fun b6=>?_) (fun b6=>?_)
   ·replace h:=zd h b6
    try simp -implicitDefEqProofs only[go_sem,his4,hws4,hjs4,his5,hws5,b6]
    exact hNs5 true () h (weakL (by simp -implicitDefEqProofs only[go_sem,his4,hws4,hjs4,his5,hws5,b6]<;>((repeat' apply And.intro)<;>rfl)))
   ·replace h:=ze h b6
    obtain⟨e7,c7,g7,q7,h⟩:=zbu encI h
    obtain⟨e8,c8a,c8b,g8,q8,h⟩:=zce encI h
    have c8n:=zbv c8a c8b
    try simp -implicitDefEqProofs only[go_sem,his4,hws4,hjs4,his5,hws5,b6,c7,g7,c8a,c8b,c8n,g8]
    exact hNs5 (decide (e8=((i4:Nat):Int))) () h (weakL (by simp -implicitDefEqProofs only[go_sem,his4,hws4,hjs4,his5,hws5,b6,c7,g7,c8a,c8b,c8n,g8]<;>((repeat' apply And.intro)<;>rfl)))
  ·intro i5 s5 g5 Rs5 hes5 h
   have hns5:¬ (i5<a2.length):=by omega
   try dsimp only at h
   obtain⟨fus9,h⟩:=zbg h
   unfold fuel at fus9
   try simp -implicitDefEqProofs only[go_sem,his4,hws4,hjs4,hns5]
   refine zbe (fun x:(Nat×(Bool))×(Unit)=>envL [(2,.p (.lst (a2.map encI))),(3,.p (.lst (a3.map encI))),(4,.ptr 4 0),(5,.ptr 5 0),(9,.row 5354 g4),(10,.p (.val (.int .i64 ((i4:Nat):Int)))),(11,.p (.val (.bool x.1.2))),(13,.p (.val (.int .i64 ((x.1.1:Nat):Int))))]) (fun x=>heapL [(4,.box [.p (.lst (a0.nodes.map encNode)),.p (.lst (a0.edges.map encEdgeT))]),(5,.box [.p (.lst (a1.nodes.map encI)),.p (.lst (a1.edges.map encEdge))]),(5354,.row g4 3 1 (s4.map encI))]) () h (weakL (by simp -implicitDefEqProofs only[go_sem,his4,hws4,hjs4,hns5]<;>((repeat' apply And.intro)<;>rfl))) ?_ ?_
   ·intro i9 s9 g9 nxts9 Rs9 his9 hNs9 h
    have hws9:=zt (k:=i9) his9 (by omega)
    try dsimp only at h
    try simp -implicitDefEqProofs only[go_sem,his4,hws4,hjs4,hns5,his9,hws9]
    refine zbn [.q,.q,.q,.q,.q,.q,.q,.q,.q,.q,.q,.q,.q,.q,.q,.q,.q,.q,.q] (by kernel_rfl) ?_
    try simp -implicitDefEqProofs only[go_sem,his4,hws4,hjs4,hns5,his9,hws9]
    refine zfm (fun b10=>?_) (fun b10=>?_)
    ·replace h:=zd h b10
     try simp -implicitDefEqProofs only[go_sem,his4,hws4,hjs4,hns5,his9,hws9,b10]
     exact hNs9 true () h (weakL (by simp -implicitDefEqProofs only[go_sem,his4,hws4,hjs4,hns5,his9,hws9,b10]<;>((repeat' apply And.intro)<;>rfl)))
    ·replace h:=ze h b10
     obtain⟨e11,c11,g11,q11,h⟩:=zbu encI h
     obtain⟨e12,c12a,c12b,g12,q12,h⟩:=zce encEdge h
     have c12n:=zbv c12a c12b
     try simp -implicitDefEqProofs only[go_sem,his4,hws4,hjs4,hns5,his9,hws9,b10,c11,g11,c12a,c12b,c12n,g12]
     exact hNs9 (decide ((IntKind.i64.wrap (((a0.nodes.length:Nat):Int)+e12.type))=((i4:Nat):Int))) () h (weakL (by simp -implicitDefEqProofs only[go_sem,his4,hws4,hjs4,hns5,his9,hws9,b10,c11,g11,c12a,c12b,c12n,g12]<;>((repeat' apply And.intro)<;>rfl)))
   ·intro i9 s9 g9 Rs9 hes9 h
    have hns9:¬ (i9<a3.length):=by omega
    try dsimp only at h
    try simp -implicitDefEqProofs only[go_sem,his4,hws4,hjs4,hns5,hns9]
    refine zc (fun b13=>?_) (fun b13=>?_)
    ·replace h:=zd h b13
     obtain⟨c14,h⟩:=zbg h
     have k15:=eq_true (show (s4.length+1) * 8≤140737488355328 by omega)
     have a16:=zfc encI s4 [((i4:Nat):Int)] (c:=[[.val (.int .i64 ((i4:Nat):Int))]]) rfl
     try simp -implicitDefEqProofs only[go_sem,his4,hws4,hjs4,hns5,hns9,b13,c14,k15,a16]
     exact hNs4 (s4++[((i4:Nat):Int)]) (g4+1) h (weakL (by simp -implicitDefEqProofs only[go_sem,his4,hws4,hjs4,hns5,hns9,b13,c14,k15,a16]<;>((repeat' apply And.intro)<;>rfl)))
    ·replace h:=ze h b13
     try simp -implicitDefEqProofs only[go_sem,his4,hws4,hjs4,hns5,hns9,b13]
     exact hNs4 s4 g4 h (weakL (by simp -implicitDefEqProofs only[go_sem,his4,hws4,hjs4,hns5,hns9,b13]<;>((repeat' apply And.intro)<;>rfl)))
 ·intro i4 s4 g4 Rs4 hes4 h
  have hns4:¬ (((i4:Nat):Int)<(IntKind.i64.wrap (((a0.nodes.length:Nat):Int)+((a0.edges.length:Nat):Int)))):=by omega
  try dsimp only at h
  cases h
  try simp -implicitDefEqProofs only[go_sem,hns4]
  refine⟨by decide,_,.refl _,?_⟩
  simp -implicitDefEqProofs only[go_sem,hns4]<;>((repeat' apply And.intro)<;>rfl)

end
end Go.Proofs.YthjgdkloabgcoaaGreat
