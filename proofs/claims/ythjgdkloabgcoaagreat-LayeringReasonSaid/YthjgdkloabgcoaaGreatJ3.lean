/- Joined texts, part 3: lemmas for the statement. No condition. -/
import Derived.Test.YthjgdkloabgcoaaGreatJ2
import Derived.Lib.Bytealg
import Derived.Shelf.Spec.SlicesGrow
import Derived.Ground.Names8Prog
import Derived.Test.YthjgdkloabgcoaaGreatProg
import Derived.Test.YthjgdkloabgcoaaGreatJ1
set_option maxHeartbeats 4000000
set_option linter.unusedSimpArgs false
set_option linter.unusedVariables false
open Nat (reduceEqDiff reduceLT reduceLeDiff reduceMul reduceAdd reduceSub)
namespace Go.Proofs.YthjgdkloabgcoaaGreat
open Go.Abs

def idxOf {α:Type} (p:α→Bool) (l:List α):Int:=match l.findIdx? p with
 | some i=>i
 | none=>-1
theorem zkn {α:Type} [Inhabited α] {p:α→Bool} {l:List α} {k:Nat} (hk:k<l.length) (h1:∀j,j<k→p (l.getD j default)=false) (h2:p (l.getD k default)=true):idxOf p l=k:=by
 have:l.findIdx? p=some k:=by
  rw[List.findIdx?_eq_some_iff_getElem]
  refine⟨hk,by simpa[hk] using h2,fun j hj=>?_⟩
  have:=h1 j hj
  have hjl:j<l.length:=by omega
  simpa[hjl] using this
 simp[idxOf,this]
theorem ziq {α:Type} [Inhabited α] {p:α→Bool} {l:List α} (h1:∀j,j<l.length→p (l.getD j default)=false):idxOf p l = -1:=by
 have:l.findIdx? p=none:=by
  rw[List.findIdx?_eq_none_iff]
  intro x hx
  obtain⟨j,hj,rfl⟩:=List.getElem_of_mem hx
  have:=h1 j hj
  simpa[hj] using this
 simp[idxOf,this]
theorem zju {α:Type} {p:α→Bool} {l:List α} : decide (0≤idxOf p l)=l.any p:=by
 unfold idxOf
 cases h:l.findIdx? p with
 | none =>
  rw[List.findIdx?_eq_none_iff] at h
  have:l.any p=false:=by simpa using h
  simp[this]
 | some i =>
  rw[List.findIdx?_eq_some_iff_getElem] at h
  obtain⟨hi,h,_⟩:=h
  have:l.any p=true:=List.any_eq_true.2 ⟨_,List.getElem_mem hi,h⟩
  simp[this]
def pA (cs:List PV):PV:=.agg cs
def pV (cs:List PV):PV:=cs.getD 0 .emp

theorem z5q (p : Attr → Bool) (l : List Attr) (hl : l.length ≤ 1000000) (k : FuncId) (fs cs : List PV) (hp : ∀ x ∈ l, zh Tryz.prog k (fs ++ [pA (encAttr x)] ++ cs) (fun r => r = .val (.bool (p x)))) :
  zh Tryz.prog 179 [.lst (l.map encAttr),.clo (.func k) fs cs] (fun r=>r = .val (.int .i64 (idxOf p l))):=by
 refine zf [] Ty.mixed Tryz.func179 rfl (by kernel_rfl) (by simp[Tryz.ntmps179]) ?_; rw[Tryz.ntmps179,Tryz.results179]
 simp -implicitDefEqProofs only[go_sem]
 refine zca (σ:=Nat) (fun x=>(upd (upd (upd (upd env0 0 (.p (.lst (l.map encAttr)))) 1 (.p (.clo (.func k) fs cs))) 7 (.p (.val (.int .i64 l.length)))) 8 (.p (.val (.int .i64 x))))) (fun x=>heap0)
  (fun x=>x≤l.length∧∀j,j<x→p (l.getD j default)=false) (fun x=>l.length - x) 0 ⟨Nat.zero_le _,fun j hj=>absurd hj (Nat.not_lt_zero j)⟩ (zbq (by repeat (first | exact zbk _ | refine zbp ?_ (by first | rfl | simp[upd]))) (by repeat (first | exact hsub0 _ | refine zbb ?_ (by first | rfl | simp[hset]))) (by repeat (first | exact zbi _ | refine zbo ?_ (by simp[idsOk,idsOkL,hset]))) (by repeat (first | exact boxIds0 _ | refine z6 ?_ | refine zy ?_ | refine zx ?_ | refine z2 ?_ (by simp[idsOk,idsOkL,hset]))) (by repeat (first | exact keep0 _ | refine zbh (by decide) ?_ | refine zbc (by simp[hset]) ?_))) ?_
 rintro x ⟨hx,hq⟩
 simp -implicitDefEqProofs only[go_sem]
 refine zc (fun hc=>?_) (fun hc=>?_)
 ·have hlt:x<l.length:=by simpa using hc
  simp -implicitDefEqProofs only[go_sem,zj encAttr hlt,hlt,encAttr]
  refine zba (hp (l.getD x default) (by simp[hlt])) (by simp -implicitDefEqProofs only[go_sem,zfx,zfq,encAttr,pA,Bool.or_false,Bool.false_or]<;>rfl) (scal rfl) ?_
  simp -implicitDefEqProofs only[go_sem]
  refine zc (fun hb=>?_) (fun hb=>?_)<;>simp -implicitDefEqProofs only[go_sem]
  ·exact (zkn hlt hq hb).symm
  ·refine zb9 (x+1) ⟨hlt,fun j hj=>?_⟩ (by omega) ?_
   ·rcases Nat.lt_succ_iff_lt_or_eq.1 hj with h | h
    ·exact hq j h
    ·rw[h]; exact hb
   ·rw[zt hlt (by omega)]
    exact (zbq (by repeat (first | exact zbk _ | refine zbp ?_ (by first | rfl | simp[upd]))) (by repeat (first | exact hsub0 _ | refine zbb ?_ (by first | rfl | simp[hset]))) (by repeat (first | exact zbi _ | refine zbo ?_ (by simp[idsOk,idsOkL,hset]))) (by repeat (first | exact boxIds0 _ | refine z6 ?_ | refine zy ?_ | refine zx ?_ | refine z2 ?_ (by simp[idsOk,idsOkL,hset]))) (by repeat (first | exact keep0 _ | refine zbh (by decide) ?_ | refine zbc (by simp[hset]) ?_)))
 ·have hge:l.length≤x:=by simpa using hc
  simp -implicitDefEqProofs only[go_sem,hc]
  rw[ziq fun j hj=>hq j (by omega)]
theorem zw6 (p : Attr → Bool) (l : List Attr) (hl : l.length ≤ 1000000) (k : FuncId) (fs cs : List PV) (hp : ∀ x ∈ l, zh Tryz.prog k (fs ++ [pA (encAttr x)] ++ cs) (fun r => r = .val (.bool (p x)))) :
  zh Tryz.prog 145 [.lst (l.map encAttr),.clo (.func k) fs cs] (fun r=>r = .val (.bool (l.any p))):=by
 refine zf [] Ty.mixed Tryz.func145 rfl (by kernel_rfl) (by simp[Tryz.ntmps145]) ?_; rw[Tryz.ntmps145,Tryz.results145]
 simp -implicitDefEqProofs only[go_sem]
 refine zba (z5q p l hl k fs cs hp) (by simp -implicitDefEqProofs only[go_sem]<;>rfl) (scal rfl) ?_
 simp -implicitDefEqProofs only[go_sem]
 exact zju
theorem z3o (p : zd0 → Bool) (l : List zd0) (hl : l.length ≤ 1000000) (k : FuncId) (fs cs : List PV) (hp : ∀ x ∈ l, zh Tryz.prog k (fs ++ [pA (encNode x)] ++ cs) (fun r => r = .val (.bool (p x)))) :
  zh Tryz.prog 118 [.lst (l.map encNode),.clo (.func k) fs cs] (fun r=>r = .val (.int .i64 (idxOf p l))):=by
 refine zf [] Ty.mixed Tryz.func118 rfl (by kernel_rfl) (by simp[Tryz.ntmps118]) ?_; rw[Tryz.ntmps118,Tryz.results118]
 simp -implicitDefEqProofs only[go_sem]
 refine zca (σ:=Nat) (fun x=>(upd (upd (upd (upd env0 0 (.p (.lst (l.map encNode)))) 1 (.p (.clo (.func k) fs cs))) 7 (.p (.val (.int .i64 l.length)))) 8 (.p (.val (.int .i64 x))))) (fun x=>heap0)
  (fun x=>x≤l.length∧∀j,j<x→p (l.getD j default)=false) (fun x=>l.length - x) 0 ⟨Nat.zero_le _,fun j hj=>absurd hj (Nat.not_lt_zero j)⟩ (zbq (by repeat (first | exact zbk _ | refine zbp ?_ (by first | rfl | simp[upd]))) (by repeat (first | exact hsub0 _ | refine zbb ?_ (by first | rfl | simp[hset]))) (by repeat (first | exact zbi _ | refine zbo ?_ (by simp[idsOk,idsOkL,hset]))) (by repeat (first | exact boxIds0 _ | refine z6 ?_ | refine zy ?_ | refine zx ?_ | refine z2 ?_ (by simp[idsOk,idsOkL,hset]))) (by repeat (first | exact keep0 _ | refine zbh (by decide) ?_ | refine zbc (by simp[hset]) ?_))) ?_
 rintro x ⟨hx,hq⟩
 simp -implicitDefEqProofs only[go_sem]
 refine zc (fun hc=>?_) (fun hc=>?_)
 ·have hlt:x<l.length:=by simpa using hc
  simp -implicitDefEqProofs only[go_sem,zj encNode hlt,hlt,encNode]
  refine zba (hp (l.getD x default) (by simp[hlt])) (by simp -implicitDefEqProofs only[go_sem,zfx,zfq,encNode,pA,Bool.or_false,Bool.false_or]<;>rfl) (scal rfl) ?_
  simp -implicitDefEqProofs only[go_sem]
  refine zc (fun hb=>?_) (fun hb=>?_)<;>simp -implicitDefEqProofs only[go_sem]
  ·exact (zkn hlt hq hb).symm
  ·refine zb9 (x+1) ⟨hlt,fun j hj=>?_⟩ (by omega) ?_
   ·rcases Nat.lt_succ_iff_lt_or_eq.1 hj with h | h
    ·exact hq j h
    ·rw[h]; exact hb
   ·rw[zt hlt (by omega)]
    exact (zbq (by repeat (first | exact zbk _ | refine zbp ?_ (by first | rfl | simp[upd]))) (by repeat (first | exact hsub0 _ | refine zbb ?_ (by first | rfl | simp[hset]))) (by repeat (first | exact zbi _ | refine zbo ?_ (by simp[idsOk,idsOkL,hset]))) (by repeat (first | exact boxIds0 _ | refine z6 ?_ | refine zy ?_ | refine zx ?_ | refine z2 ?_ (by simp[idsOk,idsOkL,hset]))) (by repeat (first | exact keep0 _ | refine zbh (by decide) ?_ | refine zbc (by simp[hset]) ?_)))
 ·have hge:l.length≤x:=by simpa using hc
  simp -implicitDefEqProofs only[go_sem,hc]
  rw[ziq fun j hj=>hq j (by omega)]
theorem zxh (p : zd0 → Bool) (l : List zd0) (hl : l.length ≤ 1000000) (k : FuncId) (fs cs : List PV) (hp : ∀ x ∈ l, zh Tryz.prog k (fs ++ [pA (encNode x)] ++ cs) (fun r => r = .val (.bool (p x)))) :
  zh Tryz.prog 85 [.lst (l.map encNode),.clo (.func k) fs cs] (fun r=>r = .val (.bool (l.any p))):=by
 refine zf [] Ty.mixed Tryz.func85 rfl (by kernel_rfl) (by simp[Tryz.ntmps85]) ?_; rw[Tryz.ntmps85,Tryz.results85]
 simp -implicitDefEqProofs only[go_sem]
 refine zba (z3o p l hl k fs cs hp) (by simp -implicitDefEqProofs only[go_sem]<;>rfl) (scal rfl) ?_
 simp -implicitDefEqProofs only[go_sem]
 exact zju
theorem z0i (p : zh2 → Bool) (l : List zh2) (hl : l.length ≤ 1000000) (k : FuncId) (fs cs : List PV) (hp : ∀ x ∈ l, zh Tryz.prog k (fs ++ [pA (encEdgeT x)] ++ cs) (fun r => r = .val (.bool (p x)))) :
  zh Tryz.prog 148 [.lst (l.map encEdgeT),.clo (.func k) fs cs] (fun r=>r = .val (.int .i64 (idxOf p l))):=by
 refine zf [] Ty.mixed Tryz.func148 rfl (by kernel_rfl) (by simp[Tryz.ntmps148]) ?_; rw[Tryz.ntmps148,Tryz.results148]
 simp -implicitDefEqProofs only[go_sem]
 refine zca (σ:=Nat) (fun x=>(upd (upd (upd (upd env0 0 (.p (.lst (l.map encEdgeT)))) 1 (.p (.clo (.func k) fs cs))) 7 (.p (.val (.int .i64 l.length)))) 8 (.p (.val (.int .i64 x))))) (fun x=>heap0)
  (fun x=>x≤l.length∧∀j,j<x→p (l.getD j default)=false) (fun x=>l.length - x) 0 ⟨Nat.zero_le _,fun j hj=>absurd hj (Nat.not_lt_zero j)⟩ (zbq (by repeat (first | exact zbk _ | refine zbp ?_ (by first | rfl | simp[upd]))) (by repeat (first | exact hsub0 _ | refine zbb ?_ (by first | rfl | simp[hset]))) (by repeat (first | exact zbi _ | refine zbo ?_ (by simp[idsOk,idsOkL,hset]))) (by repeat (first | exact boxIds0 _ | refine z6 ?_ | refine zy ?_ | refine zx ?_ | refine z2 ?_ (by simp[idsOk,idsOkL,hset]))) (by repeat (first | exact keep0 _ | refine zbh (by decide) ?_ | refine zbc (by simp[hset]) ?_))) ?_
 rintro x ⟨hx,hq⟩
 simp -implicitDefEqProofs only[go_sem]
 refine zc (fun hc=>?_) (fun hc=>?_)
 ·have hlt:x<l.length:=by simpa using hc
  simp -implicitDefEqProofs only[go_sem,zj encEdgeT hlt,hlt,encEdgeT]
  refine zba (hp (l.getD x default) (by simp[hlt])) (by simp -implicitDefEqProofs only[go_sem,zfx,zfq,encEdgeT,pA,Bool.or_false,Bool.false_or]<;>rfl) (scal rfl) ?_
  simp -implicitDefEqProofs only[go_sem]
  refine zc (fun hb=>?_) (fun hb=>?_)<;>simp -implicitDefEqProofs only[go_sem]
  ·exact (zkn hlt hq hb).symm
  ·refine zb9 (x+1) ⟨hlt,fun j hj=>?_⟩ (by omega) ?_
   ·rcases Nat.lt_succ_iff_lt_or_eq.1 hj with h | h
    ·exact hq j h
    ·rw[h]; exact hb
   ·rw[zt hlt (by omega)]
    exact (zbq (by repeat (first | exact zbk _ | refine zbp ?_ (by first | rfl | simp[upd]))) (by repeat (first | exact hsub0 _ | refine zbb ?_ (by first | rfl | simp[hset]))) (by repeat (first | exact zbi _ | refine zbo ?_ (by simp[idsOk,idsOkL,hset]))) (by repeat (first | exact boxIds0 _ | refine z6 ?_ | refine zy ?_ | refine zx ?_ | refine z2 ?_ (by simp[idsOk,idsOkL,hset]))) (by repeat (first | exact keep0 _ | refine zbh (by decide) ?_ | refine zbc (by simp[hset]) ?_)))
 ·have hge:l.length≤x:=by simpa using hc
  simp -implicitDefEqProofs only[go_sem,hc]
  rw[ziq fun j hj=>hq j (by omega)]
theorem zvk (p : zh2 → Bool) (l : List zh2) (hl : l.length ≤ 1000000) (k : FuncId) (fs cs : List PV) (hp : ∀ x ∈ l, zh Tryz.prog k (fs ++ [pA (encEdgeT x)] ++ cs) (fun r => r = .val (.bool (p x)))) :
  zh Tryz.prog 113 [.lst (l.map encEdgeT),.clo (.func k) fs cs] (fun r=>r = .val (.bool (l.any p))):=by
 refine zf [] Ty.mixed Tryz.func113 rfl (by kernel_rfl) (by simp[Tryz.ntmps113]) ?_; rw[Tryz.ntmps113,Tryz.results113]
 simp -implicitDefEqProofs only[go_sem]
 refine zba (z0i p l hl k fs cs hp) (by simp -implicitDefEqProofs only[go_sem]<;>rfl) (scal rfl) ?_
 simp -implicitDefEqProofs only[go_sem]
 exact zju
theorem z3m (p : Edge → Bool) (l : List Edge) (hl : l.length ≤ 1000000) (k : FuncId) (fs cs : List PV) (hp : ∀ x ∈ l, zh Tryz.prog k (fs ++ [pA (encEdge x)] ++ cs) (fun r => r = .val (.bool (p x)))) :
  zh Tryz.prog 232 [.lst (l.map encEdge),.clo (.func k) fs cs] (fun r=>r = .val (.int .i64 (idxOf p l))):=by
 refine zf [] Ty.mixed Tryz.func232 rfl (by kernel_rfl) (by simp[Tryz.ntmps232]) ?_; rw[Tryz.ntmps232,Tryz.results232]
 simp -implicitDefEqProofs only[go_sem]
 refine zca (σ:=Nat) (fun x=>(upd (upd (upd (upd env0 0 (.p (.lst (l.map encEdge)))) 1 (.p (.clo (.func k) fs cs))) 7 (.p (.val (.int .i64 l.length)))) 8 (.p (.val (.int .i64 x))))) (fun x=>heap0)
  (fun x=>x≤l.length∧∀j,j<x→p (l.getD j default)=false) (fun x=>l.length - x) 0 ⟨Nat.zero_le _,fun j hj=>absurd hj (Nat.not_lt_zero j)⟩ (zbq (by repeat (first | exact zbk _ | refine zbp ?_ (by first | rfl | simp[upd]))) (by repeat (first | exact hsub0 _ | refine zbb ?_ (by first | rfl | simp[hset]))) (by repeat (first | exact zbi _ | refine zbo ?_ (by simp[idsOk,idsOkL,hset]))) (by repeat (first | exact boxIds0 _ | refine z6 ?_ | refine zy ?_ | refine zx ?_ | refine z2 ?_ (by simp[idsOk,idsOkL,hset]))) (by repeat (first | exact keep0 _ | refine zbh (by decide) ?_ | refine zbc (by simp[hset]) ?_))) ?_
 rintro x ⟨hx,hq⟩
 simp -implicitDefEqProofs only[go_sem]
 refine zc (fun hc=>?_) (fun hc=>?_)
 ·have hlt:x<l.length:=by simpa using hc
  simp -implicitDefEqProofs only[go_sem,zj encEdge hlt,hlt,encEdge]
  refine zba (hp (l.getD x default) (by simp[hlt])) (by simp -implicitDefEqProofs only[go_sem,zfx,zfq,encEdge,pA,Bool.or_false,Bool.false_or]<;>rfl) (scal rfl) ?_
  simp -implicitDefEqProofs only[go_sem]
  refine zc (fun hb=>?_) (fun hb=>?_)<;>simp -implicitDefEqProofs only[go_sem]
  ·exact (zkn hlt hq hb).symm
  ·refine zb9 (x+1) ⟨hlt,fun j hj=>?_⟩ (by omega) ?_
   ·rcases Nat.lt_succ_iff_lt_or_eq.1 hj with h | h
    ·exact hq j h
    ·rw[h]; exact hb
   ·rw[zt hlt (by omega)]
    exact (zbq (by repeat (first | exact zbk _ | refine zbp ?_ (by first | rfl | simp[upd]))) (by repeat (first | exact hsub0 _ | refine zbb ?_ (by first | rfl | simp[hset]))) (by repeat (first | exact zbi _ | refine zbo ?_ (by simp[idsOk,idsOkL,hset]))) (by repeat (first | exact boxIds0 _ | refine z6 ?_ | refine zy ?_ | refine zx ?_ | refine z2 ?_ (by simp[idsOk,idsOkL,hset]))) (by repeat (first | exact keep0 _ | refine zbh (by decide) ?_ | refine zbc (by simp[hset]) ?_)))
 ·have hge:l.length≤x:=by simpa using hc
  simp -implicitDefEqProofs only[go_sem,hc]
  rw[ziq fun j hj=>hq j (by omega)]
theorem zxf (p : Edge → Bool) (l : List Edge) (hl : l.length ≤ 1000000) (k : FuncId) (fs cs : List PV) (hp : ∀ x ∈ l, zh Tryz.prog k (fs ++ [pA (encEdge x)] ++ cs) (fun r => r = .val (.bool (p x)))) :
  zh Tryz.prog 183 [.lst (l.map encEdge),.clo (.func k) fs cs] (fun r=>r = .val (.bool (l.any p))):=by
 refine zf [] Ty.mixed Tryz.func183 rfl (by kernel_rfl) (by simp[Tryz.ntmps183]) ?_; rw[Tryz.ntmps183,Tryz.results183]
 simp -implicitDefEqProofs only[go_sem]
 refine zba (z3m p l hl k fs cs hp) (by simp -implicitDefEqProofs only[go_sem]<;>rfl) (scal rfl) ?_
 simp -implicitDefEqProofs only[go_sem]
 exact zju
theorem z9s (p : Int → Bool) (l : List Int) (hl : l.length ≤ 1000000) (k : FuncId) (fs cs : List PV) (hp : ∀ x ∈ l, zh Tryz.prog k (fs ++ [pV (encI x)] ++ cs) (fun r => r = .val (.bool (p x)))) :
  zh Tryz.prog 74 [.lst (l.map encI),.clo (.func k) fs cs] (fun r=>r = .val (.int .i64 (idxOf p l))):=by
 refine zf [] Ty.mixed Tryz.func74 rfl (by kernel_rfl) (by simp[Tryz.ntmps74]) ?_; rw[Tryz.ntmps74,Tryz.results74]
 simp -implicitDefEqProofs only[go_sem]
 refine zca (σ:=Nat) (fun x=>(upd (upd (upd (upd env0 0 (.p (.lst (l.map encI)))) 1 (.p (.clo (.func k) fs cs))) 7 (.p (.val (.int .i64 l.length)))) 8 (.p (.val (.int .i64 x))))) (fun x=>heap0)
  (fun x=>x≤l.length∧∀j,j<x→p (l.getD j default)=false) (fun x=>l.length - x) 0 ⟨Nat.zero_le _,fun j hj=>absurd hj (Nat.not_lt_zero j)⟩ (zbq (by repeat (first | exact zbk _ | refine zbp ?_ (by first | rfl | simp[upd]))) (by repeat (first | exact hsub0 _ | refine zbb ?_ (by first | rfl | simp[hset]))) (by repeat (first | exact zbi _ | refine zbo ?_ (by simp[idsOk,idsOkL,hset]))) (by repeat (first | exact boxIds0 _ | refine z6 ?_ | refine zy ?_ | refine zx ?_ | refine z2 ?_ (by simp[idsOk,idsOkL,hset]))) (by repeat (first | exact keep0 _ | refine zbh (by decide) ?_ | refine zbc (by simp[hset]) ?_))) ?_
 rintro x ⟨hx,hq⟩
 simp -implicitDefEqProofs only[go_sem]
 refine zc (fun hc=>?_) (fun hc=>?_)
 ·have hlt:x<l.length:=by simpa using hc
  simp -implicitDefEqProofs only[go_sem,zj encI hlt,hlt,encI]
  refine zba (hp (l.getD x default) (by simp[hlt])) (by simp -implicitDefEqProofs only[go_sem,zfx,zfq,encI,pV,Bool.or_false,Bool.false_or]<;>rfl) (scal rfl) ?_
  simp -implicitDefEqProofs only[go_sem]
  refine zc (fun hb=>?_) (fun hb=>?_)<;>simp -implicitDefEqProofs only[go_sem]
  ·exact (zkn hlt hq hb).symm
  ·refine zb9 (x+1) ⟨hlt,fun j hj=>?_⟩ (by omega) ?_
   ·rcases Nat.lt_succ_iff_lt_or_eq.1 hj with h | h
    ·exact hq j h
    ·rw[h]; exact hb
   ·rw[zt hlt (by omega)]
    exact (zbq (by repeat (first | exact zbk _ | refine zbp ?_ (by first | rfl | simp[upd]))) (by repeat (first | exact hsub0 _ | refine zbb ?_ (by first | rfl | simp[hset]))) (by repeat (first | exact zbi _ | refine zbo ?_ (by simp[idsOk,idsOkL,hset]))) (by repeat (first | exact boxIds0 _ | refine z6 ?_ | refine zy ?_ | refine zx ?_ | refine z2 ?_ (by simp[idsOk,idsOkL,hset]))) (by repeat (first | exact keep0 _ | refine zbh (by decide) ?_ | refine zbc (by simp[hset]) ?_)))
 ·have hge:l.length≤x:=by simpa using hc
  simp -implicitDefEqProofs only[go_sem,hc]
  rw[ziq fun j hj=>hq j (by omega)]
theorem zq6 (p : Int → Bool) (l : List Int) (hl : l.length ≤ 1000000) (k : FuncId) (fs cs : List PV) (hp : ∀ x ∈ l, zh Tryz.prog k (fs ++ [pV (encI x)] ++ cs) (fun r => r = .val (.bool (p x)))) :
  zh Tryz.prog 45 [.lst (l.map encI),.clo (.func k) fs cs] (fun r=>r = .val (.bool (l.any p))):=by
 refine zf [] Ty.mixed Tryz.func45 rfl (by kernel_rfl) (by simp[Tryz.ntmps45]) ?_; rw[Tryz.ntmps45,Tryz.results45]
 simp -implicitDefEqProofs only[go_sem]
 refine zba (z9s p l hl k fs cs hp) (by simp -implicitDefEqProofs only[go_sem]<;>rfl) (scal rfl) ?_
 simp -implicitDefEqProofs only[go_sem]
 exact zju
end Go.Proofs.YthjgdkloabgcoaaGreat
namespace Go.Proofs.YthjgdkloabgcoaaGreat
open Go.Abs

theorem zbin (l : List Int) (y : Int) (hl : l.length ≤ 1000000) :
  zh Tryz.prog 248 [.lst (l.map encI),.val (.int .i64 y)] (fun r=>r = .val (.int .i64 (idxOf (fun x=>decide (y=x)) l))):=by
 refine zf [] Ty.mixed Tryz.func248 rfl (by kernel_rfl) (by simp[Tryz.ntmps248]) ?_; rw[Tryz.ntmps248,Tryz.results248]
 simp -implicitDefEqProofs only[go_sem]
 refine zca (σ:=Nat) (fun x=>(upd (upd (upd (upd env0 0 (.p (.lst (l.map encI)))) 1 (.p (.val (.int .i64 y)))) 7 (.p (.val (.int .i64 l.length)))) 8 (.p (.val (.int .i64 x))))) (fun x=>heap0)
  (fun x=>x≤l.length∧∀j,j<x→decide (y=l.getD j default)=false) (fun x=>l.length - x) 0 ⟨Nat.zero_le _,fun j hj=>absurd hj (Nat.not_lt_zero j)⟩ (zbq (by repeat (first | exact zbk _ | refine zbp ?_ (by first | rfl | simp[upd]))) (by repeat (first | exact hsub0 _ | refine zbb ?_ (by first | rfl | simp[hset]))) (by repeat (first | exact zbi _ | refine zbo ?_ (by simp[idsOk,idsOkL,hset]))) (by repeat (first | exact boxIds0 _ | refine z6 ?_ | refine zy ?_ | refine zx ?_ | refine z2 ?_ (by simp[idsOk,idsOkL,hset]))) (by repeat (first | exact keep0 _ | refine zbh (by decide) ?_ | refine zbc (by simp[hset]) ?_))) ?_
 rintro x ⟨hx,hq⟩
 simp -implicitDefEqProofs only[go_sem]
 refine zc (fun hc=>?_) (fun hc=>?_)
 ·have hlt:x<l.length:=by simpa using hc
  simp -implicitDefEqProofs only[go_sem,zj encI hlt,hlt,encI]
  refine zc (fun hb=>?_) (fun hb=>?_)<;>simp -implicitDefEqProofs only[go_sem]
  ·exact (zkn (p:=fun x=>decide (y=x)) hlt hq hb).symm
  ·refine zb9 (x+1) ⟨hlt,fun j hj=>?_⟩ (by omega) ?_
   ·rcases Nat.lt_succ_iff_lt_or_eq.1 hj with h | h
    ·exact hq j h
    ·rw[h]; exact hb
   ·rw[zt hlt (by omega)]
    exact (zbq (by repeat (first | exact zbk _ | refine zbp ?_ (by first | rfl | simp[upd]))) (by repeat (first | exact hsub0 _ | refine zbb ?_ (by first | rfl | simp[hset]))) (by repeat (first | exact zbi _ | refine zbo ?_ (by simp[idsOk,idsOkL,hset]))) (by repeat (first | exact boxIds0 _ | refine z6 ?_ | refine zy ?_ | refine zx ?_ | refine z2 ?_ (by simp[idsOk,idsOkL,hset]))) (by repeat (first | exact keep0 _ | refine zbh (by decide) ?_ | refine zbc (by simp[hset]) ?_)))
 ·have hge:l.length≤x:=by simpa using hc
  simp -implicitDefEqProofs only[go_sem,hc]
  rw[ziq fun j hj=>hq j (by omega)]
theorem zbf4 (l : List Int) (y : Int) (hl : l.length ≤ 1000000) :
  zh Tryz.prog 199 [.lst (l.map encI),.val (.int .i64 y)] (fun r=>r = .val (.bool (l.any fun x=>decide (y=x)))):=by
 refine zf [] Ty.mixed Tryz.func199 rfl (by kernel_rfl) (by simp[Tryz.ntmps199]) ?_; rw[Tryz.ntmps199,Tryz.results199]
 simp -implicitDefEqProofs only[go_sem]
 refine zba (zbin l y hl) (by simp -implicitDefEqProofs only[go_sem]<;>rfl) (scal rfl) ?_
 simp -implicitDefEqProofs only[go_sem]
 exact zju
theorem zbig (l : List ByteArray) (y : ByteArray) (hl : l.length ≤ 1000000) :
  zh Tryz.prog 227 [.lst (l.map encS),.val (.string y)] (fun r=>r = .val (.int .i64 (idxOf (fun x=>decide (y=x)) l))):=by
 refine zf [] Ty.mixed Tryz.func227 rfl (by kernel_rfl) (by simp[Tryz.ntmps227]) ?_; rw[Tryz.ntmps227,Tryz.results227]
 simp -implicitDefEqProofs only[go_sem]
 refine zca (σ:=Nat) (fun x=>(upd (upd (upd (upd env0 0 (.p (.lst (l.map encS)))) 1 (.p (.val (.string y)))) 7 (.p (.val (.int .i64 l.length)))) 8 (.p (.val (.int .i64 x))))) (fun x=>heap0)
  (fun x=>x≤l.length∧∀j,j<x→decide (y=l.getD j default)=false) (fun x=>l.length - x) 0 ⟨Nat.zero_le _,fun j hj=>absurd hj (Nat.not_lt_zero j)⟩ (zbq (by repeat (first | exact zbk _ | refine zbp ?_ (by first | rfl | simp[upd]))) (by repeat (first | exact hsub0 _ | refine zbb ?_ (by first | rfl | simp[hset]))) (by repeat (first | exact zbi _ | refine zbo ?_ (by simp[idsOk,idsOkL,hset]))) (by repeat (first | exact boxIds0 _ | refine z6 ?_ | refine zy ?_ | refine zx ?_ | refine z2 ?_ (by simp[idsOk,idsOkL,hset]))) (by repeat (first | exact keep0 _ | refine zbh (by decide) ?_ | refine zbc (by simp[hset]) ?_))) ?_
 rintro x ⟨hx,hq⟩
 simp -implicitDefEqProofs only[go_sem]
 refine zc (fun hc=>?_) (fun hc=>?_)
 ·have hlt:x<l.length:=by simpa using hc
  simp -implicitDefEqProofs only[go_sem,zj encS hlt,hlt,encS]
  refine zc (fun hb=>?_) (fun hb=>?_)<;>simp -implicitDefEqProofs only[go_sem]
  ·exact (zkn (p:=fun x=>decide (y=x)) hlt hq hb).symm
  ·refine zb9 (x+1) ⟨hlt,fun j hj=>?_⟩ (by omega) ?_
   ·rcases Nat.lt_succ_iff_lt_or_eq.1 hj with h | h
    ·exact hq j h
    ·rw[h]; exact hb
   ·rw[zt hlt (by omega)]
    exact (zbq (by repeat (first | exact zbk _ | refine zbp ?_ (by first | rfl | simp[upd]))) (by repeat (first | exact hsub0 _ | refine zbb ?_ (by first | rfl | simp[hset]))) (by repeat (first | exact zbi _ | refine zbo ?_ (by simp[idsOk,idsOkL,hset]))) (by repeat (first | exact boxIds0 _ | refine z6 ?_ | refine zy ?_ | refine zx ?_ | refine z2 ?_ (by simp[idsOk,idsOkL,hset]))) (by repeat (first | exact keep0 _ | refine zbh (by decide) ?_ | refine zbc (by simp[hset]) ?_)))
 ·have hge:l.length≤x:=by simpa using hc
  simp -implicitDefEqProofs only[go_sem,hc]
  rw[ziq fun j hj=>hq j (by omega)]
theorem z18 (l : List ByteArray) (y : ByteArray) (hl : l.length ≤ 1000000) :
  zh Tryz.prog 180 [.lst (l.map encS),.val (.string y)] (fun r=>r = .val (.bool (l.any fun x=>decide (y=x)))):=by
 refine zf [] Ty.mixed Tryz.func180 rfl (by kernel_rfl) (by simp[Tryz.ntmps180]) ?_; rw[Tryz.ntmps180,Tryz.results180]
 simp -implicitDefEqProofs only[go_sem]
 refine zba (zbig l y hl) (by simp -implicitDefEqProofs only[go_sem]<;>rfl) (scal rfl) ?_
 simp -implicitDefEqProofs only[go_sem]
 exact zju
end Go.Proofs.YthjgdkloabgcoaaGreat
namespace Go.Proofs.YthjgdkloabgcoaaGreat
open Go.Abs

theorem ztd (n:Int):zh Tryz.prog 223 [.val (.int .u8 n)] (fun r=>r = .val (.bool (digitB n))):=by
 unfold digitB
 refine zf [] Ty.mixed Tryz.func223 rfl (by kernel_rfl) (by simp[Tryz.ntmps223]) ?_; rw[Tryz.ntmps223,Tryz.results223]
 simp -implicitDefEqProofs only[go_sem]
 repeat' first | done | (refine zw (fun h=>?_) (fun h=>?_)<;>try simp -implicitDefEqProofs only[go_sem,h]) | (refine zq (fun h=>?_) (fun h=>?_)<;>try simp -implicitDefEqProofs only[go_sem,h]) | (refine zg (fun h=>?_) (fun h=>?_)<;>try simp -implicitDefEqProofs only[go_sem,h]) | (refine zc (fun h=>?_) (fun h=>?_)<;>try simp -implicitDefEqProofs only[go_sem,h])
theorem zbfn (n:Int):zh Tryz.prog 222 [.val (.int .u8 n)] (fun r=>r = .val (.bool (partB n))):=by
 unfold partB
 refine zf [] Ty.mixed Tryz.func222 rfl (by kernel_rfl) (by simp[Tryz.ntmps222]) ?_; rw[Tryz.ntmps222,Tryz.results222]
 simp -implicitDefEqProofs only[go_sem]
 refine zba (zv9 n) (by simp -implicitDefEqProofs only[go_sem]<;>rfl) (scal rfl) ?_
 simp -implicitDefEqProofs only[go_sem]
 refine zw (fun h=>?_) (fun h=>?_)<;>simp -implicitDefEqProofs only[go_sem,h]
 refine zba (ztd n) (by simp -implicitDefEqProofs only[go_sem]<;>rfl) (scal rfl) ?_
 simp -implicitDefEqProofs only[go_sem]
 refine zw (fun h=>?_) (fun h=>?_)<;>simp -implicitDefEqProofs only[go_sem,h]
def quotB (n:Int):Bool:=(decide (32≤n)&&decide (n≤126)) && !decide (n=34)
theorem zbdo (n:Int):zh Tryz.prog 263 [.val (.int .u8 n)] (fun r=>r = .val (.bool (quotB n))):=by
 unfold quotB
 refine zf [] Ty.mixed Tryz.func263 rfl (by kernel_rfl) (by simp[Tryz.ntmps263]) ?_; rw[Tryz.ntmps263,Tryz.results263]
 simp -implicitDefEqProofs only[go_sem]
 repeat' first | done | (refine zw (fun h=>?_) (fun h=>?_)<;>try simp -implicitDefEqProofs only[go_sem,h]) | (refine zq (fun h=>?_) (fun h=>?_)<;>try simp -implicitDefEqProofs only[go_sem,h]) | (refine zg (fun h=>?_) (fun h=>?_)<;>try simp -implicitDefEqProofs only[go_sem,h]) | (refine zc (fun h=>?_) (fun h=>?_)<;>try simp -implicitDefEqProofs only[go_sem,h])

def runF (p:Int→Bool) (s:ByteArray) (a:Nat):Nat:=((List.range (s.size - a)).takeWhile fun j=>p (sbyte s (a+j))).length
theorem zt5 (q:Nat→Bool):∀ (m n:Nat),n≤m→(∀j,j<n→q j=true)→(n=m∨q n=false)→((List.range m).takeWhile q).length=n:=by
 intro m n hn h1 h2
 have e:List.range m=List.range n++(List.range (m - n)).map (n + ·):=by
  rw[←List.range_add]; congr 1; omega
 rw[e,List.takeWhile_append_of_pos (by intro j hj; exact h1 j (List.mem_range.1 hj))]
 rcases h2 with rfl | h2
 ·simp
 ·cases hm:m - n with
  | zero=>simp
  | succ r=>simp[List.range_succ_eq_map,h2]
theorem zsd {p:Int→Bool} {s:ByteArray} {a n:Nat} (hn:a+n≤s.size) (h1:∀j,j<n→p (sbyte s (a+j))=true) (h2:a+n=s.size∨p (sbyte s (a+n))=false):runF p s a=n :=
 zt5 _ _ _ (by omega) h1 (by rcases h2 with h | h; exact .inl (by omega); exact .inr h)
theorem zve (p:Int→Bool) (s:ByteArray) (a:Nat):runF p s a≤s.size - a:=by
 unfold runF
 exact Nat.le_trans (List.takeWhile_sublist _).length_le (by simp)

theorem zy6 (p : Int → Bool) (s : ByteArray) (hl : s.size ≤ 1000000) (k : FuncId) (fs cs : List PV) (hp : ∀ n, zh Tryz.prog k (fs ++ [.val (.int .u8 n)] ++ cs) (fun r => r = .val (.bool (p n)))) :
  zh Tryz.prog 221 [.val (.string s),.clo (.func k) fs cs] (fun r=>r = .val (.int .i64 (runF p s 0))):=by
 refine zf [] Ty.mixed Tryz.func221 rfl (by kernel_rfl) (by simp[Tryz.ntmps221]) ?_; rw[Tryz.ntmps221,Tryz.results221]
 simp -implicitDefEqProofs only[go_sem]
 refine zca (σ:=Nat) (fun x=>(upd (upd (upd env0 0 (.p (.val (.string s)))) 1 (.p (.clo (.func k) fs cs))) 5 (.p (.val (.int .i64 x))))) (fun x=>heap0)
  (fun x=>x≤s.size∧∀j,j<x→p (sbyte s (0+j))=true) (fun x=>s.size - x) 0 ⟨Nat.zero_le _,fun j hj=>absurd hj (Nat.not_lt_zero j)⟩ (zbq (by repeat (first | exact zbk _ | refine zbp ?_ (by first | rfl | simp[upd]))) (by repeat (first | exact hsub0 _ | refine zbb ?_ (by first | rfl | simp[hset]))) (by repeat (first | exact zbi _ | refine zbo ?_ (by simp[idsOk,idsOkL,hset]))) (by repeat (first | exact boxIds0 _ | refine z6 ?_ | refine zy ?_ | refine zx ?_ | refine z2 ?_ (by simp[idsOk,idsOkL,hset]))) (by repeat (first | exact keep0 _ | refine zbh (by decide) ?_ | refine zbc (by simp[hset]) ?_))) ?_
 rintro x ⟨hx,hq⟩
 simp -implicitDefEqProofs only[go_sem]
 refine zq (fun hc=>?_) (fun hc=>?_)
 ·have hlt:x<s.size:=by simpa using hc
  simp -implicitDefEqProofs only[go_sem,hlt,hc]
  refine zba (hp (sbyte s x)) (by simp -implicitDefEqProofs only[go_sem,zfx,zfq,Bool.or_false,Bool.false_or]<;>rfl) (scal rfl) ?_
  simp -implicitDefEqProofs only[go_sem,hc]
  refine zc (fun hb=>?_) (fun hb=>?_)<;>simp -implicitDefEqProofs only[go_sem]
  ·refine zb9 (x+1) ⟨hlt,fun j hj=>?_⟩ (by omega) ?_
   ·rcases Nat.lt_succ_iff_lt_or_eq.1 hj with h | h
    ·simpa using hq j h
    ·rw[h]; exact hb
   ·rw[zt hlt (by omega)]
    exact (zbq (by repeat (first | exact zbk _ | refine zbp ?_ (by first | rfl | simp[upd]))) (by repeat (first | exact hsub0 _ | refine zbb ?_ (by first | rfl | simp[hset]))) (by repeat (first | exact zbi _ | refine zbo ?_ (by simp[idsOk,idsOkL,hset]))) (by repeat (first | exact boxIds0 _ | refine z6 ?_ | refine zy ?_ | refine zx ?_ | refine z2 ?_ (by simp[idsOk,idsOkL,hset]))) (by repeat (first | exact keep0 _ | refine zbh (by decide) ?_ | refine zbc (by simp[hset]) ?_)))
  ·rw[zsd (by omega) hq (.inr (by rw[Nat.zero_add]; exact hb))]
 ·have hge:s.size≤x:=by simpa using hc
  simp -implicitDefEqProofs only[go_sem,hc]
  rw[zsd (by omega) hq (.inl (by omega))]

theorem z8d (s:ByteArray) (hl:s.size≤1000000) (h0:0<s.size):zh Tryz.prog 224 [.val (.string s)] (fun r=>∃n e:Int,r = .tup [.val (.int .i64 n),.val (.int .i64 e)]):=by
 have h1:((s.extract 1 s.size).size:Int)=s.size - 1:=by simp; omega
 have h2:=zve quotB (s.extract 1 s.size) 0
 generalize hm:runF quotB (s.extract 1 s.size) 0=m at h2
 have h3:IntKind.i64.wrap (1+(m:Int))=((m+1:Nat):Int):=by rw[IntWalk.i64_in _ (by omega)]; omega
 refine zf [] Ty.mixed Tryz.func224 rfl (by kernel_rfl) (by simp[Tryz.ntmps224]) ?_; rw[Tryz.ntmps224,Tryz.results224]
 simp -implicitDefEqProofs only[go_sem]
 refine⟨⟨by omega,by omega,by omega⟩,?_⟩
 refine zba (zy6 quotB (s.extract 1 s.size) (by simp; omega) _ [] [] zbdo) (by simp -implicitDefEqProofs only[go_sem]<;>rfl) (scal rfl) ?_
 simp -implicitDefEqProofs only[go_sem,hm,h3]
 refine zw (fun h=>?_) (fun h=>?_)
 ·simp -implicitDefEqProofs only[go_sem,h]
  exact⟨_,_,rfl,rfl⟩
 ·have hne:m+1≠s.size:=by intro e; rw[e] at h; simp at h
  have hlt:m+1<s.size:=by simp at h2; omega
  simp -implicitDefEqProofs only[go_sem,h,h3,hlt]
  refine zc (fun hb=>?_) (fun hb=>?_)<;>simp -implicitDefEqProofs only[go_sem]
  ·exact⟨_,_,rfl,rfl⟩
  ·refine zc (fun hb=>?_) (fun hb=>?_)<;>simp -implicitDefEqProofs only[go_sem]
   ·exact⟨_,_,rfl,rfl⟩
   ·exact⟨_,_,rfl,rfl⟩

def pairL:List ByteArray:=[⟨#[45,62]⟩,⟨#[60,61]⟩,⟨#[62,61]⟩,⟨#[61,61]⟩,⟨#[33,61]⟩]
theorem zbgr (s:ByteArray):zh Tryz.prog 225 [.val (.string s)] (fun r=>∃b:Bool,r = .val (.bool b)):=by
 refine zf [] Ty.mixed Tryz.func225 rfl (by kernel_rfl) (by simp[Tryz.ntmps225]) ?_; rw[Tryz.ntmps225,Tryz.results225]
 simp -implicitDefEqProofs only[go_sem]
 refine zq (fun h=>?_) (fun h=>?_)
 ·have h2:(2:Int)≤s.size:=of_decide_eq_true h
  simp -implicitDefEqProofs only[go_sem,h]
  refine⟨⟨by decide,by decide,h2⟩,?_⟩
  refine zba (z18 pairL (s.extract 0 2) (by decide)) (by simp -implicitDefEqProofs only[go_sem]<;>rfl) (scal rfl) ?_
  simp -implicitDefEqProofs only[go_sem,h]
  all_goals exact⟨_,rfl⟩
 ·simp -implicitDefEqProofs only[go_sem,h]
  all_goals exact⟨_,rfl⟩
theorem zbfg (s:ByteArray) (n:Int):ExtV Tryz.prog 278 [.val (.string s),.val (.int .u8 n)] (.val (.int .i64 (Lib.indexByte s.data.toList n.toNat.toUInt8))):=by
 intro I w us hu
 obtain⟨hl,hv⟩:=hu
 match us,hl,hv with
 | [a,b],_,hv =>
  have ha:=hv 0 a _ rfl rfl
  have hb:=hv 1 b _ rfl rfl
  cases ha
  cases hb
  refine⟨_,?_,.val _ rfl⟩
  rw[run_callFunc_extern Tryz.func278 (by kernel_rfl) (by kernel_rfl) (by kernel_rfl) (e:=Extern.BytealgIndexByte.indexByte) (by kernel_rfl)]
  rw[Lib.run_indexByteString]
  try rfl
theorem zbfq (s:ByteArray) (n:Int):zh Tryz.prog 264 [.val (.string s),.val (.int .u8 n)] (fun r=>∃m:Int,r = .val (.int .i64 m)):=by
 refine zf [] Ty.mixed Tryz.func264 rfl (by kernel_rfl) (by simp[Tryz.ntmps264]) ?_; rw[Tryz.ntmps264,Tryz.results264]
 simp -implicitDefEqProofs only[go_sem]
 refine zbdr (zbfg s n) rfl ?_
 simp -implicitDefEqProofs only[go_sem]
 all_goals exact⟨_,rfl⟩
theorem zbf1 (s:ByteArray) (n:Int):zh Tryz.prog 226 [.val (.string s),.val (.int .u8 n)] (fun r=>∃m:Int,r = .val (.int .i64 m)):=by
 refine zf [] Ty.mixed Tryz.func226 rfl (by kernel_rfl) (by simp[Tryz.ntmps226]) ?_; rw[Tryz.ntmps226,Tryz.results226]
 simp -implicitDefEqProofs only[go_sem]
 refine zjn (zbfq s n) (by simp -implicitDefEqProofs only[go_sem]<;>rfl) ?_
 rintro r ⟨m,rfl⟩
 refine⟨scal rfl,?_⟩
 simp -implicitDefEqProofs only[go_sem]
 all_goals exact⟨_,rfl⟩

def nameB (s:ByteArray):Bool:=decide (s.size≠0)&&letterB (sbyte s 0)&&decide (runF partB s 0=s.size)&&decide (s.size≤20)

theorem zn4 (s:ByteArray):nameB s=true↔s.size≠0∧letterB (sbyte s 0)=true∧runF partB s 0=s.size∧s.size≤20:=by
 unfold nameB
 simp only[Bool.and_eq_true,decide_eq_true_eq,and_assoc]

theorem zbfe (s : ByteArray) (hl : s.size ≤ 1000000) (h0 : 0 < s.size) : zh Tryz.prog 178 [.val (.string s)] (fun r =>
  ∃k n e:Int,r = .tup [.val (.int .i64 k),.val (.int .i64 n),.val (.int .i64 e)]∧((e=0∧k=1∧n=s.size)↔nameB s=true)):=by
 have h0':(0:Int)<s.size:=by omega
 refine zf [] Ty.mixed Tryz.func178 rfl (by kernel_rfl) (by simp[Tryz.ntmps178]) ?_; rw[Tryz.ntmps178,Tryz.results178]
 simp -implicitDefEqProofs only[go_sem]
 refine⟨⟨by decide,h0'⟩,?_⟩
 refine zba (zv9 (sbyte s 0)) (by simp -implicitDefEqProofs only[go_sem]<;>rfl) (scal rfl) ?_
 simp -implicitDefEqProofs only[go_sem]
 refine zc (fun hc=>?_) (fun hc=>?_)<;>simp -implicitDefEqProofs only[go_sem]
 ·refine zba (zy6 partB s hl _ [] [] zbfn) (by simp -implicitDefEqProofs only[go_sem]<;>rfl) (scal rfl) ?_
  simp -implicitDefEqProofs only[go_sem]
  refine zc (fun hd=>?_) (fun hd=>?_)<;>simp -implicitDefEqProofs only[go_sem]
  ·have hd':=of_decide_eq_true hd
   refine⟨_,_,_,⟨rfl,rfl,rfl⟩,?_⟩
   rw[zn4]
   constructor
   ·rintro⟨h,_⟩; omega
   ·rintro⟨_,_,h1,h2⟩; omega
  ·have hd':=of_decide_eq_false hd
   refine⟨_,_,_,⟨rfl,rfl,rfl⟩,?_⟩
   rw[zn4]
   constructor
   ·rintro⟨_,_,h⟩; exact⟨by omega,hc,by omega,by omega⟩
   ·rintro⟨_,_,h1,h2⟩; exact⟨rfl,rfl,by omega⟩
 ·have hn:nameB s=false:=by simp[nameB,hc]
  refine zba (ztd (sbyte s 0)) (by simp -implicitDefEqProofs only[go_sem]<;>rfl) (scal rfl) ?_
  simp -implicitDefEqProofs only[go_sem]
  refine zc (fun hd=>?_) (fun hd=>?_)<;>simp -implicitDefEqProofs only[go_sem]
  ·refine zba (zy6 digitB s hl _ [] [] ztd) (by simp -implicitDefEqProofs only[go_sem]<;>rfl) (scal rfl) ?_
   simp -implicitDefEqProofs only[go_sem]
   refine zc (fun hd=>?_) (fun hd=>?_)<;>simp -implicitDefEqProofs only[go_sem]
   ·exact⟨_,_,_,⟨rfl,rfl,rfl⟩,by simp[hn]⟩
   ·exact⟨_,_,_,⟨rfl,rfl,rfl⟩,by simp[hn]⟩
  ·refine zc (fun hq=>?_) (fun hq=>?_)<;>simp -implicitDefEqProofs only[go_sem]
   ·refine zjn (z8d s hl h0) (by simp -implicitDefEqProofs only[go_sem]<;>rfl) ?_
    rintro r ⟨n,e,rfl⟩
    refine⟨scal rfl,?_⟩
    simp -implicitDefEqProofs only[go_sem]
    exact⟨_,_,_,⟨rfl,rfl,rfl⟩,by simp[hn]⟩
   ·refine zjn (zbgr s) (by simp -implicitDefEqProofs only[go_sem]<;>rfl) ?_
    rintro r ⟨b,rfl⟩
    refine⟨scal rfl,?_⟩
    simp -implicitDefEqProofs only[go_sem]
    refine zc (fun hp=>?_) (fun hp=>?_)<;>simp -implicitDefEqProofs only[go_sem]
    ·exact⟨_,_,_,⟨rfl,rfl,rfl⟩,by simp[hn]⟩
    ·refine zjn (zbf1 _ _) (by simp -implicitDefEqProofs only[go_sem]<;>rfl) ?_
     rintro r ⟨b,rfl⟩
     refine⟨scal rfl,?_⟩
     simp -implicitDefEqProofs only[go_sem]
     refine zc (fun hp=>?_) (fun hp=>?_)<;>simp -implicitDefEqProofs only[go_sem]
     ·exact⟨_,_,_,⟨rfl,rfl,rfl⟩,by simp[hn]⟩
     ·exact⟨_,_,_,⟨rfl,rfl,rfl⟩,by simp[hn]⟩

theorem zbej (s:ByteArray) (hl:s.size≤1000000):zh Tryz.prog 144 [.agg [.val (.int .i64 1),.val (.string s),.val (.int .i64 0)]] (fun r=>∃u:ByteArray,r = .tup [.val (.string u),.val (.bool (nameB s))]):=by
 refine zf [] Ty.mixed Tryz.func144 rfl (by kernel_rfl) (by simp[Tryz.ntmps144]) ?_; rw[Tryz.ntmps144,Tryz.results144]
 simp -implicitDefEqProofs only[go_sem,Int.reduceEq]
 refine zc (fun hc=>?_) (fun hc=>?_)<;>simp -implicitDefEqProofs only[go_sem]
 ·have he:s=⟨#[]⟩:=of_decide_eq_true hc
  have:nameB s=false:=by rw[he]; try rfl
  rw[this]
  exact⟨_,rfl,rfl⟩
 ·have he:s≠⟨#[]⟩:=of_decide_eq_false hc
  have h0:0<s.size:=by
   rcases Nat.eq_zero_or_pos s.size with h | h
   ·exact absurd (ByteArray.ext (Array.eq_empty_of_size_eq_zero h)) he
   ·exact h
  refine zjn (zbfe s hl h0) (by simp -implicitDefEqProofs only[go_sem]<;>rfl) ?_
  rintro r ⟨k,n,e,rfl,hiff⟩
  refine⟨scal rfl,?_⟩
  have hn:nameB s=((decide (e=0)&&decide (k=1))&&decide (n=s.size)):=by
   rw[Bool.eq_iff_iff,←hiff]
   simp only[Bool.and_eq_true,decide_eq_true_eq,and_assoc]
  rw[hn]
  simp -implicitDefEqProofs only[go_sem]
  refine zq (fun h=>?_) (fun h=>?_)<;>simp -implicitDefEqProofs only[go_sem,h,exists_eq',exists_and_right,and_true,true_and]
  refine zq (fun h'=>?_) (fun h'=>?_)<;>simp -implicitDefEqProofs only[go_sem,h,h',exists_eq',exists_and_right,and_true,true_and]
theorem zma (s:ByteArray) (hl:s.size≤1000000):zh Tryz.prog 108 [.val (.string s)] (fun r=>r = .val (.bool (nameB s))):=by
 refine zf [] Ty.mixed Tryz.func108 rfl (by kernel_rfl) (by simp[Tryz.ntmps108]) ?_; rw[Tryz.ntmps108,Tryz.results108]
 simp -implicitDefEqProofs only[go_sem]
 refine zjn (zbej s hl) (by simp -implicitDefEqProofs only[go_sem]<;>rfl) ?_
 rintro r ⟨u,rfl⟩
 refine⟨scal rfl,?_⟩
 simp -implicitDefEqProofs only[go_sem]
end Go.Proofs.YthjgdkloabgcoaaGreat
namespace Go.Proofs.YthjgdkloabgcoaaGreat
open Go.Abs

theorem zuh (n:Int):zh Tryz.prog 255 [.val (.int .u8 n)] (fun r=>r = .val (.bool (letterB n))):=by
 unfold letterB
 refine zf [] Ty.mixed Tryz.func255 rfl (by kernel_rfl) (by simp[Tryz.ntmps255]) ?_; rw[Tryz.ntmps255,Tryz.results255]
 simp -implicitDefEqProofs only[go_sem]
 repeat' first | done | (refine zw (fun h=>?_) (fun h=>?_)<;>try simp -implicitDefEqProofs only[go_sem,h]) | (refine zq (fun h=>?_) (fun h=>?_)<;>try simp -implicitDefEqProofs only[go_sem,h]) | (refine zg (fun h=>?_) (fun h=>?_)<;>try simp -implicitDefEqProofs only[go_sem,h]) | (refine zc (fun h=>?_) (fun h=>?_)<;>try simp -implicitDefEqProofs only[go_sem,h])
theorem zky (n:Int):zh Tryz.prog 256 [.val (.int .u8 n)] (fun r=>r = .val (.bool (digitB n))):=by
 unfold digitB
 refine zf [] Ty.mixed Tryz.func256 rfl (by kernel_rfl) (by simp[Tryz.ntmps256]) ?_; rw[Tryz.ntmps256,Tryz.results256]
 simp -implicitDefEqProofs only[go_sem]
 repeat' first | done | (refine zw (fun h=>?_) (fun h=>?_)<;>try simp -implicitDefEqProofs only[go_sem,h]) | (refine zq (fun h=>?_) (fun h=>?_)<;>try simp -implicitDefEqProofs only[go_sem,h]) | (refine zg (fun h=>?_) (fun h=>?_)<;>try simp -implicitDefEqProofs only[go_sem,h]) | (refine zc (fun h=>?_) (fun h=>?_)<;>try simp -implicitDefEqProofs only[go_sem,h])
def rpartB (digits:Bool) (n:Int):Bool:=digitB n||(!digits&&(letterB n||decide (n=95)))
theorem zx3:rpartB false=partB:=by
 funext n
 unfold rpartB partB
 cases digitB n<;>cases letterB n<;>simp

theorem z2u (s : ByteArray) (hl : s.size ≤ 1000000) (b : Bool) :
  zh Tryz.prog 257 [.val (.string s),.val (.int .i64 0),.val (.bool b)] (fun r=>r = .val (.int .i64 (runF (rpartB b) s 0))):=by
 refine zf [] Ty.mixed Tryz.func257 rfl (by kernel_rfl) (by simp[Tryz.ntmps257]) ?_; rw[Tryz.ntmps257,Tryz.results257]
 simp -implicitDefEqProofs only[go_sem]
 refine zca (σ:=Nat) (fun x=>(upd (upd (upd (upd env0 0 (.p (.val (.string s)))) 1 (.p (.val (.int .i64 0)))) 2 (.p (.val (.bool b)))) 7 (.p (.val (.int .i64 x))))) (fun x=>heap0)
  (fun x=>x≤s.size∧∀j,j<x→rpartB b (sbyte s (0+j))=true) (fun x=>s.size - x) 0 ⟨Nat.zero_le _,fun j hj=>absurd hj (Nat.not_lt_zero j)⟩ (zbq (by repeat (first | exact zbk _ | refine zbp ?_ (by first | rfl | simp[upd]))) (by repeat (first | exact hsub0 _ | refine zbb ?_ (by first | rfl | simp[hset]))) (by repeat (first | exact zbi _ | refine zbo ?_ (by simp[idsOk,idsOkL,hset]))) (by repeat (first | exact boxIds0 _ | refine z6 ?_ | refine zy ?_ | refine zx ?_ | refine z2 ?_ (by simp[idsOk,idsOkL,hset]))) (by repeat (first | exact keep0 _ | refine zbh (by decide) ?_ | refine zbc (by simp[hset]) ?_))) ?_
 rintro x ⟨hx,hq⟩
 have hw:IntKind.i64.wrap (0+(x:Int))=x:=by rw[IntWalk.i64_in _ (by omega)]; omega
 simp -implicitDefEqProofs only[go_sem,hw]
 refine zq (fun hc=>?_) (fun hc=>?_)
 ·have hlt:x<s.size:=by simpa using hc
  have fin (h:rpartB b (sbyte s x)=false):((x:Nat):Int)=(runF (rpartB b) s 0:Nat):=by rw[zsd (by omega) hq (.inr (by rw[Nat.zero_add]; exact h))]
  simp -implicitDefEqProofs only[go_sem,hlt,hc,hw]
  refine zba (zky (sbyte s x)) (by simp -implicitDefEqProofs only[go_sem]<;>rfl) (scal rfl) ?_
  simp -implicitDefEqProofs only[go_sem,hc,hw]
  refine zw (fun h1=>?_) (fun h1=>?_)<;>simp -implicitDefEqProofs only[go_sem,h1,hc,hw]
  ·refine zb9 (x+1) ⟨hlt,fun j hj=>?_⟩ (by omega) ?_
   ·rcases Nat.lt_succ_iff_lt_or_eq.1 hj with h | h
    ·simpa using hq j h
    ·rw[h]; simp[rpartB,h1]
   ·rw[zt hlt (by omega)]
    exact (zbq (by repeat (first | exact zbk _ | refine zbp ?_ (by first | rfl | simp[upd]))) (by repeat (first | exact hsub0 _ | refine zbb ?_ (by first | rfl | simp[hset]))) (by repeat (first | exact zbi _ | refine zbo ?_ (by simp[idsOk,idsOkL,hset]))) (by repeat (first | exact boxIds0 _ | refine z6 ?_ | refine zy ?_ | refine zx ?_ | refine z2 ?_ (by simp[idsOk,idsOkL,hset]))) (by repeat (first | exact keep0 _ | refine zbh (by decide) ?_ | refine zbc (by simp[hset]) ?_)))
  ·refine zw (fun h2=>?_) (fun h2=>?_)<;>simp -implicitDefEqProofs only[go_sem,h1,h2,hc,hw]
   ·subst h2
    exact fin (by simp[rpartB,h1])
   ·subst h2
    refine⟨hlt,?_⟩
    refine zba (zuh (sbyte s x)) (by simp -implicitDefEqProofs only[go_sem]<;>rfl) (scal rfl) ?_
    simp -implicitDefEqProofs only[go_sem,hc,hw]
    refine zw (fun h3=>?_) (fun h3=>?_)<;>simp -implicitDefEqProofs only[go_sem,h1,h3,hc,hw,hlt]
    ·refine zb9 (x+1) ⟨hlt,fun j hj=>?_⟩ (by omega) ?_
     ·rcases Nat.lt_succ_iff_lt_or_eq.1 hj with h | h
      ·simpa using hq j h
      ·rw[h]; simp[rpartB,h3]
     ·rw[zt hlt (by omega)]
      exact (zbq (by repeat (first | exact zbk _ | refine zbp ?_ (by first | rfl | simp[upd]))) (by repeat (first | exact hsub0 _ | refine zbb ?_ (by first | rfl | simp[hset]))) (by repeat (first | exact zbi _ | refine zbo ?_ (by simp[idsOk,idsOkL,hset]))) (by repeat (first | exact boxIds0 _ | refine z6 ?_ | refine zy ?_ | refine zx ?_ | refine z2 ?_ (by simp[idsOk,idsOkL,hset]))) (by repeat (first | exact keep0 _ | refine zbh (by decide) ?_ | refine zbc (by simp[hset]) ?_)))
    ·refine zc (fun h4=>?_) (fun h4=>?_)<;>simp -implicitDefEqProofs only[go_sem]
     ·refine zb9 (x+1) ⟨hlt,fun j hj=>?_⟩ (by omega) ?_
      ·rcases Nat.lt_succ_iff_lt_or_eq.1 hj with h | h
       ·simpa using hq j h
       ·rw[h]; simp[rpartB,h4]
      ·rw[zt hlt (by omega)]
       exact (zbq (by repeat (first | exact zbk _ | refine zbp ?_ (by first | rfl | simp[upd]))) (by repeat (first | exact hsub0 _ | refine zbb ?_ (by first | rfl | simp[hset]))) (by repeat (first | exact zbi _ | refine zbo ?_ (by simp[idsOk,idsOkL,hset]))) (by repeat (first | exact boxIds0 _ | refine z6 ?_ | refine zy ?_ | refine zx ?_ | refine z2 ?_ (by simp[idsOk,idsOkL,hset]))) (by repeat (first | exact keep0 _ | refine zbh (by decide) ?_ | refine zbc (by simp[hset]) ?_)))
     ·exact fin (by simp[rpartB,h1,h3,h4])
 ·have hge:s.size≤x:=by simpa using hc
  simp -implicitDefEqProofs only[go_sem,hc]
  rw[zsd (by omega) hq (.inl (by omega))]

theorem z4j (s:ByteArray) (hl:s.size≤1000000):zh Tryz.prog 258 [.val (.string s),.val (.int .i64 0)] (fun r=>∃n:Nat,r = .val (.int .i64 n)∧(n=0∨(2≤n∧n≤s.size))):=by
 refine zf [] Ty.mixed Tryz.func258 rfl (by kernel_rfl) (by simp[Tryz.ntmps258]) ?_; rw[Tryz.ntmps258,Tryz.results258]
 simp -implicitDefEqProofs only[go_sem]
 refine zca (σ:=Nat) (fun x=>(upd (upd (upd env0 0 (.p (.val (.string s)))) 1 (.p (.val (.int .i64 0)))) 5 (.p (.val (.int .i64 x))))) (fun x=>heap0)
  (fun x=>1≤x∧x≤s.size+1) (fun x=>s.size+1 - x) 1 ⟨Nat.le_refl _,by omega⟩ (zbq (by repeat (first | exact zbk _ | refine zbp ?_ (by first | rfl | simp[upd]))) (by repeat (first | exact hsub0 _ | refine zbb ?_ (by first | rfl | simp[hset]))) (by repeat (first | exact zbi _ | refine zbo ?_ (by simp[idsOk,idsOkL,hset]))) (by repeat (first | exact boxIds0 _ | refine z6 ?_ | refine zy ?_ | refine zx ?_ | refine z2 ?_ (by simp[idsOk,idsOkL,hset]))) (by repeat (first | exact keep0 _ | refine zbh (by decide) ?_ | refine zbc (by simp[hset]) ?_))) ?_
 rintro x ⟨hx1,hx⟩
 have hw:IntKind.i64.wrap (0+(x:Int))=x:=by rw[IntWalk.i64_in _ (by omega)]; omega
 simp -implicitDefEqProofs only[go_sem,hw]
 refine zc (fun hc=>?_) (fun hc=>?_)
 ·have hlt:x<s.size:=by simpa using hc
  simp -implicitDefEqProofs only[go_sem,hlt,hw]
  refine zc (fun h1=>?_) (fun h1=>?_)<;>simp -implicitDefEqProofs only[go_sem]
  ·rw[zt hlt (by omega)]
   exact⟨x+1,rfl,.inr ⟨by omega,by omega⟩⟩
  ·refine zw (fun h2=>?_) (fun h2=>?_)<;>simp -implicitDefEqProofs only[go_sem,h2]
   ·exact⟨0,rfl,.inl rfl⟩
   ·refine zc (fun h3=>?_) (fun h3=>?_)<;>simp -implicitDefEqProofs only[go_sem]
    ·exact⟨0,rfl,.inl rfl⟩
    ·refine zb9 (x+1) ⟨by omega,by omega⟩ (by omega) ?_
     rw[zt hlt (by omega)]
     exact (zbq (by repeat (first | exact zbk _ | refine zbp ?_ (by first | rfl | simp[upd]))) (by repeat (first | exact hsub0 _ | refine zbb ?_ (by first | rfl | simp[hset]))) (by repeat (first | exact zbi _ | refine zbo ?_ (by simp[idsOk,idsOkL,hset]))) (by repeat (first | exact boxIds0 _ | refine z6 ?_ | refine zy ?_ | refine zx ?_ | refine z2 ?_ (by simp[idsOk,idsOkL,hset]))) (by repeat (first | exact keep0 _ | refine zbh (by decide) ?_ | refine zbc (by simp[hset]) ?_)))
 ·simp -implicitDefEqProofs only[go_sem]
  exact⟨0,rfl,.inl rfl⟩

def signL:List ByteArray:=[⟨#[45,62]⟩,⟨#[60,61]⟩,⟨#[62,61]⟩,⟨#[61,61]⟩,⟨#[33,61]⟩,⟨#[123]⟩,⟨#[125]⟩,⟨#[40]⟩,⟨#[41]⟩,⟨#[91]⟩,⟨#[93]⟩,⟨#[44]⟩,⟨#[59]⟩,⟨#[58]⟩,⟨#[61]⟩,⟨#[43]⟩,⟨#[45]⟩,⟨#[42]⟩,⟨#[60]⟩,⟨#[62]⟩,⟨#[33]⟩,⟨#[38]⟩,⟨#[124]⟩,⟨#[46]⟩,⟨#[63]⟩]
theorem zbdg:zh Tryz.prog 259 [] (fun r=>r = .lst (signL.map encS)):=by
 refine zf [] Ty.mixed Tryz.func259 rfl (by kernel_rfl) (by simp[Tryz.ntmps259]) ?_; rw[Tryz.ntmps259,Tryz.results259]
 simp -implicitDefEqProofs only[go_sem]
 rfl
end Go.Proofs.YthjgdkloabgcoaaGreat
namespace Go.Proofs.YthjgdkloabgcoaaGreat
open Go.Abs

theorem zx4 {n:Int} (h:letterB n=true):digitB n=false:=by
 unfold letterB digitB at *
 simp at *
 omega
theorem zbhq (s : ByteArray) (hl : s.size ≤ 1000000) (h0 : 0 < s.size) : zh Tryz.prog 212 [.val (.string s), .val (.int .i64 0)] (fun r =>
  ∃ (k n e:Int) (u:ByteArray),r = .tup [.agg [.val (.int .i64 k),.val (.string u),.val (.int .i64 0)],.val (.int .i64 n),.val (.int .i64 e)]∧((e=0∧k=1∧n=s.size)↔nameB s=true)):=by
 have h0':(0:Int)<s.size:=by omega
 refine zf [] Ty.mixed Tryz.func212 rfl (by kernel_rfl) (by simp[Tryz.ntmps212]) ?_; rw[Tryz.ntmps212,Tryz.results212]
 simp -implicitDefEqProofs only[go_sem]
 refine⟨⟨by decide,h0'⟩,?_⟩
 refine zba (zuh (sbyte s 0)) (by simp -implicitDefEqProofs only[go_sem]<;>rfl) (scal rfl) ?_
 simp -implicitDefEqProofs only[go_sem]
 refine zw (fun h1=>?_) (fun h1=>?_)<;>simp -implicitDefEqProofs only[go_sem,h1]
 ·have hd:=zx4 h1
  refine zba (zky (sbyte s 0)) (by simp -implicitDefEqProofs only[go_sem]<;>rfl) (scal rfl) ?_
  simp -implicitDefEqProofs only[go_sem,hd]
  refine zba (z2u s hl false) (by simp -implicitDefEqProofs only[go_sem]<;>rfl) (scal rfl) ?_
  simp -implicitDefEqProofs only[go_sem,zx3]
  refine zba (zky (sbyte s 0)) (by simp -implicitDefEqProofs only[go_sem]<;>rfl) (scal rfl) ?_
  simp -implicitDefEqProofs only[go_sem,hd]
  refine zc (fun h2=>?_) (fun h2=>?_)<;>simp -implicitDefEqProofs only[go_sem]
  ·have hd':=of_decide_eq_true h2
   refine⟨_,_,_,_,⟨⟨rfl,rfl⟩,rfl,rfl⟩,?_⟩
   rw[zn4]
   constructor
   ·rintro⟨h,_⟩; omega
   ·rintro⟨_,_,h3,h4⟩; omega
  ·have hd':=of_decide_eq_false h2
   have hr:=zve partB s 0
   have hw:IntKind.i64.wrap (0+(runF partB s 0:Int))=runF partB s 0:=by rw[IntWalk.i64_in _ (by omega)]; omega
   rw[hw]
   refine⟨⟨by omega,by omega,by omega⟩,_,_,_,_,⟨⟨rfl,rfl⟩,rfl,rfl⟩,?_⟩
   rw[zn4]
   constructor
   ·rintro⟨_,_,h⟩; exact⟨by omega,h1,by omega,by omega⟩
   ·rintro⟨_,_,h3,h4⟩; exact⟨rfl,rfl,by omega⟩
 ·have hn:nameB s=false:=by simp[nameB,h1]
  rw[hn]
  refine zba (zky (sbyte s 0)) (by simp -implicitDefEqProofs only[go_sem]<;>rfl) (scal rfl) ?_
  simp -implicitDefEqProofs only[go_sem]
  refine zc (fun h2=>?_) (fun h2=>?_)<;>simp -implicitDefEqProofs only[go_sem]
  ·refine zba (zky (sbyte s 0)) (by simp -implicitDefEqProofs only[go_sem]<;>rfl) (scal rfl) ?_
   simp -implicitDefEqProofs only[go_sem,h2]
   refine zba (z2u s hl true) (by simp -implicitDefEqProofs only[go_sem]<;>rfl) (scal rfl) ?_
   simp -implicitDefEqProofs only[go_sem]
   refine zba (zky (sbyte s 0)) (by simp -implicitDefEqProofs only[go_sem]<;>rfl) (scal rfl) ?_
   simp -implicitDefEqProofs only[go_sem,h2]
   have hr:=zve (rpartB true) s 0
   generalize runF (rpartB true) s 0=m at hr
   have hw:IntKind.i64.wrap (0+(m:Int))=m:=by rw[IntWalk.i64_in _ (by omega)]; omega
   refine zc (fun h2=>?_) (fun h2=>?_)<;>simp -implicitDefEqProofs only[go_sem,hw]
   ·exact⟨_,_,_,_,⟨⟨rfl,rfl⟩,rfl,rfl⟩,by simp⟩
   ·exact⟨by omega,_,_,_,_,⟨⟨rfl,rfl⟩,rfl,rfl⟩,by simp⟩
  ·refine zc (fun h3=>?_) (fun h3=>?_)<;>simp -implicitDefEqProofs only[go_sem]
   ·refine zjn (z4j s hl) (by simp -implicitDefEqProofs only[go_sem]<;>rfl) ?_
    rintro r ⟨n,rfl,hr⟩
    refine⟨scal rfl,?_⟩
    simp -implicitDefEqProofs only[go_sem]
    refine zc (fun h4=>?_) (fun h4=>?_)<;>simp -implicitDefEqProofs only[go_sem]
    ·exact⟨_,_,_,_,⟨⟨rfl,rfl⟩,rfl,rfl⟩,by simp⟩
    ·have h5:2≤n∧n≤s.size:=by
      have:=of_decide_eq_false h4
      omega
     refine zc (fun h6=>?_) (fun h6=>?_)<;>simp -implicitDefEqProofs only[go_sem]
     ·exact⟨_,_,_,_,⟨⟨rfl,rfl⟩,rfl,rfl⟩,by simp⟩
     ·have w1:IntKind.i64.wrap (0+1)=1:=by rfl
      have w2:IntKind.i64.wrap (0+(n:Int))=n:=by rw[IntWalk.i64_in _ (by omega)]; omega
      have w3:IntKind.i64.wrap ((n:Int) - 1)=n - 1:=by rw[IntWalk.i64_in _ (by omega)]
      simp only[w1,w2,w3]
      exact⟨by omega,_,_,_,_,⟨⟨rfl,rfl⟩,rfl,rfl⟩,by simp⟩
   ·refine zba (zbdg) (by simp -implicitDefEqProofs only[go_sem]<;>rfl) (pers) ?_
    simp -implicitDefEqProofs only[go_sem]
    refine zca (σ:=Nat) (fun x=>(upd (upd (upd (upd (upd env0 0 (.p (.val (.string s)))) 1 (.p (.val (.int .i64 0)))) 4 (.ptr 4 0)) 12 (.p (.lst (signL.map encS)))) 13 (.p (.val (.int .i64 x)))))
     (fun x=>(hset heap0 4 (.box [.p (.val (.int .i64 0)),.p (.val (.string ⟨#[]⟩)),.p (.val (.int .i64 0))]))) (fun x=>x≤signL.length) (fun x=>signL.length - x) 0 (Nat.zero_le _) (zbq (by repeat (first | exact zbk _ | refine zbp ?_ (by first | rfl | simp[upd]))) (by repeat (first | exact hsub0 _ | refine zbb ?_ (by first | rfl | simp[hset]))) (by repeat (first | exact zbi _ | refine zbo ?_ (by simp[idsOk,idsOkL,hset]))) (by repeat (first | exact boxIds0 _ | refine z6 ?_ | refine zy ?_ | refine zx ?_ | refine z2 ?_ (by simp[idsOk,idsOkL,hset]))) (by repeat (first | exact keep0 _ | refine zbh (by decide) ?_ | refine zbc (by simp[hset]) ?_))) ?_
    rintro x hx
    simp -implicitDefEqProofs only[go_sem]
    refine zc (fun hc=>?_) (fun hc=>?_)
    ·have hlt:x<signL.length:=by simpa using hc
     simp -implicitDefEqProofs only[go_sem]
     refine zbn [.q,.q,.q,.q,.q,.q,.q,.q,.q,.q,.q,.q,.q,.q,.q,.q,.q,.q,.q,.q,.q,.q,.q,.q,.q,.q,.q] (by kernel_rfl) ?_
     simp -implicitDefEqProofs only[go_sem,zj encS hlt,encS,hlt,List.length_map]
     have hu:(signL.getD x default).size≤2:=by
      have:∀u∈signL,u.size≤2:=by decide
      exact this _ (by simp[hlt])
     have hw:IntKind.i64.wrap (0+((signL.getD x default).size:Int))=(signL.getD x default).size:=by rw[IntWalk.i64_in _ (by omega)]; omega
     refine zdi (fun h4=>?_) (fun h4=>?_)
     ·rw[hw] at h4
      have h5:=of_decide_eq_true h4
      simp -implicitDefEqProofs only[go_sem,hw,h4,h5,zj encS hlt,encS,hlt,List.length_map]
      refine⟨by omega,?_⟩
      refine zc (fun h6=>?_) (fun h6=>?_)<;>simp -implicitDefEqProofs only[go_sem]
      ·refine zbn [.p,.p,.p,.p,.p,.p,.p,.p,.p,.p,.w,.q,.q] (by kernel_rfl) ?_
       simp -implicitDefEqProofs only[go_sem,zj encS hlt,encS,hlt,List.length_map]
       exact⟨_,_,_,_,⟨⟨rfl,rfl⟩,rfl,rfl⟩,by simp⟩
      ·rw[zt hlt (by decide)]
       exact zb9 (x+1) hlt (by omega) (zbq (by repeat (first | exact zbk _ | refine zbp ?_ (by first | rfl | simp[upd]))) (by repeat (first | exact hsub0 _ | refine zbb ?_ (by first | rfl | simp[hset]))) (by repeat (first | exact zbi _ | refine zbo ?_ (by simp[idsOk,idsOkL,hset]))) (by repeat (first | exact boxIds0 _ | refine z6 ?_ | refine zy ?_ | refine zx ?_ | refine z2 ?_ (by simp[idsOk,idsOkL,hset]))) (by repeat (first | exact keep0 _ | refine zbh (by decide) ?_ | refine zbc (by simp[hset]) ?_)))
     ·rw[hw] at h4
      simp -implicitDefEqProofs only[go_sem,h4,hw]
      rw[zt hlt (by decide)]
      exact zb9 (x+1) hlt (by omega) (zbq (by repeat (first | exact zbk _ | refine zbp ?_ (by first | rfl | simp[upd]))) (by repeat (first | exact hsub0 _ | refine zbb ?_ (by first | rfl | simp[hset]))) (by repeat (first | exact zbi _ | refine zbo ?_ (by simp[idsOk,idsOkL,hset]))) (by repeat (first | exact boxIds0 _ | refine z6 ?_ | refine zy ?_ | refine zx ?_ | refine z2 ?_ (by simp[idsOk,idsOkL,hset]))) (by repeat (first | exact keep0 _ | refine zbh (by decide) ?_ | refine zbc (by simp[hset]) ?_)))
    ·simp -implicitDefEqProofs only[go_sem]
     exact⟨_,_,_,_,⟨⟨rfl,rfl⟩,rfl,rfl⟩,by simp⟩
theorem zbgi (s:ByteArray):zh Tryz.prog 211 [.agg [.val (.int .i64 1),.val (.string s),.val (.int .i64 0)]] (fun r=>r = .val (.string s)):=by
 refine zf [] Ty.mixed Tryz.func211 rfl (by kernel_rfl) (by simp[Tryz.ntmps211]) ?_; rw[Tryz.ntmps211,Tryz.results211]
 simp -implicitDefEqProofs only[go_sem,Int.reduceEq]
theorem zbbf (s:ByteArray) (hl:s.size≤1000000):zh Tryz.prog 159 [.agg [.val (.int .i64 1),.val (.string s),.val (.int .i64 0)]] (fun r=>r = .val (.bool (nameB s))):=by
 refine zf [] Ty.mixed Tryz.func159 rfl (by kernel_rfl) (by simp[Tryz.ntmps159]) ?_; rw[Tryz.ntmps159,Tryz.results159]
 simp -implicitDefEqProofs only[go_sem]
 refine zba (zbgi s) (by simp -implicitDefEqProofs only[go_sem]<;>rfl) (scal rfl) ?_
 simp -implicitDefEqProofs only[go_sem,Int.reduceEq]
 refine zc (fun hc=>?_) (fun hc=>?_)<;>simp -implicitDefEqProofs only[go_sem]
 ·have he:s=⟨#[]⟩:=of_decide_eq_true hc
  rw[he]; try rfl
 ·have he:s≠⟨#[]⟩:=of_decide_eq_false hc
  have h0:0<s.size:=by
   rcases Nat.eq_zero_or_pos s.size with h | h
   ·exact absurd (ByteArray.ext (Array.eq_empty_of_size_eq_zero h)) he
   ·exact h
  refine zjn (zbhq s hl h0) (by simp -implicitDefEqProofs only[go_sem]<;>rfl) ?_
  rintro r ⟨k,n,e,u,rfl,hiff⟩
  refine⟨scal rfl,?_⟩
  have hn:nameB s=((decide (e=0)&&decide (n=s.size))&&decide (k=1)):=by
   rw[Bool.eq_iff_iff,←hiff]
   simp only[Bool.and_eq_true,decide_eq_true_eq,and_assoc]
   constructor
   ·rintro⟨h1,h2,h3⟩; exact⟨h1,h3,h2⟩
   ·rintro⟨h1,h2,h3⟩; exact⟨h1,h3,h2⟩
  rw[hn]
  simp -implicitDefEqProofs only[go_sem]
  refine zq (fun h=>?_) (fun h=>?_)<;>simp -implicitDefEqProofs only[go_sem,h]
  refine zq (fun h'=>?_) (fun h'=>?_)<;>simp -implicitDefEqProofs only[go_sem,h,h']
theorem zk9 (s:ByteArray) (hl:s.size≤1000000):zh Tryz.prog 123 [.val (.string s)] (fun r=>r = .val (.bool (nameB s))):=by
 refine zf [] Ty.mixed Tryz.func123 rfl (by kernel_rfl) (by simp[Tryz.ntmps123]) ?_; rw[Tryz.ntmps123,Tryz.results123]
 simp -implicitDefEqProofs only[go_sem]
 refine zba (zbbf s hl) (by simp -implicitDefEqProofs only[go_sem]<;>rfl) (scal rfl) ?_
 simp -implicitDefEqProofs only[go_sem]

end Go.Proofs.YthjgdkloabgcoaaGreat
namespace Go.Proofs.YthjgdkloabgcoaaGreat
open Go.Abs

structure FewT (t:zl):Prop where
 nodes:t.nodes.length≤20
 edges:t.edges.length≤30
 attrs:∀n∈t.nodes,n.attrs.length≤30
 name:∀n∈t.nodes,n.name.size≤40
 aname:∀n∈t.nodes,∀a∈n.attrs,a.name.size≤40
 names:∀n∈t.nodes,∀a∈n.attrs,a.names.length≤25
 word:∀n∈t.nodes,∀a∈n.attrs,∀s∈a.names,s.size≤40
 ename:∀e∈t.edges,e.name.size≤40

def zhm (t:zl) (n:Nat):Prop:=∀j,j<n→-1≤(t.nodes.getD j default).parent∧(t.nodes.getD j default).parent<j

def attrsK (t:zl):Nat→Nat→List Attr
 | 0,_=>[]
 | k+1,a=>(if 0≤(t.nodes.getD a default).parent then attrsK t k (t.nodes.getD a default).parent.toNat else [])++(t.nodes.getD a default).attrs
def attrsAt (t:zl) (a:Nat):List Attr:=attrsK t (a+1) a

theorem zsv {t:zl} : ∀ (k k' a:Nat),zhm t (a+1)→a<k→a<k'→attrsK t k a=attrsK t k' a
 | 0,_,_,_,h,_=>by omega
 | _+1,0,_,_,_,h=>by omega
 | k+1,k'+1,a,hp,h,h'=>by
  unfold attrsK
  split
  ·rename_i h0
   have hq:=hp a (by omega)
   rw[zsv k k' (t.nodes.getD a default).parent.toNat (fun j hj=>hp j (by omega)) (by omega) (by omega)]
  ·rfl
theorem zk4 {t:zl} {a:Nat} (hp:zhm t (a+1)):attrsAt t a=(if 0≤(t.nodes.getD a default).parent then attrsAt t (t.nodes.getD a default).parent.toNat else [])++(t.nodes.getD a default).attrs:=by
 conv=>lhs; unfold attrsAt attrsK
 split
 ·rename_i h0
  have hq:=hp a (by omega)
  unfold attrsAt
  rw[zsv a ((t.nodes.getD a default).parent.toNat+1) _ (fun j hj=>hp j (by omega)) (by omega) (by omega)]
 ·rfl
theorem zd7 {α:Type} [Inhabited α] {l:List α} {a:Nat} (ha:a<l.length):l.getD a default∈l:=by
 have:l.getD a default=l[a]:=by simp[ha]
 rw[this]; exact List.getElem_mem _
theorem zt2 {t:zl} (hf:FewT t):∀ (k a:Nat),a<t.nodes.length→zhm t (a+1)→(attrsK t k a).length≤k * 30
 | 0,_,_,_=>by simp[attrsK]
 | k+1,a,ha,hp=>by
  unfold attrsK
  have h1:(t.nodes.getD a default).attrs.length≤30:=hf.attrs _ (zd7 ha)
  have hq:=hp a (by omega)
  rw[List.length_append]
  generalize hlx:(t.nodes.getD a default).attrs.length=lx at h1 ⊢
  split
  ·have:=zt2 hf k (t.nodes.getD a default).parent.toNat (by omega) (fun j hj=>hp j (by omega))
   omega
  ·simp; omega
theorem zh1 {t:zl} (hf:FewT t) {a:Nat} (ha:a<t.nodes.length) (hp:zhm t (a+1)):(attrsAt t a).length≤600:=by
 have:=zt2 hf (a+1) a ha hp
 have:=hf.nodes
 unfold attrsAt
 omega
theorem zuo {t:zl} (hf:FewT t):∀ (k a:Nat),a<t.nodes.length→zhm t (a+1)→∀x∈attrsK t k a,∃n∈t.nodes,x∈n.attrs
 | 0,_,_,_,x,hx=>by simp[attrsK] at hx
 | k+1,a,ha,hp,x,hx=>by
  unfold attrsK at hx
  have hq:=hp a (by omega)
  rcases List.mem_append.1 hx with h | h
  ·split at h
   ·exact zuo hf k (t.nodes.getD a default).parent.toNat (by omega) (fun j hj=>hp j (by omega)) x h
   ·cases h
  ·exact⟨_,zd7 ha,h⟩
theorem zni (l:List Attr):∀x∈l.map encAttr,x.length=4:=by
 intro x hx
 obtain⟨a,_,rfl⟩:=List.mem_map.1 hx
 rfl

theorem zx7 (t:zl) (hf:FewT t):∀ (a:Nat),a<t.nodes.length→zhm t (a+1)→zbt Tryz.prog 110 [encTypes t,.val (.int .i64 a)] (fun r=>r = .row 110 4 ((attrsAt t a).map encAttr)):=by
 intro a
 induction a using Nat.strongRecOn with
 | _ a ih =>
  intro ha hp
  have hq:=hp a (by omega)
  have h1:=hf.attrs _ (zd7 ha)
  have hlen:=zh1 hf ha hp
  refine zbx [25] Ty.mixed Tryz.func110 rfl (by kernel_rfl) (by simp[Tryz.ntmps110]) ?_; rw[Tryz.ntmps110,Tryz.results110]
  
  simp -implicitDefEqProofs only[go_sem,encTypes,zj encNode ha,ha,encNode]
  refine zc (fun h0=>?_) (fun h0=>?_)<;>simp -implicitDefEqProofs only[go_sem,zj encNode ha,ha,encNode]
  ·have h0':=of_decide_eq_true h0
   obtain⟨q,hqq⟩:∃q:Nat,(t.nodes.getD a default).parent=q:=⟨_,(Int.toNat_of_nonneg h0').symm⟩
   have hqa:q<a:=by have:=hq.2; rw[hqq] at this; omega
   rw[hqq]
   refine zpq 17 (ih q hqa (by omega) (fun j hj=>hp j (by omega))) (by simp -implicitDefEqProofs only[go_sem,zj encNode ha,ha,encNode]<;>rfl) (persF) (by simp -implicitDefEqProofs only[go_sem,zj encNode ha,ha,encNode]) ?_
   simp -implicitDefEqProofs only[go_sem,zj encNode ha,ha,encNode]
   have e:attrsAt t a=attrsAt t q++(t.nodes.getD a default).attrs:=by
    rw[zk4 hp,if_pos h0',hqq]; try rfl
   rw[e,List.length_append] at hlen
   exact⟨⟨by omega,zni _⟩,by decide,_,.refl _,by rw[e,List.map_append]⟩
  ·have h0':=of_decide_eq_false h0
   have e:attrsAt t a=(t.nodes.getD a default).attrs:=by
    rw[zk4 hp,if_neg h0']; try rfl
   exact⟨⟨by omega,zni _⟩,by decide,_,.refl _,by rw[e]⟩
end Go.Proofs.YthjgdkloabgcoaaGreat
namespace Go.Proofs.YthjgdkloabgcoaaGreat
open Go.Abs

def firstI (f:Nat→Int) (s n:Nat):Option Nat:=(List.range' s (n - s)).find? fun i=>decide (f i≠0)
def firstE (f:Nat→Int) (s n:Nat):Int:=match firstI f s n with
 | some k=>f k
 | none=>0
theorem zl2 {f:Nat→Int} {s n k:Nat} (hs:s≤k) (hk:k<n) (h0:∀j,s≤j→j<k→f j=0) (h1:f k≠0):firstI f s n=some k:=by
 unfold firstI
 rw[List.find?_range'_eq_some]
 refine⟨by simpa using h1,by simp[List.mem_range'_1]; omega,fun j hj1 hj2=>by simpa using h0 j hj1 hj2⟩
theorem zhx {f:Nat→Int} {s n:Nat} (h0:∀j,s≤j→j<n→f j=0):firstI f s n=none:=by
 unfold firstI
 rw[List.find?_eq_none]
 intro j hj
 rw[List.mem_range'_1] at hj
 have:=h0 j hj.1 (by omega)
 simpa using this
theorem zl0 {f:Nat→Int} {s n k:Nat} (hs:s≤k) (hk:k<n) (h0:∀j,s≤j→j<k→f j=0) (h1:f k≠0):firstE f s n=f k:=by
 unfold firstE
 rw[zl2 hs hk h0 h1]
theorem zou {f:Nat→Int} {s n:Nat} (h0:∀j,s≤j→j<n→f j=0):firstE f s n=0:=by
 unfold firstE
 rw[zhx h0]

theorem zm1 {f:Nat→Int} {n k:Nat} (hk:k<n) (h0:∀j,j<k→f j=0) (h1:f k≠0):firstE f 0 n=f k:=zl0 (Nat.zero_le _) hk (fun j _=>h0 j) h1
theorem zrp {f:Nat→Int} {n:Nat} (h0:∀j,j<n→f j=0):firstE f 0 n=0:=zou fun j _=>h0 j
theorem zlm {f:Nat→Int} {x:Nat} (h:∀j,j<x→f j=0) (hx:f x=0):∀j,j<x+1→f j=0:=fun j hj=>by
 rcases Nat.lt_succ_iff_lt_or_eq.1 hj with h' | h'
 ·exact h j h'
 ·rw[h']; exact hx

def nameE (l:List ByteArray) (i:Nat):Int:=if nameB (l.getD i default)=false then 2 else if (l.take i).any (fun x=>decide (l.getD i default=x))=true then 5 else 0
def namesE (l:List ByteArray):Int:=if 20<l.length then 3 else firstE (nameE l) 0 l.length

theorem zben (l:List ByteArray) (hl:l.length≤25) (hw:∀s∈l,s.size≤40):zh Tryz.prog 147 [.lst (l.map encS)] (fun r=>r = .val (.int .i64 (namesE l))):=by
 unfold namesE
 refine zf [] Ty.mixed Tryz.func147 rfl (by kernel_rfl) (by simp[Tryz.ntmps147]) ?_; rw[Tryz.ntmps147,Tryz.results147]
 simp -implicitDefEqProofs only[go_sem]
 refine zc (fun h0=>?_) (fun h0=>?_)<;>simp -implicitDefEqProofs only[go_sem]
 ·have h0':20<l.length:=by have:=of_decide_eq_true h0; omega
  rw[if_pos h0']
 ·have h0':¬ 20<l.length:=by have:=of_decide_eq_false h0; omega
  rw[if_neg h0']
  refine zca (σ:=Nat) (fun x=>(upd (upd (upd (upd env0 0 (.p (.lst (l.map encS)))) 8 (.p (.lst (l.map encS)))) 9 (.p (.val (.int .i64 l.length)))) 10 (.p (.val (.int .i64 x))))) (fun x=>heap0)
   (fun x=>x≤l.length∧∀j,j<x→nameE l j=0) (fun x=>l.length - x) 0 ⟨Nat.zero_le _,fun j hj=>absurd hj (Nat.not_lt_zero j)⟩ (zbq (by repeat (first | exact zbk _ | refine zbp ?_ (by first | rfl | simp[upd]))) (by repeat (first | exact hsub0 _ | refine zbb ?_ (by first | rfl | simp[hset]))) (by repeat (first | exact zbi _ | refine zbo ?_ (by simp[idsOk,idsOkL,hset]))) (by repeat (first | exact boxIds0 _ | refine z6 ?_ | refine zy ?_ | refine zx ?_ | refine z2 ?_ (by simp[idsOk,idsOkL,hset]))) (by repeat (first | exact keep0 _ | refine zbh (by decide) ?_ | refine zbc (by simp[hset]) ?_))) ?_
  rintro x ⟨hx,hq⟩
  simp -implicitDefEqProofs only[go_sem]
  refine zc (fun hc=>?_) (fun hc=>?_)
  ·have hlt:x<l.length:=by simpa using hc
   
   simp -implicitDefEqProofs only[go_sem,zj encS hlt,hlt,encS]
   refine zba (zma (l.getD x default) (Nat.le_trans (hw _ (zd7 hlt)) (by decide))) (by simp -implicitDefEqProofs only[go_sem,zj encS hlt,hlt,encS]<;>rfl) (scal rfl) ?_
   simp -implicitDefEqProofs only[go_sem,zj encS hlt,hlt,encS]
   refine zg (fun h1=>?_) (fun h1=>?_)<;>simp -implicitDefEqProofs only[go_sem,zj encS hlt,hlt,encS]
   ·refine⟨⟨⟨by omega,by omega⟩,fun x hx=>by obtain⟨a,_,rfl⟩:=List.mem_map.1 hx; rfl⟩,?_⟩
    refine zba (z18 (l.take x) (l.getD x default) (by simp; omega)) (by simp -implicitDefEqProofs only[go_sem,zj encS hlt,hlt,encS]<;>rfl) (scal rfl) ?_
    simp -implicitDefEqProofs only[go_sem,zj encS hlt,hlt,encS]
    refine zc (fun h2=>?_) (fun h2=>?_)<;>simp -implicitDefEqProofs only[go_sem,zj encS hlt,hlt,encS]
    ·have:nameE l x=5:=by unfold nameE; rw[if_neg (by rw[h1]; decide),if_pos h2]
     rw[zm1 hlt hq (by rw[this]; decide),this]
    ·have:nameE l x=0:=by unfold nameE; rw[if_neg (by rw[h1]; decide),if_neg (by rw[h2]; decide)]
     exact zb9 (x+1) ⟨hlt,zlm hq this⟩ (by omega) (by rw[zt hlt (by omega)]; exact (zbq (by repeat (first | exact zbk _ | refine zbp ?_ (by first | rfl | simp[upd]))) (by repeat (first | exact hsub0 _ | refine zbb ?_ (by first | rfl | simp[hset]))) (by repeat (first | exact zbi _ | refine zbo ?_ (by simp[idsOk,idsOkL,hset]))) (by repeat (first | exact boxIds0 _ | refine z6 ?_ | refine zy ?_ | refine zx ?_ | refine z2 ?_ (by simp[idsOk,idsOkL,hset]))) (by repeat (first | exact keep0 _ | refine zbh (by decide) ?_ | refine zbc (by simp[hset]) ?_))))
   ·have:nameE l x=2:=by unfold nameE; rw[if_pos h1]
    rw[zm1 hlt hq (by rw[this]; decide),this]
  ·have hge:l.length≤x:=by simpa using hc
   simp -implicitDefEqProofs only[go_sem]
   rw[zrp fun j hj=>hq j (by omega)]
end Go.Proofs.YthjgdkloabgcoaaGreat
namespace Go.Proofs.YthjgdkloabgcoaaGreat
open Go.Abs

theorem zxe (x y:Attr):zh Tryz.prog 146 [.agg (encAttr y),.eptr (encAttr x) 0] (fun r=>r = .val (.bool (decide (y.name=x.name)))):=by
 refine zf [] Ty.mixed Tryz.func146 rfl (by kernel_rfl) (by simp[Tryz.ntmps146]) ?_; rw[Tryz.ntmps146,Tryz.results146]
 simp -implicitDefEqProofs only[go_sem,encAttr,encStrs]
theorem zbc4 (x y:zd0):zh Tryz.prog 109 [.agg (encNode y),.eptr (encNode x) 0] (fun r=>r = .val (.bool (decide (y.name=x.name)))):=by
 refine zf [] Ty.mixed Tryz.func109 rfl (by kernel_rfl) (by simp[Tryz.ntmps109]) ?_; rw[Tryz.ntmps109,Tryz.results109]
 simp -implicitDefEqProofs only[go_sem,encNode,encStrs]
theorem zbec (x y:zh2):zh Tryz.prog 114 [.agg (encEdgeT y),.eptr (encEdgeT x) 0] (fun r=>r = .val (.bool (decide (y.name=x.name)))):=by
 refine zf [] Ty.mixed Tryz.func114 rfl (by kernel_rfl) (by simp[Tryz.ntmps114]) ?_; rw[Tryz.ntmps114,Tryz.results114]
 simp -implicitDefEqProofs only[go_sem,encEdgeT,encStrs]

structure FewA (x:Attr):Prop where
 name:x.name.size≤40
 names:x.names.length≤25
 word:∀s∈x.names,s.size≤40

def rangeB (x:Attr):Bool:=if 0<x.names.length then decide (x.low=0)&&decide (x.high=(x.names.length:Int) - 1) else (decide (-1000000≤x.low)&&decide (x.low≤x.high))&&decide (x.high≤1000000)
theorem zmy (x:Attr):rangeB x=true↔(0<x.names.length∧x.low=0∧x.high=(x.names.length:Int) - 1)∨(x.names.length=0∧-1000000≤x.low∧x.low≤x.high∧x.high≤1000000):=by
 unfold rangeB
 split
 ·simp only[Bool.and_eq_true,decide_eq_true_eq]; omega
 ·simp only[Bool.and_eq_true,decide_eq_true_eq]; omega
def attrE (x:Attr):Int:=if namesE x.names≠0 then namesE x.names else if rangeB x=true then 0 else 6
def attrX (before:List Attr) (x:Attr):Int:=if nameB x.name=false then 2 else if before.any (fun y=>decide (y.name=x.name))=true then 5 else attrE x

theorem zxq (x:Attr) (before:List Attr) (hx:FewA x) (hb:before.length≤10000):zh Tryz.prog 111 [.agg (encAttr x),.lst (before.map encAttr)] (fun r=>r = .val (.int .i64 (attrX before x))):=by
 have hn:=hx.names
 refine zf [] Ty.mixed Tryz.func111 rfl (by kernel_rfl) (by simp[Tryz.ntmps111]) ?_; rw[Tryz.ntmps111,Tryz.results111]
 
 simp -implicitDefEqProofs only[go_sem,encAttr,encStrs]
 refine zba (zma x.name (Nat.le_trans hx.name (by decide))) (by simp -implicitDefEqProofs only[go_sem,encAttr,encStrs]<;>rfl) (scal rfl) ?_
 simp -implicitDefEqProofs only[go_sem,encAttr,encStrs]
 refine zg (fun h1=>?_) (fun h1=>?_)<;>simp -implicitDefEqProofs only[go_sem,encAttr,encStrs]
 ·refine zba (zw6 (fun y=>decide (y.name=x.name)) before (by omega) _ [] [.eptr (encAttr x) 0] (fun y _=>zxe x y)) (by simp -implicitDefEqProofs only[go_sem,encAttr,encStrs]<;>rfl) (scal rfl) ?_
  simp -implicitDefEqProofs only[go_sem,encAttr,encStrs]
  refine zc (fun h2=>?_) (fun h2=>?_)<;>simp -implicitDefEqProofs only[go_sem,encAttr,encStrs]
  ·unfold attrX; rw[if_neg (by rw[h1]; decide),if_pos h2]
  ·have e:attrX before x=attrE x:=by unfold attrX; rw[if_neg (by rw[h1]; decide),if_neg (by rw[h2]; decide)]
   rw[e]
   refine zba (zben x.names hx.names hx.word) (by simp -implicitDefEqProofs only[go_sem,encAttr,encStrs]<;>rfl) (scal rfl) ?_
   simp -implicitDefEqProofs only[go_sem,encAttr,encStrs]
   refine zg (fun h3=>?_) (fun h3=>?_)<;>simp -implicitDefEqProofs only[go_sem,encAttr,encStrs]
   ·have h3':=of_decide_eq_true h3
    have e2:attrE x=if rangeB x=true then 0 else 6:=by unfold attrE; rw[if_neg (by rw[h3']; decide)]
    rw[e2]
    have hw:IntKind.i64.wrap ((x.names.length:Int) - 1)=(x.names.length:Int) - 1:=IntWalk.i64_in _ (by omega)
    repeat' first | done | (refine zw (fun h=>?_) (fun h=>?_)<;>try simp -implicitDefEqProofs only[go_sem,h,hw,encAttr,encStrs]) | (refine zq (fun h=>?_) (fun h=>?_)<;>try simp -implicitDefEqProofs only[go_sem,h,hw,encAttr,encStrs]) | (refine zg (fun h=>?_) (fun h=>?_)<;>try simp -implicitDefEqProofs only[go_sem,h,hw,encAttr,encStrs]) | (refine zc (fun h=>?_) (fun h=>?_)<;>try simp -implicitDefEqProofs only[go_sem,h,hw,encAttr,encStrs])
    all_goals
     simp only[Bool.not_eq_true',Bool.not_eq_false',decide_eq_true_eq,decide_eq_false_iff_not,Decidable.not_not] at *
     split<;>rename_i hr<;>rw[zmy] at hr<;>omega
   ·have h3':=of_decide_eq_false h3
    unfold attrE; rw[if_pos h3']
 ·unfold attrX; rw[if_pos h1]
theorem FewT.fewA {t:zl} (hf:FewT t) {a:Nat} (ha:a<t.nodes.length) (hp:zhm t (a+1)) {x:Attr} (hx:x∈attrsAt t a):FewA x:=by
 obtain⟨n,hn,h⟩:=zuo hf _ a ha hp x hx
 exact⟨hf.aname n hn x h,hf.names n hn x h,hf.word n hn x h⟩

def nodeE (t:zl) (i:Nat):Int :=
 if nameB (t.nodes.getD i default).name=false then 2
 else if (t.nodes.take i).any (fun y=>decide (y.name=(t.nodes.getD i default).name))=true then 5
 else if ¬ (-1≤(t.nodes.getD i default).parent∧(t.nodes.getD i default).parent<i) then 6
 else if 4<(t.nodes.getD i default).attrs.length then 3
 else if 8<(attrsAt t i).length then 3
 else firstE (fun k=>attrX ((attrsAt t i).take k) ((attrsAt t i).getD k default)) ((attrsAt t i).length - (t.nodes.getD i default).attrs.length) (attrsAt t i).length

theorem z8n {t:zl} {i:Nat} (h:nodeE t i=0) : -1≤(t.nodes.getD i default).parent∧(t.nodes.getD i default).parent<i:=by
 unfold nodeE at h
 split at h
 ·cases h
 ·split at h
  ·cases h
  ·split at h
   ·cases h
   ·rename_i h1; exact Decidable.of_not_not h1

theorem zbgg (t:zl) (hf:FewT t) (i:Nat) (hi:i<t.nodes.length) (hp:zhm t i):zh Tryz.prog 82 [encTypes t,.val (.int .i64 i)] (fun r=>r = .val (.int .i64 (nodeE t i))):=by
 have hn:=hf.nodes
 have hl1:=hf.attrs _ (zd7 hi)
 refine zf [] Ty.mixed Tryz.func82 rfl (by kernel_rfl) (by simp[Tryz.ntmps82]) ?_; rw[Tryz.ntmps82,Tryz.results82]
 
 simp -implicitDefEqProofs only[go_sem,encTypes,zj encNode hi,hi,encNode]
 refine zba (zma (t.nodes.getD i default).name (Nat.le_trans (hf.name _ (zd7 hi)) (by decide))) (by simp -implicitDefEqProofs only[go_sem,encTypes,zj encNode hi,hi,encNode]<;>rfl) (scal rfl) ?_
 simp -implicitDefEqProofs only[go_sem,encTypes,zj encNode hi,hi,encNode]
 refine zg (fun h1=>?_) (fun h1=>?_)<;>simp -implicitDefEqProofs only[go_sem,encTypes,zj encNode hi,hi,encNode]
 ·refine⟨⟨⟨by omega,by omega⟩,fun x hx=>by obtain⟨a,_,rfl⟩:=List.mem_map.1 hx; rfl⟩,?_⟩
  refine zba (zxh (fun y=>decide (y.name=(t.nodes.getD i default).name)) (t.nodes.take i) (by simp; omega) _ [] [.eptr (encNode (t.nodes.getD i default)) 0] (fun y _=>zbc4 _ y)) (by simp -implicitDefEqProofs only[go_sem,encTypes,zj encNode hi,hi,encNode]<;>rfl) (scal rfl) ?_
  simp -implicitDefEqProofs only[go_sem,encTypes,zj encNode hi,hi,encNode]
  refine zc (fun h2=>?_) (fun h2=>?_)<;>simp -implicitDefEqProofs only[go_sem,encTypes,zj encNode hi,hi,encNode]
  ·unfold nodeE; rw[if_neg (by rw[h1]; decide),if_pos h2]
  ·have e1 : nodeE t i = if ¬ (-1 ≤ (t.nodes.getD i default).parent ∧ (t.nodes.getD i default).parent < i) then 6
     else if 4<(t.nodes.getD i default).attrs.length then 3 else if 8<(attrsAt t i).length then 3
     else firstE (fun k=>attrX ((attrsAt t i).take k) ((attrsAt t i).getD k default)) ((attrsAt t i).length - (t.nodes.getD i default).attrs.length) (attrsAt t i).length:=by
    unfold nodeE; rw[if_neg (by rw[h1]; decide),if_neg (by rw[h2]; decide)]
   rw[e1]
   clear e1
   refine zw (fun h3=>?_) (fun h3=>?_)<;>simp -implicitDefEqProofs only[go_sem,h3,encTypes,zj encNode hi,hi,encNode]
   ·have h3':=of_decide_eq_true h3
    rw[if_pos (by omega)]
   ·have h3':=of_decide_eq_false h3
    refine zc (fun h4=>?_) (fun h4=>?_)<;>simp -implicitDefEqProofs only[go_sem,encTypes,zj encNode hi,hi,encNode]
    ·have h4':=of_decide_eq_true h4
     rw[if_pos (by omega)]
    ·have h4':=of_decide_eq_false h4
     rw[if_neg (by omega)]
     refine zc (fun h5=>?_) (fun h5=>?_)<;>simp -implicitDefEqProofs only[go_sem,encTypes,zj encNode hi,hi,encNode]
     ·have h5':=of_decide_eq_true h5
      rw[if_pos (by omega)]
     ·have h5':=of_decide_eq_false h5
      rw[if_neg (by omega)]
      have hp':zhm t (i+1):=fun j hj=>by
       rcases Nat.lt_succ_iff_lt_or_eq.1 hj with h | h
       ·exact hp j h
       ·subst h; omega
      have hlen:=zh1 hf hi hp'
      have hat:(t.nodes.getD i default).attrs.length≤(attrsAt t i).length:=by
       rw[zk4 hp',List.length_append]; omega
      generalize hs:(attrsAt t i).length - (t.nodes.getD i default).attrs.length=s
      have hw:IntKind.i64.wrap (((attrsAt t i).length:Int) - ((t.nodes.getD i default).attrs.length:Int))=s:=by rw[IntWalk.i64_in _ (by omega)]; omega
      refine zba ((zx7 t hf i hi hp').toL) (by simp -implicitDefEqProofs only[go_sem,encTypes,zj encNode hi,hi,encNode]<;>rfl) (pers) ?_
      simp -implicitDefEqProofs only[go_sem,encTypes,zj encNode hi,hi,encNode]
      refine zc (fun h6=>?_) (fun h6=>?_)<;>simp -implicitDefEqProofs only[go_sem,encTypes,zj encNode hi,hi,encNode]
      ·have h6':=of_decide_eq_true h6
       rw[if_pos (by omega)]
      ·have h6':=of_decide_eq_false h6
       rw[if_neg (by omega),hw]
       generalize hf':(fun k=>attrX ((attrsAt t i).take k) ((attrsAt t i).getD k default))=f
       refine zca (σ:=Nat) (fun x=>(upd (upd (upd (upd (upd env0 1 (.p (.val (.int .i64 i)))) 2 (.ptr 2 0)) 5 (.ptr 5 0)) 6 (.p (.lst ((attrsAt t i).map encAttr)))) 7 (.p (.val (.int .i64 x)))))
        (fun x=>(hset (hset heap0 2 (.box [.p (.lst (t.nodes.map encNode)),.p (.lst (t.edges.map encEdgeT))])) 5 (.box [.p (.val (.string (t.nodes.getD i default).name)),.p (.val (.int .i64 (t.nodes.getD i default).parent)),.p (.val (.bool (t.nodes.getD i default).abs)),.p (.lst ((t.nodes.getD i default).attrs.map encAttr))])))
        (fun x=>(s≤x∧x≤(attrsAt t i).length)∧∀j,s≤j→j<x→f j=0) (fun x=>(attrsAt t i).length - x) s ⟨⟨Nat.le_refl _,by omega⟩,fun j hj hj'=>absurd hj' (by omega)⟩ (zbq (by repeat (first | exact zbk _ | refine zbp ?_ (by first | rfl | simp[upd]))) (by repeat (first | exact hsub0 _ | refine zbb ?_ (by first | rfl | simp[hset]))) (by repeat (first | exact zbi _ | refine zbo ?_ (by simp[idsOk,idsOkL,hset]))) (by repeat (first | exact boxIds0 _ | refine z6 ?_ | refine zy ?_ | refine zx ?_ | refine z2 ?_ (by simp[idsOk,idsOkL,hset]))) (by repeat (first | exact keep0 _ | refine zbh (by decide) ?_ | refine zbc (by simp[hset]) ?_))) ?_
       rintro x ⟨⟨hsx,hx⟩,hq⟩
       simp -implicitDefEqProofs only[go_sem,encTypes,zj encNode hi,hi,encNode]
       refine zc (fun hc=>?_) (fun hc=>?_)
       ·have hlt:x<(attrsAt t i).length:=by have:=of_decide_eq_true hc; omega
        
        simp -implicitDefEqProofs only[go_sem,encTypes,zj encNode hi,hi,encNode,zj encAttr hlt,hlt,encAttr]
        refine zbn [.q,.q,.q,.q,.q,.q,.q,.q,.q] (by kernel_rfl) ?_
        simp -implicitDefEqProofs only[go_sem,encTypes,zj encNode hi,hi,encNode,zj encAttr hlt,hlt,encAttr]
        refine⟨⟨⟨by omega,by omega⟩,zni _⟩,?_⟩
        refine zio (zxq ((attrsAt t i).getD x default) ((attrsAt t i).take x) (hf.fewA hi hp' (zd7 hlt)) (by simp; omega)) (by simp -implicitDefEqProofs only[go_sem,encTypes,zj encNode hi,hi,encNode,zj encAttr hlt,hlt,encAttr]<;>rfl) (scal rfl) ?_
        simp -implicitDefEqProofs only[go_sem,encTypes,zj encNode hi,hi,encNode,zj encAttr hlt,hlt,encAttr]
        have e:f x=attrX ((attrsAt t i).take x) ((attrsAt t i).getD x default):=by rw[←hf']
        rw[←e]
        refine zg (fun h7=>?_) (fun h7=>?_)<;>simp -implicitDefEqProofs only[go_sem,encTypes,zj encNode hi,hi,encNode,zj encAttr hlt,hlt,encAttr]
        ·have h7':=of_decide_eq_true h7
         exact zb9 (x+1) ⟨⟨by omega,hlt⟩,fun j hj hj'=>by
          rcases Nat.lt_succ_iff_lt_or_eq.1 hj' with h | h
          ·exact hq j hj h
          ·rw[h]; exact h7'⟩ (by omega) (by rw[zt hlt (by omega)]; exact (zbq (by repeat (first | exact zbk _ | refine zbp ?_ (by first | rfl | simp[upd]))) (by repeat (first | exact hsub0 _ | refine zbb ?_ (by first | rfl | simp[hset]))) (by repeat (first | exact zbi _ | refine zbo ?_ (by simp[idsOk,idsOkL,hset]))) (by repeat (first | exact boxIds0 _ | refine z6 ?_ | refine zy ?_ | refine zx ?_ | refine z2 ?_ (by simp[idsOk,idsOkL,hset]))) (by repeat (first | exact keep0 _ | refine zbh (by decide) ?_ | refine zbc (by simp[hset]) ?_))))
        ·have h7':=of_decide_eq_false h7
         rw[zl0 hsx hlt hq h7']
       ·have hge:(attrsAt t i).length≤x:=by have:=of_decide_eq_false hc; omega
        simp -implicitDefEqProofs only[go_sem,encTypes,zj encNode hi,hi,encNode]
        rw[zou fun j hj hj'=>hq j hj (by omega)]
 ·unfold nodeE; rw[if_pos h1]
end Go.Proofs.YthjgdkloabgcoaaGreat
namespace Go.Proofs.YthjgdkloabgcoaaGreat
open Go.Abs

def inB (t:zl) (n:Int):Bool:=decide (0≤n)&&decide (n<t.nodes.length)
theorem zw4 (t:zl) (n:Int):zh Tryz.prog 112 [.val (.int .i64 n),.eptr [.lst (t.nodes.map encNode),.lst (t.edges.map encEdgeT)] 0] (fun r=>r = .val (.bool (inB t n))):=by
 unfold inB
 refine zf [] Ty.mixed Tryz.func112 rfl (by kernel_rfl) (by simp[Tryz.ntmps112]) ?_; rw[Tryz.ntmps112,Tryz.results112]
 simp -implicitDefEqProofs only[go_sem]
 repeat' first | done | (refine zw (fun h=>?_) (fun h=>?_)<;>try simp -implicitDefEqProofs only[go_sem,h]) | (refine zq (fun h=>?_) (fun h=>?_)<;>try simp -implicitDefEqProofs only[go_sem,h]) | (refine zg (fun h=>?_) (fun h=>?_)<;>try simp -implicitDefEqProofs only[go_sem,h]) | (refine zc (fun h=>?_) (fun h=>?_)<;>try simp -implicitDefEqProofs only[go_sem,h])

def edgeE (t:zl) (i:Nat):Int :=
 if nameB (t.edges.getD i default).name=false then 2
 else if (t.edges.take i).any (fun y=>decide (y.name=(t.edges.getD i default).name))=true then 5
 else if ((inB t (t.edges.getD i default).src&&inB t (t.edges.getD i default).dst)&&(boundB (t.edges.getD i default).outLow (t.edges.getD i default).outHigh&&boundB (t.edges.getD i default).inLow (t.edges.getD i default).inHigh))=true then 0 else 6

theorem zbfp (t:zl) (hf:FewT t) (i:Nat) (hi:i<t.edges.length):zh Tryz.prog 83 [encTypes t,.val (.int .i64 i)] (fun r=>r = .val (.int .i64 (edgeE t i))):=by
 have hn:=hf.edges
 refine zf [] Ty.mixed Tryz.func83 rfl (by kernel_rfl) (by simp[Tryz.ntmps83]) ?_; rw[Tryz.ntmps83,Tryz.results83]
 
 simp -implicitDefEqProofs only[go_sem,encTypes,zj encEdgeT hi,hi,encEdgeT]
 refine zba (zma (t.edges.getD i default).name (Nat.le_trans (hf.ename _ (zd7 hi)) (by decide))) (by simp -implicitDefEqProofs only[go_sem,encTypes,zj encEdgeT hi,hi,encEdgeT]<;>rfl) (scal rfl) ?_
 simp -implicitDefEqProofs only[go_sem,encTypes,zj encEdgeT hi,hi,encEdgeT]
 refine zg (fun h1=>?_) (fun h1=>?_)<;>simp -implicitDefEqProofs only[go_sem,encTypes,zj encEdgeT hi,hi,encEdgeT]
 ·refine⟨⟨⟨by omega,by omega⟩,fun x hx=>by obtain⟨a,_,rfl⟩:=List.mem_map.1 hx; rfl⟩,?_⟩
  refine zba (zvk (fun y=>decide (y.name=(t.edges.getD i default).name)) (t.edges.take i) (by simp; omega) _ [] [.eptr (encEdgeT (t.edges.getD i default)) 0] (fun y _=>zbec _ y)) (by simp -implicitDefEqProofs only[go_sem,encTypes,zj encEdgeT hi,hi,encEdgeT]<;>rfl) (scal rfl) ?_
  simp -implicitDefEqProofs only[go_sem,encTypes,zj encEdgeT hi,hi,encEdgeT]
  refine zc (fun h2=>?_) (fun h2=>?_)<;>simp -implicitDefEqProofs only[go_sem,encTypes,zj encEdgeT hi,hi,encEdgeT]
  ·unfold edgeE; rw[if_neg (by rw[h1]; decide),if_pos h2]
  ·have e1:edgeE t i=if ((inB t (t.edges.getD i default).src&&inB t (t.edges.getD i default).dst)&&(boundB (t.edges.getD i default).outLow (t.edges.getD i default).outHigh&&boundB (t.edges.getD i default).inLow (t.edges.getD i default).inHigh))=true then 0 else 6:=by
    unfold edgeE; rw[if_neg (by rw[h1]; decide),if_neg (by rw[h2]; decide)]
   rw[e1]
   clear e1
   refine zba (zw4 t (t.edges.getD i default).src) (by simp -implicitDefEqProofs only[go_sem,encTypes,zj encEdgeT hi,hi,encEdgeT]<;>rfl) (scal rfl) ?_
   simp -implicitDefEqProofs only[go_sem,encTypes,zj encEdgeT hi,hi,encEdgeT]
   refine zq (fun h3=>?_) (fun h3=>?_)<;>simp -implicitDefEqProofs only[go_sem,h3,encTypes,zj encEdgeT hi,hi,encEdgeT]
   refine zba (zw4 t (t.edges.getD i default).dst) (by simp -implicitDefEqProofs only[go_sem,encTypes,zj encEdgeT hi,hi,encEdgeT]<;>rfl) (scal rfl) ?_
   simp -implicitDefEqProofs only[go_sem,h3,encTypes,zj encEdgeT hi,hi,encEdgeT]
   refine zg (fun h4=>?_) (fun h4=>?_)<;>simp -implicitDefEqProofs only[go_sem,h4,encTypes,zj encEdgeT hi,hi,encEdgeT]
   refine zba (zuj (t.edges.getD i default).outLow (t.edges.getD i default).outHigh) (by simp -implicitDefEqProofs only[go_sem,encTypes,zj encEdgeT hi,hi,encEdgeT]<;>rfl) (scal rfl) ?_
   simp -implicitDefEqProofs only[go_sem,encTypes,zj encEdgeT hi,hi,encEdgeT]
   refine zq (fun h5=>?_) (fun h5=>?_)<;>simp -implicitDefEqProofs only[go_sem,h5,encTypes,zj encEdgeT hi,hi,encEdgeT]
   refine zba (zuj (t.edges.getD i default).inLow (t.edges.getD i default).inHigh) (by simp -implicitDefEqProofs only[go_sem,encTypes,zj encEdgeT hi,hi,encEdgeT]<;>rfl) (scal rfl) ?_
   simp -implicitDefEqProofs only[go_sem,encTypes,zj encEdgeT hi,hi,encEdgeT]
   refine zg (fun h6=>?_) (fun h6=>?_)<;>simp -implicitDefEqProofs only[go_sem,h6,encTypes,zj encEdgeT hi,hi,encEdgeT]
 ·unfold edgeE; rw[if_pos h1]

def validT (t:zl):ByteArray×Int :=
 if t.nodes.length=0 then (⟨#[]⟩,7)
 else if 12<t.nodes.length∨20<t.edges.length then (⟨#[]⟩,3)
 else match firstI (nodeE t) 0 t.nodes.length with
  | some k=>((t.nodes.getD k default).name,nodeE t k)
  | none=>match firstI (edgeE t) 0 t.edges.length with
   | some k=>((t.edges.getD k default).name,edgeE t k)
   | none=>(⟨#[]⟩,0)

theorem zth {t:zl} {n:Nat} (h:∀j,j<n→nodeE t j=0):zhm t n:=fun j hj=>z8n (h j hj)

theorem zzt (t:zl) (hf:FewT t):zh Tryz.prog 58 [encTypes t] (fun r=>r = .tup [.val (.string (validT t).1),.val (.int .i64 (validT t).2)]):=by
 have hn:=hf.nodes
 have hm:=hf.edges
 refine zf [] Ty.mixed Tryz.func58 rfl (by kernel_rfl) (by simp[Tryz.ntmps58]) ?_; rw[Tryz.ntmps58,Tryz.results58]
 
 simp -implicitDefEqProofs only[go_sem,encTypes]
 refine zc (fun h1=>?_) (fun h1=>?_)<;>simp -implicitDefEqProofs only[go_sem,encTypes]
 ·have h1':=of_decide_eq_true h1
  unfold validT; rw[if_pos (by omega)]
  exact⟨rfl,rfl⟩
 ·have h1':=of_decide_eq_false h1
  have hN:t.nodes.length≠0:=by omega
  have big:12<t.nodes.length∨20<t.edges.length→validT t=(⟨#[]⟩,3):=fun h=>by unfold validT; rw[if_neg hN,if_pos h]
  refine zw (fun h2=>?_) (fun h2=>?_)<;>simp -implicitDefEqProofs only[go_sem,h2,encTypes]
  ·have h2':=of_decide_eq_true h2
   rw[big (by omega)]
   exact⟨rfl,rfl⟩
  ·have h2':=of_decide_eq_false h2
   refine zc (fun h3=>?_) (fun h3=>?_)<;>simp -implicitDefEqProofs only[go_sem,encTypes]
   ·have h3':=of_decide_eq_true h3
    rw[big (by omega)]
    exact⟨rfl,rfl⟩
   ·have h3':=of_decide_eq_false h3
    have hV : validT t = match firstI (nodeE t) 0 t.nodes.length with
      | some k=>((t.nodes.getD k default).name,nodeE t k)
      | none=>match firstI (edgeE t) 0 t.edges.length with
       | some k=>((t.edges.getD k default).name,edgeE t k)
       | none=>(⟨#[]⟩,0):=by unfold validT; rw[if_neg hN,if_neg (by omega)]
    clear big
    refine zca (σ:=Nat) (fun x=>(upd (upd (upd (upd env0 1 (.ptr 1 0)) 27 (.p (.lst (t.nodes.map encNode)))) 28 (.p (.val (.int .i64 t.nodes.length)))) 29 (.p (.val (.int .i64 x)))))
     (fun x=>(hset heap0 1 (.box [.p (.lst (t.nodes.map encNode)),.p (.lst (t.edges.map encEdgeT))])))
     (fun x=>x≤t.nodes.length∧∀j,j<x→nodeE t j=0) (fun x=>t.nodes.length - x) 0 ⟨Nat.zero_le _,fun j hj=>absurd hj (Nat.not_lt_zero j)⟩ (zbq (by repeat (first | exact zbk _ | refine zbp ?_ (by first | rfl | simp[upd]))) (by repeat (first | exact hsub0 _ | refine zbb ?_ (by first | rfl | simp[hset]))) (by repeat (first | exact zbi _ | refine zbo ?_ (by simp[idsOk,idsOkL,hset]))) (by repeat (first | exact boxIds0 _ | refine z6 ?_ | refine zy ?_ | refine zx ?_ | refine z2 ?_ (by simp[idsOk,idsOkL,hset]))) (by repeat (first | exact keep0 _ | refine zbh (by decide) ?_ | refine zbc (by simp[hset]) ?_))) ?_
    rintro x ⟨hx,hq⟩
    simp -implicitDefEqProofs only[go_sem,encTypes]
    refine zc (fun hc=>?_) (fun hc=>?_)
    ·have hlt:x<t.nodes.length:=by simpa using hc
     
     simp -implicitDefEqProofs only[go_sem,encTypes,zj encNode hlt,hlt,encNode]
     refine zba (zbgg t hf x hlt (zth hq)) (by simp -implicitDefEqProofs only[go_sem,encTypes,zj encNode hlt,hlt,encNode]<;>rfl) (scal rfl) ?_
     simp -implicitDefEqProofs only[go_sem,encTypes,zj encNode hlt,hlt,encNode]
     refine zg (fun h4=>?_) (fun h4=>?_)<;>simp -implicitDefEqProofs only[go_sem,encTypes,zj encNode hlt,hlt,encNode]
     ·have h4':=of_decide_eq_true h4
      exact zb9 (x+1) ⟨hlt,zlm hq h4'⟩ (by omega) (by rw[zt hlt (by omega)]; exact (zbq (by repeat (first | exact zbk _ | refine zbp ?_ (by first | rfl | simp[upd]))) (by repeat (first | exact hsub0 _ | refine zbb ?_ (by first | rfl | simp[hset]))) (by repeat (first | exact zbi _ | refine zbo ?_ (by simp[idsOk,idsOkL,hset]))) (by repeat (first | exact boxIds0 _ | refine z6 ?_ | refine zy ?_ | refine zx ?_ | refine z2 ?_ (by simp[idsOk,idsOkL,hset]))) (by repeat (first | exact keep0 _ | refine zbh (by decide) ?_ | refine zbc (by simp[hset]) ?_))))
     ·have h4':=of_decide_eq_false h4
      rw[hV,zl2 (Nat.zero_le _) hlt (fun j _=>hq j) h4']
      exact⟨rfl,rfl⟩
    ·have hge:t.nodes.length≤x:=by simpa using hc
     have hN0:firstI (nodeE t) 0 t.nodes.length=none:=zhx fun j _ hj=>hq j (by omega)
     rw[hN0] at hV
     simp only[] at hV
     simp -implicitDefEqProofs only[go_sem,encTypes]
     refine zca (σ:=Nat) (fun x=>(upd (upd (upd (upd env0 1 (.ptr 1 0)) 44 (.p (.lst (t.edges.map encEdgeT)))) 45 (.p (.val (.int .i64 t.edges.length)))) 46 (.p (.val (.int .i64 x)))))
      (fun x=>(hset heap0 1 (.box [.p (.lst (t.nodes.map encNode)),.p (.lst (t.edges.map encEdgeT))])))
      (fun x=>x≤t.edges.length∧∀j,j<x→edgeE t j=0) (fun x=>t.edges.length - x) 0 ⟨Nat.zero_le _,fun j hj=>absurd hj (Nat.not_lt_zero j)⟩ (zbq (by repeat (first | exact zbk _ | refine zbp ?_ (by first | rfl | simp[upd]))) (by repeat (first | exact hsub0 _ | refine zbb ?_ (by first | rfl | simp[hset]))) (by repeat (first | exact zbi _ | refine zbo ?_ (by simp[idsOk,idsOkL,hset]))) (by repeat (first | exact boxIds0 _ | refine z6 ?_ | refine zy ?_ | refine zx ?_ | refine z2 ?_ (by simp[idsOk,idsOkL,hset]))) (by repeat (first | exact keep0 _ | refine zbh (by decide) ?_ | refine zbc (by simp[hset]) ?_))) ?_
     rintro y ⟨hy,hq'⟩
     simp -implicitDefEqProofs only[go_sem,encTypes]
     refine zc (fun hc'=>?_) (fun hc'=>?_)
     ·have hlt:y<t.edges.length:=by simpa using hc'
      
      simp -implicitDefEqProofs only[go_sem,encTypes,zj encEdgeT hlt,hlt,encEdgeT]
      refine zba (zbfp t hf y hlt) (by simp -implicitDefEqProofs only[go_sem,encTypes,zj encEdgeT hlt,hlt,encEdgeT]<;>rfl) (scal rfl) ?_
      simp -implicitDefEqProofs only[go_sem,encTypes,zj encEdgeT hlt,hlt,encEdgeT]
      refine zg (fun h4=>?_) (fun h4=>?_)<;>simp -implicitDefEqProofs only[go_sem,encTypes,zj encEdgeT hlt,hlt,encEdgeT]
      ·have h4':=of_decide_eq_true h4
       exact zb9 (y+1) ⟨hlt,zlm hq' h4'⟩ (by omega) (by rw[zt hlt (by omega)]; exact (zbq (by repeat (first | exact zbk _ | refine zbp ?_ (by first | rfl | simp[upd]))) (by repeat (first | exact hsub0 _ | refine zbb ?_ (by first | rfl | simp[hset]))) (by repeat (first | exact zbi _ | refine zbo ?_ (by simp[idsOk,idsOkL,hset]))) (by repeat (first | exact boxIds0 _ | refine z6 ?_ | refine zy ?_ | refine zx ?_ | refine z2 ?_ (by simp[idsOk,idsOkL,hset]))) (by repeat (first | exact keep0 _ | refine zbh (by decide) ?_ | refine zbc (by simp[hset]) ?_))))
      ·have h4':=of_decide_eq_false h4
       rw[hV,zl2 (Nat.zero_le _) hlt (fun j _=>hq' j) h4']
       exact⟨rfl,rfl⟩
     ·have hge:t.edges.length≤y:=by simpa using hc'
      simp -implicitDefEqProofs only[go_sem,encTypes]
      rw[hV,zhx fun j _ hj=>hq' j (by omega)]
      exact⟨rfl,rfl⟩
end Go.Proofs.YthjgdkloabgcoaaGreat
namespace Go.Proofs.YthjgdkloabgcoaaGreat
open Go.Abs

theorem zkf {α:Type} [Inhabited α] {p:α→Bool} {l:List α} {x j:Nat} (hj:j<x) (hx:x≤l.length) (h:p (l.getD j default)=true):(l.take x).any p=true:=by
 have hjl:j<l.length:=by omega
 refine List.any_eq_true.2 ⟨l[j],List.mem_iff_getElem.2 ⟨j,by simp; omega,by simp⟩,?_⟩
 simpa[hjl] using h
theorem zh8 {α:Type} [Inhabited α] {p:α→Bool} {l:List α} {x:Nat} (hx:x≤l.length) (h:∀j,j<x→p (l.getD j default)=false):(l.take x).any p=false:=by
 rw[List.any_eq_false]
 intro a ha
 obtain⟨j,hj,rfl⟩:=List.mem_iff_getElem.1 ha
 simp only[List.length_take] at hj
 have:=h j (by omega)
 have hjl:j<l.length:=by omega
 simpa[hjl] using this
theorem zzf {α:Type} [DecidableEq α] {a b:α} {c:Bool} (h:decide (a=b)=c):decide (b=a)=c:=by
 rw[←h]; simp[eq_comm]
theorem zkr {p:Nat→Bool} {x:Nat} (h:∀j,j<x→p j=false) (hx:p x=false):∀j,j<x+1→p j=false:=fun j hj=>by
 rcases Nat.lt_succ_iff_lt_or_eq.1 hj with h' | h'
 ·exact h j h'
 ·rw[h']; exact hx

theorem z6y (l:List ByteArray) (hl:l.length≤25) (hw:∀s∈l,s.size≤40):zh Tryz.prog 160 [.lst (l.map encS)] (fun r=>r = .val (.int .i64 (namesE l))):=by
 unfold namesE
 refine zf [] Ty.mixed Tryz.func160 rfl (by kernel_rfl) (by simp[Tryz.ntmps160]) ?_; rw[Tryz.ntmps160,Tryz.results160]
 simp -implicitDefEqProofs only[go_sem]
 refine zc (fun h0=>?_) (fun h0=>?_)<;>simp -implicitDefEqProofs only[go_sem]
 ·have h0':20<l.length:=by have:=of_decide_eq_true h0; omega
  rw[if_pos h0']
 ·have h0':¬ 20<l.length:=by have:=of_decide_eq_false h0; omega
  rw[if_neg h0']
  refine zca (σ:=Nat) (fun x=>(upd (upd env0 0 (.p (.lst (l.map encS)))) 3 (.p (.val (.int .i64 x))))) (fun x=>heap0)
   (fun x=>x≤l.length∧∀j,j<x→nameE l j=0) (fun x=>l.length - x) 0 ⟨Nat.zero_le _,fun j hj=>absurd hj (Nat.not_lt_zero j)⟩ (zbq (by repeat (first | exact zbk _ | refine zbp ?_ (by first | rfl | simp[upd]))) (by repeat (first | exact hsub0 _ | refine zbb ?_ (by first | rfl | simp[hset]))) (by repeat (first | exact zbi _ | refine zbo ?_ (by simp[idsOk,idsOkL,hset]))) (by repeat (first | exact boxIds0 _ | refine z6 ?_ | refine zy ?_ | refine zx ?_ | refine z2 ?_ (by simp[idsOk,idsOkL,hset]))) (by repeat (first | exact keep0 _ | refine zbh (by decide) ?_ | refine zbc (by simp[hset]) ?_))) ?_
  rintro x ⟨hx,hq⟩
  simp -implicitDefEqProofs only[go_sem]
  refine zc (fun hc=>?_) (fun hc=>?_)
  ·have hlt:x<l.length:=by simpa using hc
   
   simp -implicitDefEqProofs only[go_sem,zj encS hlt,hlt,encS]
   refine zba (zk9 (l.getD x default) (Nat.le_trans (hw _ (zd7 hlt)) (by decide))) (by simp -implicitDefEqProofs only[go_sem,zj encS hlt,hlt,encS]<;>rfl) (scal rfl) ?_
   simp -implicitDefEqProofs only[go_sem,zj encS hlt,hlt,encS]
   refine zg (fun h1=>?_) (fun h1=>?_)<;>simp -implicitDefEqProofs only[go_sem,zj encS hlt,hlt,encS]
   ·refine zca (σ:=Nat) (fun y=>(upd (upd (upd env0 0 (.p (.lst (l.map encS)))) 3 (.p (.val (.int .i64 x)))) 4 (.p (.val (.int .i64 y))))) (fun _=>heap0)
     (fun y=>y≤x∧∀j,j<y→decide (l.getD x default=l.getD j default)=false) (fun y=>x - y) 0 ⟨Nat.zero_le _,fun j hj=>absurd hj (Nat.not_lt_zero j)⟩ (zbq (by repeat (first | exact zbk _ | refine zbp ?_ (by first | rfl | simp[upd]))) (by repeat (first | exact hsub0 _ | refine zbb ?_ (by first | rfl | simp[hset]))) (by repeat (first | exact zbi _ | refine zbo ?_ (by simp[idsOk,idsOkL,hset]))) (by repeat (first | exact boxIds0 _ | refine z6 ?_ | refine zy ?_ | refine zx ?_ | refine z2 ?_ (by simp[idsOk,idsOkL,hset]))) (by repeat (first | exact keep0 _ | refine zbh (by decide) ?_ | refine zbc (by simp[hset]) ?_))) ?_
    rintro y ⟨hy,hqy⟩
    simp -implicitDefEqProofs only[go_sem,zj encS hlt,hlt,encS]
    refine zc (fun hc'=>?_) (fun hc'=>?_)
    ·have hlty:y<x:=by simpa using hc'
     have hltl:y<l.length:=by omega
     
     simp -implicitDefEqProofs only[go_sem,zj encS hlt,hlt,encS,zj encS hltl,hltl]
     refine zbn [.q,.q,.q,.q,.q,.q,.q,.q,.q] (by kernel_rfl) ?_
     simp -implicitDefEqProofs only[go_sem,zj encS hlt,hlt,encS,zj encS hltl,hltl]
     refine zc (fun h2=>?_) (fun h2=>?_)<;>simp -implicitDefEqProofs only[go_sem,zj encS hlt,hlt,encS,zj encS hltl,hltl]
     ·have:nameE l x=5:=by
       unfold nameE; rw[if_neg (by rw[h1]; decide),if_pos (zkf hlty hx (zzf h2))]
      rw[zm1 hlt hq (by rw[this]; decide),this]
     ·exact zb9 (y+1) ⟨hlty,zkr hqy (zzf h2)⟩ (by omega) (by rw[zt hlty (by omega)]; exact (zbq (by repeat (first | exact zbk _ | refine zbp ?_ (by first | rfl | simp[upd]))) (by repeat (first | exact hsub0 _ | refine zbb ?_ (by first | rfl | simp[hset]))) (by repeat (first | exact zbi _ | refine zbo ?_ (by simp[idsOk,idsOkL,hset]))) (by repeat (first | exact boxIds0 _ | refine z6 ?_ | refine zy ?_ | refine zx ?_ | refine z2 ?_ (by simp[idsOk,idsOkL,hset]))) (by repeat (first | exact keep0 _ | refine zbh (by decide) ?_ | refine zbc (by simp[hset]) ?_))))
    ·have hge:x≤y:=by simpa using hc'
     simp -implicitDefEqProofs only[go_sem,zj encS hlt,hlt,encS]
     have:nameE l x=0:=by
      unfold nameE; rw[if_neg (by rw[h1]; decide),if_neg (by rw[zh8 (p:=fun z=>decide (l.getD x default=z)) hx fun j hj=>hqy j (by omega)]; decide)]
     exact zb9 (x+1) ⟨hlt,zlm hq this⟩ (by omega) (by rw[zt hlt (by omega)]; exact (zbq (by repeat (first | exact zbk _ | refine zbp ?_ (by first | rfl | simp[upd]))) (by repeat (first | exact hsub0 _ | refine zbb ?_ (by first | rfl | simp[hset]))) (by repeat (first | exact zbi _ | refine zbo ?_ (by simp[idsOk,idsOkL,hset]))) (by repeat (first | exact boxIds0 _ | refine z6 ?_ | refine zy ?_ | refine zx ?_ | refine z2 ?_ (by simp[idsOk,idsOkL,hset]))) (by repeat (first | exact keep0 _ | refine zbh (by decide) ?_ | refine zbc (by simp[hset]) ?_))))
   ·have:nameE l x=2:=by unfold nameE; rw[if_pos h1]
    rw[zm1 hlt hq (by rw[this]; decide),this]
  ·have hge:l.length≤x:=by simpa using hc
   simp -implicitDefEqProofs only[go_sem]
   rw[zrp fun j hj=>hq j (by omega)]

theorem zxm (x:Attr) (hx:FewA x):zh Tryz.prog 124 [.agg (encAttr x)] (fun r=>r = .val (.int .i64 (attrE x))):=by
 have hn:=hx.names
 refine zf [] Ty.mixed Tryz.func124 rfl (by kernel_rfl) (by simp[Tryz.ntmps124]) ?_; rw[Tryz.ntmps124,Tryz.results124]
 
 simp -implicitDefEqProofs only[go_sem,encAttr,encStrs]
 have hw:IntKind.i64.wrap ((x.names.length:Int) - 1)=(x.names.length:Int) - 1:=IntWalk.i64_in _ (by omega)
 have hnil:x.names.length=0→namesE x.names=0:=fun h=>by
  have:x.names=[]:=List.length_eq_zero_iff.1 h
  rw[this]; try rfl
 refine zc (fun h1=>?_) (fun h1=>?_)<;>simp -implicitDefEqProofs only[go_sem,encAttr,encStrs]
 ·have h1':=of_decide_eq_true h1
  have e:attrE x=if rangeB x=true then 0 else 6:=by unfold attrE; rw[if_neg (by rw[hnil (by omega)]; decide)]
  rw[e]
  refine zba (zlq x.low (-1000000) 1000000) (by simp -implicitDefEqProofs only[go_sem,encAttr,encStrs]<;>rfl) (scal rfl) ?_
  simp -implicitDefEqProofs only[go_sem,encAttr,encStrs]
  refine zq (fun h2=>?_) (fun h2=>?_)<;>simp -implicitDefEqProofs only[go_sem,h2,encAttr,encStrs]
  ·refine zba (zlq x.high x.low 1000000) (by simp -implicitDefEqProofs only[go_sem,encAttr,encStrs]<;>rfl) (scal rfl) ?_
   simp -implicitDefEqProofs only[go_sem,encAttr,encStrs]
   refine zg (fun h3=>?_) (fun h3=>?_)<;>simp -implicitDefEqProofs only[go_sem,encAttr,encStrs]
   all_goals
    simp only[Bool.and_eq_true,Bool.and_eq_false_iff] at *
    simp only[Bool.not_eq_true',Bool.not_eq_false',decide_eq_true_eq,decide_eq_false_iff_not,Decidable.not_not] at *
    split<;>rename_i hr<;>rw[zmy] at hr<;>omega
  ·simp only[Bool.and_eq_true,Bool.and_eq_false_iff] at *
   simp only[Bool.not_eq_true',Bool.not_eq_false',decide_eq_true_eq,decide_eq_false_iff_not,Decidable.not_not] at *
   split<;>rename_i hr<;>rw[zmy] at hr<;>omega
 ·have h1':=of_decide_eq_false h1
  refine zba (z6y x.names hx.names hx.word) (by simp -implicitDefEqProofs only[go_sem,encAttr,encStrs]<;>rfl) (scal rfl) ?_
  simp -implicitDefEqProofs only[go_sem,encAttr,encStrs]
  refine zg (fun h3=>?_) (fun h3=>?_)<;>simp -implicitDefEqProofs only[go_sem,encAttr,encStrs]
  ·have h3':=of_decide_eq_true h3
   have e2:attrE x=if rangeB x=true then 0 else 6:=by unfold attrE; rw[if_neg (by rw[h3']; decide)]
   rw[e2]
   repeat' first | done | (refine zw (fun h=>?_) (fun h=>?_)<;>try simp -implicitDefEqProofs only[go_sem,h,hw,encAttr,encStrs]) | (refine zq (fun h=>?_) (fun h=>?_)<;>try simp -implicitDefEqProofs only[go_sem,h,hw,encAttr,encStrs]) | (refine zg (fun h=>?_) (fun h=>?_)<;>try simp -implicitDefEqProofs only[go_sem,h,hw,encAttr,encStrs]) | (refine zc (fun h=>?_) (fun h=>?_)<;>try simp -implicitDefEqProofs only[go_sem,h,hw,encAttr,encStrs])
   all_goals
    simp only[Bool.not_eq_true',Bool.not_eq_false',decide_eq_true_eq,decide_eq_false_iff_not,Decidable.not_not] at *
    split<;>rename_i hr<;>rw[zmy] at hr<;>omega
  ·have h3':=of_decide_eq_false h3
   unfold attrE; rw[if_pos h3']
end Go.Proofs.YthjgdkloabgcoaaGreat
namespace Go.Proofs.YthjgdkloabgcoaaGreat
open Go.Abs

def attrsI (t:zl) (a:Int):List Attr:=if a<0 then [] else attrsAt t a.toNat

theorem z34 (t:zl) (a:Int) (ha:a<0):zbt Tryz.prog 106 [encTypes t,.val (.int .i64 a)] (fun r=>r = .row 110 4 []):=by
 refine zbx [7] Ty.mixed Tryz.func106 rfl (by kernel_rfl) (by simp[Tryz.ntmps106]) ?_; rw[Tryz.ntmps106,Tryz.results106]
 simp -implicitDefEqProofs only[go_sem,encTypes]
 refine zc (fun h0=>?_) (fun h0=>?_)<;>simp -implicitDefEqProofs only[go_sem]
 ·exact⟨by decide,_,.nil _ _ (by decide),rfl⟩
 ·have:=of_decide_eq_false h0
  omega

theorem zwa (t:zl) (hf:FewT t):∀ (a:Nat),a<t.nodes.length→zhm t (a+1)→zbt Tryz.prog 106 [encTypes t,.val (.int .i64 a)] (fun r=>r = .row 110 4 ((attrsAt t a).map encAttr)):=by
 intro a
 induction a using Nat.strongRecOn with
 | _ a ih =>
  intro ha hp
  have hq:=hp a (by omega)
  have h1:=hf.attrs _ (zd7 ha)
  have hlen:=zh1 hf ha hp
  have hrec:zbt Tryz.prog 106 [encTypes t,.val (.int .i64 (t.nodes.getD a default).parent)] (fun r=>r = .row 110 4 ((attrsI t (t.nodes.getD a default).parent).map encAttr)):=by
   by_cases h0:(t.nodes.getD a default).parent<0
   ·have:=z34 t _ h0
    unfold attrsI; rw[if_pos h0]; exact this
   ·obtain⟨q,hqq⟩:∃q:Nat,(t.nodes.getD a default).parent=q:=⟨_,(Int.toNat_of_nonneg (by omega)).symm⟩
    unfold attrsI
    rw[if_neg h0,hqq,Int.toNat_natCast]
    have hqa:q<a:=by have:=hq.2; rw[hqq] at this; omega
    exact ih q hqa (by omega) (fun j hj=>hp j (by omega))
  have e:attrsAt t a=attrsI t (t.nodes.getD a default).parent++(t.nodes.getD a default).attrs:=by
   rw[zk4 hp]
   unfold attrsI
   by_cases h0:(t.nodes.getD a default).parent<0
   ·rw[if_pos h0,if_neg (by omega)]
   ·rw[if_neg h0,if_pos (by omega)]
  rw[e,List.length_append] at hlen
  rw[e]
  refine zbx [7] Ty.mixed Tryz.func106 rfl (by kernel_rfl) (by simp[Tryz.ntmps106]) ?_; rw[Tryz.ntmps106,Tryz.results106]
  
  simp -implicitDefEqProofs only[go_sem,encTypes,zj encNode ha,ha,encNode]
  refine zc (fun h0=>?_) (fun h0=>?_)<;>simp -implicitDefEqProofs only[go_sem,zj encNode ha,ha,encNode]
  ·have:=of_decide_eq_true h0
   omega
  ·refine zfg [(1,.q),(2,.q),(3,.q),(4,.q),(5,.q),(6,.q),(7,.q),(8,.q),(10,.b),(11,.b),(12,.b),(13,.b),(14,.b),(15,.b),(0,.w),(9,.s),(16,.w),(17,.q)] (by kernel_rfl) ?_
   simp -implicitDefEqProofs only[go_sem,zj encNode ha,ha,encNode]
   refine zio (hrec.toL) (by simp -implicitDefEqProofs only[go_sem,zj encNode ha,ha,encNode]<;>rfl) (pers) ?_
   simp -implicitDefEqProofs only[go_sem,zj encNode ha,ha,encNode]
   exact⟨⟨⟨_,rfl⟩,_,rfl⟩,⟨by omega,zni _⟩,⟨by omega,zni _⟩,by decide,_,.refl _,by rw[List.map_append]⟩

theorem zbcr (t:zl) (hf:FewT t) (i:Nat) (hi:i<t.nodes.length) (hp:zhm t i):zh Tryz.prog 90 [encTypes t,.val (.int .i64 i)] (fun r=>r = .val (.int .i64 (nodeE t i))):=by
 have hn:=hf.nodes
 have hl1:=hf.attrs _ (zd7 hi)
 refine zf [] Ty.mixed Tryz.func90 rfl (by kernel_rfl) (by simp[Tryz.ntmps90]) ?_; rw[Tryz.ntmps90,Tryz.results90]
 
 simp -implicitDefEqProofs only[go_sem,encTypes,zj encNode hi,hi,encNode]
 refine zba (zk9 (t.nodes.getD i default).name (Nat.le_trans (hf.name _ (zd7 hi)) (by decide))) (by simp -implicitDefEqProofs only[go_sem,encTypes,zj encNode hi,hi,encNode]<;>rfl) (scal rfl) ?_
 simp -implicitDefEqProofs only[go_sem,encTypes,zj encNode hi,hi,encNode]
 refine zg (fun h1=>?_) (fun h1=>?_)<;>simp -implicitDefEqProofs only[go_sem,encTypes,zj encNode hi,hi,encNode]
 ·refine zca (σ:=Nat) (fun x=>(upd (upd (upd (upd env0 1 (.p (.val (.int .i64 i)))) 2 (.ptr 2 0)) 5 (.ptr 5 0)) 6 (.p (.val (.int .i64 x)))))
   (fun x=>(hset (hset heap0 2 (.box [.p (.lst (t.nodes.map encNode)),.p (.lst (t.edges.map encEdgeT))])) 5 (.box [.p (.val (.string (t.nodes.getD i default).name)),.p (.val (.int .i64 (t.nodes.getD i default).parent)),.p (.val (.bool (t.nodes.getD i default).abs)),.p (.lst ((t.nodes.getD i default).attrs.map encAttr))])))
   (fun x=>x≤i∧∀j,j<x→decide ((t.nodes.getD j default).name=(t.nodes.getD i default).name)=false) (fun x=>i - x) 0 ⟨Nat.zero_le _,fun j hj=>absurd hj (Nat.not_lt_zero j)⟩ (zbq (by repeat (first | exact zbk _ | refine zbp ?_ (by first | rfl | simp[upd]))) (by repeat (first | exact hsub0 _ | refine zbb ?_ (by first | rfl | simp[hset]))) (by repeat (first | exact zbi _ | refine zbo ?_ (by simp[idsOk,idsOkL,hset]))) (by repeat (first | exact boxIds0 _ | refine z6 ?_ | refine zy ?_ | refine zx ?_ | refine z2 ?_ (by simp[idsOk,idsOkL,hset]))) (by repeat (first | exact keep0 _ | refine zbh (by decide) ?_ | refine zbc (by simp[hset]) ?_))) ?_
  rintro x ⟨hx,hqx⟩
  simp -implicitDefEqProofs only[go_sem,encTypes,zj encNode hi,hi,encNode]
  refine zc (fun hc=>?_) (fun hc=>?_)
  ·have hltx:x<i:=by simpa using hc
   have hxl:x<t.nodes.length:=by omega
   
   simp -implicitDefEqProofs only[go_sem,encTypes,zj encNode hi,hi,encNode,zj encNode hxl,hxl]
   refine zbn [.q,.q,.q,.q,.q,.q,.q,.q,.q] (by kernel_rfl) ?_
   simp -implicitDefEqProofs only[go_sem,encTypes,zj encNode hi,hi,encNode,zj encNode hxl,hxl]
   refine zc (fun h2=>?_) (fun h2=>?_)<;>simp -implicitDefEqProofs only[go_sem,encTypes,zj encNode hi,hi,encNode,zj encNode hxl,hxl]
   ·have:nodeE t i=5:=by
     unfold nodeE; rw[if_neg (by rw[h1]; decide),if_pos (zkf (p:=fun y:zd0=>decide (y.name=(t.nodes.getD i default).name)) hltx (by omega) h2)]
    rw[this]
   ·exact zb9 (x+1) ⟨hltx,zkr hqx h2⟩ (by omega) (by rw[zt hltx (by omega)]; exact (zbq (by repeat (first | exact zbk _ | refine zbp ?_ (by first | rfl | simp[upd]))) (by repeat (first | exact hsub0 _ | refine zbb ?_ (by first | rfl | simp[hset]))) (by repeat (first | exact zbi _ | refine zbo ?_ (by simp[idsOk,idsOkL,hset]))) (by repeat (first | exact boxIds0 _ | refine z6 ?_ | refine zy ?_ | refine zx ?_ | refine z2 ?_ (by simp[idsOk,idsOkL,hset]))) (by repeat (first | exact keep0 _ | refine zbh (by decide) ?_ | refine zbc (by simp[hset]) ?_))))
  ·have hge:i≤x:=by simpa using hc
   have hany:=zh8 (p:=fun y:zd0=>decide (y.name=(t.nodes.getD i default).name)) (Nat.le_of_lt hi) fun j hj=>hqx j (by omega)
   have e1 : nodeE t i = if ¬ (-1 ≤ (t.nodes.getD i default).parent ∧ (t.nodes.getD i default).parent < i) then 6
     else if 4<(t.nodes.getD i default).attrs.length then 3 else if 8<(attrsAt t i).length then 3
     else firstE (fun k=>attrX ((attrsAt t i).take k) ((attrsAt t i).getD k default)) ((attrsAt t i).length - (t.nodes.getD i default).attrs.length) (attrsAt t i).length:=by
    unfold nodeE; rw[if_neg (by rw[h1]; decide),if_neg (by rw[hany]; decide)]
   rw[e1]
   clear e1
   have hwi:IntKind.i64.wrap ((i:Int) - 1)=(i:Int) - 1:=IntWalk.i64_in _ (by omega)
   simp -implicitDefEqProofs only[go_sem,hwi,encTypes,zj encNode hi,hi,encNode]
   refine zba (zlq (t.nodes.getD i default).parent (-1) (i - 1)) (by simp -implicitDefEqProofs only[go_sem,encTypes,zj encNode hi,hi,encNode]<;>rfl) (scal rfl) ?_
   simp -implicitDefEqProofs only[go_sem,encTypes,zj encNode hi,hi,encNode]
   refine zg (fun h3=>?_) (fun h3=>?_)<;>simp -implicitDefEqProofs only[go_sem,encTypes,zj encNode hi,hi,encNode]
   ·simp only[Bool.and_eq_true,decide_eq_true_eq] at h3
    rw[if_neg (by omega)]
    have hp':zhm t (i+1):=fun j hj=>by
     rcases Nat.lt_succ_iff_lt_or_eq.1 hj with h | h
     ·exact hp j h
     ·subst h; omega
    have hlen:=zh1 hf hi hp'
    have hat:(t.nodes.getD i default).attrs.length≤(attrsAt t i).length:=by
     rw[zk4 hp',List.length_append]; omega
    generalize hs:(attrsAt t i).length - (t.nodes.getD i default).attrs.length=s
    have hw:IntKind.i64.wrap (((attrsAt t i).length:Int) - ((t.nodes.getD i default).attrs.length:Int))=s:=by rw[IntWalk.i64_in _ (by omega)]; omega
    refine zba ((zwa t hf i hi hp').toL) (by simp -implicitDefEqProofs only[go_sem,encTypes,zj encNode hi,hi,encNode]<;>rfl) (pers) ?_
    simp -implicitDefEqProofs only[go_sem,encTypes,zj encNode hi,hi,encNode]
    refine zw (fun h5=>?_) (fun h5=>?_)<;>simp -implicitDefEqProofs only[go_sem,h5,encTypes,zj encNode hi,hi,encNode]
    ·have h5':=of_decide_eq_true h5
     rw[if_pos (by omega)]
    ·have h5':=of_decide_eq_false h5
     rw[if_neg (by omega)]
     refine zc (fun h6=>?_) (fun h6=>?_)<;>simp -implicitDefEqProofs only[go_sem,encTypes,zj encNode hi,hi,encNode]
     ·have h6':=of_decide_eq_true h6
      rw[if_pos (by omega)]
     ·have h6':=of_decide_eq_false h6
      rw[if_neg (by omega),hw]
      generalize hf':(fun k=>attrX ((attrsAt t i).take k) ((attrsAt t i).getD k default))=f
      refine zca (σ:=Nat) (fun x=>(upd (upd (upd (upd (upd env0 1 (.p (.val (.int .i64 i)))) 2 (.ptr 2 0)) 5 (.ptr 5 0)) 7 (.p (.lst ((attrsAt t i).map encAttr)))) 8 (.p (.val (.int .i64 x)))))
       (fun x=>(hset (hset heap0 2 (.box [.p (.lst (t.nodes.map encNode)),.p (.lst (t.edges.map encEdgeT))])) 5 (.box [.p (.val (.string (t.nodes.getD i default).name)),.p (.val (.int .i64 (t.nodes.getD i default).parent)),.p (.val (.bool (t.nodes.getD i default).abs)),.p (.lst ((t.nodes.getD i default).attrs.map encAttr))])))
       (fun x=>(s≤x∧x≤(attrsAt t i).length)∧∀j,s≤j→j<x→f j=0) (fun x=>(attrsAt t i).length - x) s ⟨⟨Nat.le_refl _,by omega⟩,fun j hj hj'=>absurd hj' (by omega)⟩ (zbq (by repeat (first | exact zbk _ | refine zbp ?_ (by first | rfl | simp[upd]))) (by repeat (first | exact hsub0 _ | refine zbb ?_ (by first | rfl | simp[hset]))) (by repeat (first | exact zbi _ | refine zbo ?_ (by simp[idsOk,idsOkL,hset]))) (by repeat (first | exact boxIds0 _ | refine z6 ?_ | refine zy ?_ | refine zx ?_ | refine z2 ?_ (by simp[idsOk,idsOkL,hset]))) (by repeat (first | exact keep0 _ | refine zbh (by decide) ?_ | refine zbc (by simp[hset]) ?_))) ?_
      rintro x ⟨⟨hsx,hx⟩,hq⟩
      simp -implicitDefEqProofs only[go_sem,encTypes,zj encNode hi,hi,encNode]
      refine zc (fun hc=>?_) (fun hc=>?_)
      ·have hlt:x<(attrsAt t i).length:=by have:=of_decide_eq_true hc; omega
       have hA:=hf.fewA hi hp' (zd7 hlt)
       have e:f x=attrX ((attrsAt t i).take x) ((attrsAt t i).getD x default):=by rw[←hf']
       
       simp -implicitDefEqProofs only[go_sem,encTypes,zj encNode hi,hi,encNode,zj encAttr hlt,hlt,encAttr]
       refine zba (zk9 ((attrsAt t i).getD x default).name (Nat.le_trans hA.name (by decide))) (by simp -implicitDefEqProofs only[go_sem,encTypes,zj encNode hi,hi,encNode,zj encAttr hlt,hlt,encAttr]<;>rfl) (scal rfl) ?_
       simp -implicitDefEqProofs only[go_sem,encTypes,zj encNode hi,hi,encNode,zj encAttr hlt,hlt,encAttr]
       refine zg (fun h7=>?_) (fun h7=>?_)<;>simp -implicitDefEqProofs only[go_sem,encTypes,zj encNode hi,hi,encNode,zj encAttr hlt,hlt,encAttr]
       ·refine zca (σ:=Nat) (fun y=>(upd (upd (upd (upd (upd (upd env0 1 (.p (.val (.int .i64 i)))) 2 (.ptr 2 0)) 5 (.ptr 5 0)) 7 (.p (.lst ((attrsAt t i).map encAttr)))) 8 (.p (.val (.int .i64 x)))) 9 (.p (.val (.int .i64 y)))))
         (fun x=>(hset (hset heap0 2 (.box [.p (.lst (t.nodes.map encNode)),.p (.lst (t.edges.map encEdgeT))])) 5 (.box [.p (.val (.string (t.nodes.getD i default).name)),.p (.val (.int .i64 (t.nodes.getD i default).parent)),.p (.val (.bool (t.nodes.getD i default).abs)),.p (.lst ((t.nodes.getD i default).attrs.map encAttr))])))
         (fun y=>y≤x∧∀j,j<y→decide (((attrsAt t i).getD j default).name=((attrsAt t i).getD x default).name)=false) (fun y=>x - y) 0 ⟨Nat.zero_le _,fun j hj=>absurd hj (Nat.not_lt_zero j)⟩ (zbq (by repeat (first | exact zbk _ | refine zbp ?_ (by first | rfl | simp[upd]))) (by repeat (first | exact hsub0 _ | refine zbb ?_ (by first | rfl | simp[hset]))) (by repeat (first | exact zbi _ | refine zbo ?_ (by simp[idsOk,idsOkL,hset]))) (by repeat (first | exact boxIds0 _ | refine z6 ?_ | refine zy ?_ | refine zx ?_ | refine z2 ?_ (by simp[idsOk,idsOkL,hset]))) (by repeat (first | exact keep0 _ | refine zbh (by decide) ?_ | refine zbc (by simp[hset]) ?_))) ?_
        rintro y ⟨hy,hqy⟩
        simp -implicitDefEqProofs only[go_sem,encTypes,zj encNode hi,hi,encNode,zj encAttr hlt,hlt,encAttr]
        refine zc (fun hc'=>?_) (fun hc'=>?_)
        ·have hlty:y<x:=by simpa using hc'
         have hltl:y<(attrsAt t i).length:=by omega
         
         simp -implicitDefEqProofs only[go_sem,encTypes,zj encNode hi,hi,encNode,zj encAttr hlt,hlt,encAttr,zj encAttr hltl,hltl]
         refine zbn [.q,.q,.q,.q,.q,.q,.q,.q,.q,.q,.q] (by kernel_rfl) ?_
         simp -implicitDefEqProofs only[go_sem,encTypes,zj encNode hi,hi,encNode,zj encAttr hlt,hlt,encAttr,zj encAttr hltl,hltl]
         refine zc (fun h8=>?_) (fun h8=>?_)<;>simp -implicitDefEqProofs only[go_sem,encTypes,zj encNode hi,hi,encNode,zj encAttr hlt,hlt,encAttr,zj encAttr hltl,hltl]
         ·have e5:f x=5:=by
           rw[e]; unfold attrX
           rw[if_neg (by rw[h7]; decide),if_pos (zkf (p:=fun z:Attr=>decide (z.name=((attrsAt t i).getD x default).name)) hlty hx h8)]
          rw[zl0 hsx hlt hq (by rw[e5]; decide),e5]
         ·exact zb9 (y+1) ⟨hlty,zkr hqy h8⟩ (by omega) (by rw[zt hlty (by omega)]; exact (zbq (by repeat (first | exact zbk _ | refine zbp ?_ (by first | rfl | simp[upd]))) (by repeat (first | exact hsub0 _ | refine zbb ?_ (by first | rfl | simp[hset]))) (by repeat (first | exact zbi _ | refine zbo ?_ (by simp[idsOk,idsOkL,hset]))) (by repeat (first | exact boxIds0 _ | refine z6 ?_ | refine zy ?_ | refine zx ?_ | refine z2 ?_ (by simp[idsOk,idsOkL,hset]))) (by repeat (first | exact keep0 _ | refine zbh (by decide) ?_ | refine zbc (by simp[hset]) ?_))))
        ·have hge':x≤y:=by simpa using hc'
         have e6:f x=attrE ((attrsAt t i).getD x default):=by
          rw[e]; unfold attrX
          rw[if_neg (by rw[h7]; decide),if_neg (by rw[zh8 (p:=fun z:Attr=>decide (z.name=((attrsAt t i).getD x default).name)) hx fun j hj=>hqy j (by omega)]; decide)]
         simp -implicitDefEqProofs only[go_sem,encTypes,zj encNode hi,hi,encNode,zj encAttr hlt,hlt,encAttr]
         refine zba (zxm ((attrsAt t i).getD x default) hA) (by simp -implicitDefEqProofs only[go_sem,encTypes,zj encNode hi,hi,encNode,zj encAttr hlt,hlt,encAttr]<;>rfl) (scal rfl) ?_
         simp -implicitDefEqProofs only[go_sem,encTypes,zj encNode hi,hi,encNode,zj encAttr hlt,hlt,encAttr]
         rw[←e6]
         refine zg (fun h9=>?_) (fun h9=>?_)<;>simp -implicitDefEqProofs only[go_sem,encTypes,zj encNode hi,hi,encNode,zj encAttr hlt,hlt,encAttr]
         ·have h9':=of_decide_eq_true h9
          exact zb9 (x+1) ⟨⟨by omega,hlt⟩,fun j hj hj'=>by
           rcases Nat.lt_succ_iff_lt_or_eq.1 hj' with h | h
           ·exact hq j hj h
           ·rw[h]; exact h9'⟩ (by omega) (by rw[zt hlt (by omega)]; exact (zbq (by repeat (first | exact zbk _ | refine zbp ?_ (by first | rfl | simp[upd]))) (by repeat (first | exact hsub0 _ | refine zbb ?_ (by first | rfl | simp[hset]))) (by repeat (first | exact zbi _ | refine zbo ?_ (by simp[idsOk,idsOkL,hset]))) (by repeat (first | exact boxIds0 _ | refine z6 ?_ | refine zy ?_ | refine zx ?_ | refine z2 ?_ (by simp[idsOk,idsOkL,hset]))) (by repeat (first | exact keep0 _ | refine zbh (by decide) ?_ | refine zbc (by simp[hset]) ?_))))
         ·have h9':=of_decide_eq_false h9
          rw[zl0 hsx hlt hq h9']
       ·have e2:f x=2:=by rw[e]; unfold attrX; rw[if_pos h7]
        rw[zl0 hsx hlt hq (by rw[e2]; decide),e2]
      ·have hge:(attrsAt t i).length≤x:=by have:=of_decide_eq_false hc; omega
       simp -implicitDefEqProofs only[go_sem,encTypes,zj encNode hi,hi,encNode]
       rw[zou fun j hj hj'=>hq j hj (by omega)]
   ·simp only[Bool.and_eq_false_iff,decide_eq_false_iff_not] at h3
    rw[if_pos (by omega)]
 ·unfold nodeE; rw[if_pos h1]
end Go.Proofs.YthjgdkloabgcoaaGreat
namespace Go.Proofs.YthjgdkloabgcoaaGreat
open Go.Abs

def revS (l:List Int) (i:Nat):List Int:=(List.range l.length).map fun k=>if k<i∨l.length - 1 - i<k then l.getD (l.length - 1 - k) default else l.getD k default
theorem zpv (l:List Int) (i:Nat):(revS l i).length=l.length:=by simp[revS]
theorem z67 (l:List Int):revS l 0=l:=by
 apply List.ext_getElem
 ·simp[revS]
 ·intro k h1 h2
  simp only[revS,List.getElem_map,List.getElem_range,Nat.not_lt_zero,false_or,Nat.sub_zero]
  rw[if_neg (by omega)]
  simp[h2]
theorem zbep (l:List Int) (i:Nat) (h:l.length≤2 * i+1):revS l i=l.reverse:=by
 apply List.ext_getElem
 ·simp[revS]
 ·intro k h1 h2
  have hk:k<l.length:=by simpa using h2
  simp only[revS,List.getElem_map,List.getElem_range,List.getElem_reverse]
  have h3:l.length - 1 - k<l.length:=by omega
  split
  ·simp[h3]
  ·have e:k=l.length - 1 - k:=by omega
   have:l[l.length - 1 - k]=l[k]:=by congr 1; omega
   rw[this]; simp[hk]
theorem z2w (l:List Int) (i k:Nat) (hk:k<l.length):(revS l i).getD k default=if k<i∨l.length - 1 - i<k then l.getD (l.length - 1 - k) default else l.getD k default:=by
 simp only[revS,List.getD_eq_getElem?_getD,List.getElem?_map,List.getElem?_range hk,Option.map_some,Option.getD_some]
theorem z6f (l:List Int) (i:Nat) (h:2 * i+1<l.length):((revS l i).set i (l.getD (l.length - 1 - i) default)).set (l.length - 1 - i) (l.getD i default)=revS l (i+1):=by
 apply List.ext_getElem
 ·simp[revS]
 ·intro k h1 h2
  have hk:k<l.length:=by simpa[revS] using h2
  simp only[List.getElem_set,revS,List.getElem_map,List.getElem_range]
  split
  ·rename_i e
   rw[if_pos (by omega)]
   congr 1; omega
  ·split
   ·rename_i e
    rw[if_pos (by omega),e]
   ·by_cases h3:k<i∨l.length - 1 - i<k
    ·rw[if_pos h3,if_pos (by omega)]
    ·rw[if_neg h3,if_neg (by omega)]

theorem zch (l:List Int) (k:Nat) (y:Int):(l.map encI).set k [PV.val (.int .i64 y)]=(l.set k y).map encI:=by rw[List.map_set]; try rfl

theorem z52 (l:List Int) (hl:l.length≤1000000) (v:Nat):ziu Tryz.prog 281 v 3 1 (l.map encI) [] (fun a c=>a = .tup []∧c=some (.row v 3 1 (l.reverse.map encI))):=by
 refine z1a [] Ty.mixed Tryz.func281 rfl (by kernel_rfl) (by simp[Tryz.ntmps281]) ?_; rw[Tryz.ntmps281,Tryz.results281]
 simp -implicitDefEqProofs only[go_sem]
 have hw:IntKind.i64.wrap ((l.length:Int) - 1)=(l.length:Int) - 1:=IntWalk.i64_in _ (by omega)
 rw[hw]
 refine zca (σ:=Nat) (fun x=>(upd (upd (upd env0 0 (.row 1000000 v)) 2 (.p (.val (.int .i64 x)))) 3 (.p (.val (.int .i64 ((l.length:Int) - 1 - x)))))) (fun x=>(hset heap0 1000000 (.row v 3 1 ((revS l x).map encI))))
  (fun x=>2 * x≤l.length+1) (fun x=>l.length - 2 * x) 0 (by omega) ?_ ?_
 ·rw[z67]
  exact (zbq (by repeat (first | exact zbk _ | refine zbp ?_ (by first | rfl | simp[upd]))) (by repeat (first | exact hsub0 _ | refine zbb ?_ (by first | rfl | simp[hset]))) (by repeat (first | exact zbi _ | refine zbo ?_ (by simp[idsOk,idsOkL,hset]))) (by repeat (first | exact boxIds0 _ | refine z6 ?_ | refine zy ?_ | refine zx ?_ | refine z2 ?_ (by simp[idsOk,idsOkL,hset]))) (by repeat (first | exact keep0 _ | refine zbh (by decide) ?_ | refine zbc (by simp[hset]) ?_)))
 rintro x hx
 simp -implicitDefEqProofs only[go_sem]
 refine zc (fun hc=>?_) (fun hc=>?_)
 ·have hc':=of_decide_eq_true hc
  have hx1:x<l.length:=by omega
  have hj1:((l.length:Int) - 1 - x).toNat=l.length - 1 - x:=by omega
  have hj2:l.length - 1 - x<l.length:=by omega
  have hlx:x<(revS l x).length:=by rw[zpv]; exact hx1
  have hlj:l.length - 1 - x<(revS l x).length:=by rw[zpv]; exact hj2
  have hv1:(revS l x).getD (l.length - 1 - x) default=l.getD (l.length - 1 - x) default:=by rw[z2w l x _ hj2,if_neg (by omega)]
  have hv2:(revS l x).getD x default=l.getD x default:=by rw[z2w l x _ hx1,if_neg (by omega)]
  have hlj':l.length - 1 - x<((revS l x).set x (l.getD (l.length - 1 - x) default)).length:=by rw[List.length_set]; exact hlj
  
  
  simp -implicitDefEqProofs only[go_sem,hv1,hv2,zch,zj encI hlj',hj1,zj encI hlx,zj encI hlj,encI,zpv,List.length_set]
  refine zbn [.q,.q,.p,.p,.q,.q,.q,.q,.q,.q,.q,.q,.q,.w,.q,.w] (by kernel_rfl) ?_
  simp -implicitDefEqProofs only[go_sem,hv1,hv2,zch,zj encI hlj',hj1,zj encI hlx,zj encI hlj,encI,zpv,List.length_set]
  refine⟨by omega,hj2,hx1,hx1,hx1,hx1,by omega,hj2,?_⟩
  rw[z6f l x (by omega),zt (show x<l.length from hx1) (by omega)]
  have hw2:IntKind.i64.wrap ((l.length:Int) - 1 - x - 1)=(l.length:Int) - 1 - ((x+1:Nat):Int):=by rw[IntWalk.i64_in _ (by omega)]; omega
  rw[hw2]
  exact zb9 (x+1) (by omega) (by omega) (zbq (by repeat (first | exact zbk _ | refine zbp ?_ (by first | rfl | simp[upd]))) (by repeat (first | exact hsub0 _ | refine zbb ?_ (by first | rfl | simp[hset]))) (by repeat (first | exact zbi _ | refine zbo ?_ (by simp[idsOk,idsOkL,hset]))) (by repeat (first | exact boxIds0 _ | refine z6 ?_ | refine zy ?_ | refine zx ?_ | refine z2 ?_ (by simp[idsOk,idsOkL,hset]))) (by repeat (first | exact keep0 _ | refine zbh (by decide) ?_ | refine zbc (by simp[hset]) ?_)))
 ·have hc':=of_decide_eq_false hc
  simp -implicitDefEqProofs only[go_sem]
  rw[zbep l x (by omega)]
end Go.Proofs.YthjgdkloabgcoaaGreat
namespace Go.Proofs.YthjgdkloabgcoaaGreat
open Go.Abs

theorem zbcm (l:List Int):∀x∈l.map encI,x.length=1:=by
 intro x hx
 obtain⟨a,_,rfl⟩:=List.mem_map.1 hx
 rfl
theorem z7w (l:List Int) (hl:l.length≤1000000):zbt Tryz.prog 21 [.lst (l.map encI)] (fun r=>r = .row 3 1 (l.map encI)):=by
 by_cases h0:l=[]
 ·subst h0
  refine zbt.lst_nil (by kernel_rfl) fun ao cap=>?_
  refine zbx [5] Ty.mixed Tryz.func21 rfl (by kernel_rfl) (by simp[Tryz.ntmps21]) ?_; rw[Tryz.ntmps21,Tryz.results21]
  simp -implicitDefEqProofs only[go_sem]
  cases ao with
  | none =>
   simp -implicitDefEqProofs only[go_sem]
   exact⟨by decide,_,.nil _ _ (by decide),rfl⟩
  | some a =>
   simp -implicitDefEqProofs only[go_sem]
   exact⟨fun _ h=>h.elim,by decide,_,.refl _,rfl⟩
 ·have hne:l.map encI≠[]:=by simpa using h0
  refine zbx [5] Ty.mixed Tryz.func21 rfl (by kernel_rfl) (by simp[Tryz.ntmps21]) ?_; rw[Tryz.ntmps21,Tryz.results21]
  simp -implicitDefEqProofs only[go_sem,hne]
  exact⟨⟨by omega,zbcm l⟩,by decide,_,.refl _,rfl⟩
theorem zxr (l:List ByteArray):∀x∈l.map encS,x.length=1:=by
 intro x hx
 obtain⟨a,_,rfl⟩:=List.mem_map.1 hx
 rfl
theorem z7c (l:List ByteArray) (hl:l.length≤1000000):zbt Tryz.prog 265 [.lst (l.map encS)] (fun r=>r = .row 9 1 (l.map encS)):=by
 by_cases h0:l=[]
 ·subst h0
  refine zbt.lst_nil (by kernel_rfl) fun ao cap=>?_
  refine zbx [5] Ty.mixed Tryz.func265 rfl (by kernel_rfl) (by simp[Tryz.ntmps265]) ?_; rw[Tryz.ntmps265,Tryz.results265]
  simp -implicitDefEqProofs only[go_sem]
  cases ao with
  | none =>
   simp -implicitDefEqProofs only[go_sem]
   exact⟨by decide,_,.nil _ _ (by decide),rfl⟩
  | some a =>
   simp -implicitDefEqProofs only[go_sem]
   exact⟨fun _ h=>h.elim,by decide,_,.refl _,rfl⟩
 ·have hne:l.map encS≠[]:=by simpa using h0
  refine zbx [5] Ty.mixed Tryz.func265 rfl (by kernel_rfl) (by simp[Tryz.ntmps265]) ?_; rw[Tryz.ntmps265,Tryz.results265]
  simp -implicitDefEqProofs only[go_sem,hne]
  exact⟨⟨by omega,zxr l⟩,by decide,_,.refl _,rfl⟩
end Go.Proofs.YthjgdkloabgcoaaGreat
namespace Go.Proofs.YthjgdkloabgcoaaGreat
open Go.Abs

theorem zba7 (t:zl) (hf:FewT t) (i:Nat) (hi:i<t.edges.length):zh Tryz.prog 91 [encTypes t,.val (.int .i64 i)] (fun r=>r = .val (.int .i64 (edgeE t i))):=by
 have hn:=hf.edges
 have hn':=hf.nodes
 refine zf [] Ty.mixed Tryz.func91 rfl (by kernel_rfl) (by simp[Tryz.ntmps91]) ?_; rw[Tryz.ntmps91,Tryz.results91]
 
 simp -implicitDefEqProofs only[go_sem,encTypes,zj encEdgeT hi,hi,encEdgeT]
 refine zba (zk9 (t.edges.getD i default).name (Nat.le_trans (hf.ename _ (zd7 hi)) (by decide))) (by simp -implicitDefEqProofs only[go_sem,encTypes,zj encEdgeT hi,hi,encEdgeT]<;>rfl) (scal rfl) ?_
 simp -implicitDefEqProofs only[go_sem,encTypes,zj encEdgeT hi,hi,encEdgeT]
 refine zg (fun h1=>?_) (fun h1=>?_)<;>simp -implicitDefEqProofs only[go_sem,encTypes,zj encEdgeT hi,hi,encEdgeT]
 ·refine zca (σ:=Nat) (fun x=>(upd (upd (upd (upd env0 1 (.p (.val (.int .i64 i)))) 2 (.ptr 2 0)) 5 (.ptr 5 0)) 6 (.p (.val (.int .i64 x)))))
   (fun x=>(hset (hset heap0 2 (.box [.p (.lst (t.nodes.map encNode)),.p (.lst (t.edges.map encEdgeT))])) 5 (.box [.p (.val (.string (t.edges.getD i default).name)),.p (.val (.int .i64 (t.edges.getD i default).src)),.p (.val (.int .i64 (t.edges.getD i default).dst)),.p (.val (.int .i64 (t.edges.getD i default).outLow)),.p (.val (.int .i64 (t.edges.getD i default).outHigh)),.p (.val (.int .i64 (t.edges.getD i default).inLow)),.p (.val (.int .i64 (t.edges.getD i default).inHigh))])))
   (fun x=>x≤i∧∀j,j<x→decide ((t.edges.getD j default).name=(t.edges.getD i default).name)=false) (fun x=>i - x) 0 ⟨Nat.zero_le _,fun j hj=>absurd hj (Nat.not_lt_zero j)⟩ (zbq (by repeat (first | exact zbk _ | refine zbp ?_ (by first | rfl | simp[upd]))) (by repeat (first | exact hsub0 _ | refine zbb ?_ (by first | rfl | simp[hset]))) (by repeat (first | exact zbi _ | refine zbo ?_ (by simp[idsOk,idsOkL,hset]))) (by repeat (first | exact boxIds0 _ | refine z6 ?_ | refine zy ?_ | refine zx ?_ | refine z2 ?_ (by simp[idsOk,idsOkL,hset]))) (by repeat (first | exact keep0 _ | refine zbh (by decide) ?_ | refine zbc (by simp[hset]) ?_))) ?_
  rintro x ⟨hx,hqx⟩
  simp -implicitDefEqProofs only[go_sem,encTypes,zj encEdgeT hi,hi,encEdgeT]
  refine zc (fun hc=>?_) (fun hc=>?_)
  ·have hltx:x<i:=by simpa using hc
   have hxl:x<t.edges.length:=by omega
   
   simp -implicitDefEqProofs only[go_sem,encTypes,zj encEdgeT hi,hi,encEdgeT,zj encEdgeT hxl,hxl]
   refine zbn [.q,.q,.q,.q,.q,.q,.q,.q,.q] (by kernel_rfl) ?_
   simp -implicitDefEqProofs only[go_sem,encTypes,zj encEdgeT hi,hi,encEdgeT,zj encEdgeT hxl,hxl]
   refine zc (fun h2=>?_) (fun h2=>?_)<;>simp -implicitDefEqProofs only[go_sem,encTypes,zj encEdgeT hi,hi,encEdgeT,zj encEdgeT hxl,hxl]
   ·have:edgeE t i=5:=by
     unfold edgeE; rw[if_neg (by rw[h1]; decide),if_pos (zkf (p:=fun y:zh2=>decide (y.name=(t.edges.getD i default).name)) hltx (by omega) h2)]
    rw[this]
   ·exact zb9 (x+1) ⟨hltx,zkr hqx h2⟩ (by omega) (by rw[zt hltx (by omega)]; exact (zbq (by repeat (first | exact zbk _ | refine zbp ?_ (by first | rfl | simp[upd]))) (by repeat (first | exact hsub0 _ | refine zbb ?_ (by first | rfl | simp[hset]))) (by repeat (first | exact zbi _ | refine zbo ?_ (by simp[idsOk,idsOkL,hset]))) (by repeat (first | exact boxIds0 _ | refine z6 ?_ | refine zy ?_ | refine zx ?_ | refine z2 ?_ (by simp[idsOk,idsOkL,hset]))) (by repeat (first | exact keep0 _ | refine zbh (by decide) ?_ | refine zbc (by simp[hset]) ?_))))
  ·have hge:i≤x:=by simpa using hc
   have hany:=zh8 (p:=fun y:zh2=>decide (y.name=(t.edges.getD i default).name)) (Nat.le_of_lt hi) fun j hj=>hqx j (by omega)
   have e1:edgeE t i=if ((inB t (t.edges.getD i default).src&&inB t (t.edges.getD i default).dst)&&(boundB (t.edges.getD i default).outLow (t.edges.getD i default).outHigh&&boundB (t.edges.getD i default).inLow (t.edges.getD i default).inHigh))=true then 0 else 6:=by
    unfold edgeE; rw[if_neg (by rw[h1]; decide),if_neg (by rw[hany]; decide)]
   rw[e1]
   clear e1
   have hw:IntKind.i64.wrap ((t.nodes.length:Int) - 1)=(t.nodes.length:Int) - 1:=IntWalk.i64_in _ (by omega)
   have hin:∀n:Int,(decide (0≤n)&&decide (n≤(t.nodes.length:Int) - 1))=inB t n:=fun n=>by
    unfold inB
    congr 1
    rw[decide_eq_decide]
    omega
   
   simp -implicitDefEqProofs only[go_sem,encTypes,zj encEdgeT hi,hi,encEdgeT,hw]
   refine zba (zlq (t.edges.getD i default).src 0 ((t.nodes.length:Int) - 1)) (by simp -implicitDefEqProofs only[go_sem,encTypes,zj encEdgeT hi,hi,encEdgeT,hw]<;>rfl) (scal rfl) ?_
   simp -implicitDefEqProofs only[go_sem,hin,encTypes,zj encEdgeT hi,hi,encEdgeT,hw]
   refine zq (fun h3=>?_) (fun h3=>?_)<;>simp -implicitDefEqProofs only[go_sem,h3,encTypes,zj encEdgeT hi,hi,encEdgeT,hw]
   refine zba (zlq (t.edges.getD i default).dst 0 ((t.nodes.length:Int) - 1)) (by simp -implicitDefEqProofs only[go_sem,encTypes,zj encEdgeT hi,hi,encEdgeT,hw]<;>rfl) (scal rfl) ?_
   simp -implicitDefEqProofs only[go_sem,hin,h3,encTypes,zj encEdgeT hi,hi,encEdgeT,hw]
   refine zq (fun h4=>?_) (fun h4=>?_)<;>simp -implicitDefEqProofs only[go_sem,h4,encTypes,zj encEdgeT hi,hi,encEdgeT,hw]
   refine zba (zye (t.edges.getD i default).outLow (t.edges.getD i default).outHigh) (by simp -implicitDefEqProofs only[go_sem,encTypes,zj encEdgeT hi,hi,encEdgeT,hw]<;>rfl) (scal rfl) ?_
   simp -implicitDefEqProofs only[go_sem,encTypes,zj encEdgeT hi,hi,encEdgeT,hw]
   refine zq (fun h5=>?_) (fun h5=>?_)<;>simp -implicitDefEqProofs only[go_sem,h5,encTypes,zj encEdgeT hi,hi,encEdgeT,hw]
   refine zba (zye (t.edges.getD i default).inLow (t.edges.getD i default).inHigh) (by simp -implicitDefEqProofs only[go_sem,encTypes,zj encEdgeT hi,hi,encEdgeT,hw]<;>rfl) (scal rfl) ?_
   simp -implicitDefEqProofs only[go_sem,encTypes,zj encEdgeT hi,hi,encEdgeT,hw]
   refine zg (fun h6=>?_) (fun h6=>?_)<;>simp -implicitDefEqProofs only[go_sem,h6,encTypes,zj encEdgeT hi,hi,encEdgeT,hw]
 ·unfold edgeE; rw[if_pos h1]

theorem zv0 (t:zl) (hf:FewT t):zh Tryz.prog 63 [encTypes t] (fun r=>r = .tup [.val (.string (validT t).1),.val (.int .i64 (validT t).2)]):=by
 have hn:=hf.nodes
 have hm:=hf.edges
 refine zf [] Ty.mixed Tryz.func63 rfl (by kernel_rfl) (by simp[Tryz.ntmps63]) ?_; rw[Tryz.ntmps63,Tryz.results63]
 
 simp -implicitDefEqProofs only[go_sem,encTypes]
 refine zc (fun h1=>?_) (fun h1=>?_)<;>simp -implicitDefEqProofs only[go_sem,encTypes]
 ·have h1':=of_decide_eq_true h1
  unfold validT; rw[if_pos (by omega)]
  exact⟨rfl,rfl⟩
 ·have h1':=of_decide_eq_false h1
  have hN:t.nodes.length≠0:=by omega
  have big:12<t.nodes.length∨20<t.edges.length→validT t=(⟨#[]⟩,3):=fun h=>by unfold validT; rw[if_neg hN,if_pos h]
  refine zw (fun h2=>?_) (fun h2=>?_)<;>simp -implicitDefEqProofs only[go_sem,h2,encTypes]
  ·have h2':=of_decide_eq_true h2
   rw[big (by omega)]
   exact⟨rfl,rfl⟩
  ·have h2':=of_decide_eq_false h2
   refine zc (fun h3=>?_) (fun h3=>?_)<;>simp -implicitDefEqProofs only[go_sem,encTypes]
   ·have h3':=of_decide_eq_true h3
    rw[big (by omega)]
    exact⟨rfl,rfl⟩
   ·have h3':=of_decide_eq_false h3
    have hV : validT t = match firstI (nodeE t) 0 t.nodes.length with
      | some k=>((t.nodes.getD k default).name,nodeE t k)
      | none=>match firstI (edgeE t) 0 t.edges.length with
       | some k=>((t.edges.getD k default).name,edgeE t k)
       | none=>(⟨#[]⟩,0):=by unfold validT; rw[if_neg hN,if_neg (by omega)]; try rfl
    clear big
    refine zca (σ:=Nat) (fun x=>(upd (upd env0 1 (.ptr 1 0)) 4 (.p (.val (.int .i64 x)))))
     (fun x=>(hset heap0 1 (.box [.p (.lst (t.nodes.map encNode)),.p (.lst (t.edges.map encEdgeT))])))
     (fun x=>x≤t.nodes.length∧∀j,j<x→nodeE t j=0) (fun x=>t.nodes.length - x) 0 ⟨Nat.zero_le _,fun j hj=>absurd hj (Nat.not_lt_zero j)⟩ (zbq (by repeat (first | exact zbk _ | refine zbp ?_ (by first | rfl | simp[upd]))) (by repeat (first | exact hsub0 _ | refine zbb ?_ (by first | rfl | simp[hset]))) (by repeat (first | exact zbi _ | refine zbo ?_ (by simp[idsOk,idsOkL,hset]))) (by repeat (first | exact boxIds0 _ | refine z6 ?_ | refine zy ?_ | refine zx ?_ | refine z2 ?_ (by simp[idsOk,idsOkL,hset]))) (by repeat (first | exact keep0 _ | refine zbh (by decide) ?_ | refine zbc (by simp[hset]) ?_))) ?_
    rintro x ⟨hx,hq⟩
    simp -implicitDefEqProofs only[go_sem,encTypes]
    refine zc (fun hc=>?_) (fun hc=>?_)
    ·have hlt:x<t.nodes.length:=by simpa using hc
     
     simp -implicitDefEqProofs only[go_sem,encTypes,zj encNode hlt,hlt,encNode]
     refine zba (zbcr t hf x hlt (zth hq)) (by simp -implicitDefEqProofs only[go_sem,encTypes,zj encNode hlt,hlt,encNode]<;>rfl) (scal rfl) ?_
     simp -implicitDefEqProofs only[go_sem,encTypes,zj encNode hlt,hlt,encNode]
     refine zg (fun h4=>?_) (fun h4=>?_)<;>simp -implicitDefEqProofs only[go_sem,encTypes,zj encNode hlt,hlt,encNode]
     ·have h4':=of_decide_eq_true h4
      exact zb9 (x+1) ⟨hlt,zlm hq h4'⟩ (by omega) (by rw[zt hlt (by omega)]; exact (zbq (by repeat (first | exact zbk _ | refine zbp ?_ (by first | rfl | simp[upd]))) (by repeat (first | exact hsub0 _ | refine zbb ?_ (by first | rfl | simp[hset]))) (by repeat (first | exact zbi _ | refine zbo ?_ (by simp[idsOk,idsOkL,hset]))) (by repeat (first | exact boxIds0 _ | refine z6 ?_ | refine zy ?_ | refine zx ?_ | refine z2 ?_ (by simp[idsOk,idsOkL,hset]))) (by repeat (first | exact keep0 _ | refine zbh (by decide) ?_ | refine zbc (by simp[hset]) ?_))))
     ·have h4':=of_decide_eq_false h4
      rw[hV,zl2 (Nat.zero_le _) hlt (fun j _=>hq j) h4']
      exact⟨rfl,rfl⟩
    ·have hge:t.nodes.length≤x:=by simpa using hc
     have hN0:firstI (nodeE t) 0 t.nodes.length=none:=zhx fun j _ hj=>hq j (by omega)
     rw[hN0] at hV
     simp only[] at hV
     simp -implicitDefEqProofs only[go_sem,encTypes]
     refine zca (σ:=Nat) (fun x=>(upd (upd env0 1 (.ptr 1 0)) 6 (.p (.val (.int .i64 x)))))
      (fun x=>(hset heap0 1 (.box [.p (.lst (t.nodes.map encNode)),.p (.lst (t.edges.map encEdgeT))])))
      (fun x=>x≤t.edges.length∧∀j,j<x→edgeE t j=0) (fun x=>t.edges.length - x) 0 ⟨Nat.zero_le _,fun j hj=>absurd hj (Nat.not_lt_zero j)⟩ (zbq (by repeat (first | exact zbk _ | refine zbp ?_ (by first | rfl | simp[upd]))) (by repeat (first | exact hsub0 _ | refine zbb ?_ (by first | rfl | simp[hset]))) (by repeat (first | exact zbi _ | refine zbo ?_ (by simp[idsOk,idsOkL,hset]))) (by repeat (first | exact boxIds0 _ | refine z6 ?_ | refine zy ?_ | refine zx ?_ | refine z2 ?_ (by simp[idsOk,idsOkL,hset]))) (by repeat (first | exact keep0 _ | refine zbh (by decide) ?_ | refine zbc (by simp[hset]) ?_))) ?_
     rintro y ⟨hy,hq'⟩
     simp -implicitDefEqProofs only[go_sem,encTypes]
     refine zc (fun hc'=>?_) (fun hc'=>?_)
     ·have hlt:y<t.edges.length:=by simpa using hc'
      
      simp -implicitDefEqProofs only[go_sem,encTypes,zj encEdgeT hlt,hlt,encEdgeT]
      refine zba (zba7 t hf y hlt) (by simp -implicitDefEqProofs only[go_sem,encTypes,zj encEdgeT hlt,hlt,encEdgeT]<;>rfl) (scal rfl) ?_
      simp -implicitDefEqProofs only[go_sem,encTypes,zj encEdgeT hlt,hlt,encEdgeT]
      refine zg (fun h4=>?_) (fun h4=>?_)<;>simp -implicitDefEqProofs only[go_sem,encTypes,zj encEdgeT hlt,hlt,encEdgeT]
      ·have h4':=of_decide_eq_true h4
       exact zb9 (y+1) ⟨hlt,zlm hq' h4'⟩ (by omega) (by rw[zt hlt (by omega)]; exact (zbq (by repeat (first | exact zbk _ | refine zbp ?_ (by first | rfl | simp[upd]))) (by repeat (first | exact hsub0 _ | refine zbb ?_ (by first | rfl | simp[hset]))) (by repeat (first | exact zbi _ | refine zbo ?_ (by simp[idsOk,idsOkL,hset]))) (by repeat (first | exact boxIds0 _ | refine z6 ?_ | refine zy ?_ | refine zx ?_ | refine z2 ?_ (by simp[idsOk,idsOkL,hset]))) (by repeat (first | exact keep0 _ | refine zbh (by decide) ?_ | refine zbc (by simp[hset]) ?_))))
      ·have h4':=of_decide_eq_false h4
       rw[hV,zl2 (Nat.zero_le _) hlt (fun j _=>hq' j) h4']
       exact⟨rfl,rfl⟩
     ·have hge:t.edges.length≤y:=by simpa using hc'
      simp -implicitDefEqProofs only[go_sem,encTypes]
      rw[hV,zhx fun j _ hj=>hq' j (by omega)]
      exact⟨rfl,rfl⟩
end Go.Proofs.YthjgdkloabgcoaaGreat
namespace Go.Proofs.YthjgdkloabgcoaaGreat
open Go.Abs

theorem zs0 {f:Nat→Int} {s n k:Nat} (h:firstI f s n=some k):f k≠0:=by
 unfold firstI at h
 have:=List.find?_some h
 simpa using this
theorem zt4 {f:Nat→Int} {n:Nat} (h:firstI f 0 n=none):∀j,j<n→f j=0:=by
 intro j hj
 unfold firstI at h
 rw[List.find?_eq_none] at h
 have:=h j (by rw[List.mem_range'_1]; omega)
 simpa using this

structure OkT (t:zl):Prop where
 few:FewT t
 pos:0<t.nodes.length
 n12:t.nodes.length≤12
 m20:t.edges.length≤20
 node:∀j,j<t.nodes.length→nodeE t j=0
 edge:∀j,j<t.edges.length→edgeE t j=0
theorem okTypes {t:zl} (hf:FewT t) (h:(validT t).2=0):OkT t:=by
 unfold validT at h
 split at h
 ·cases h
 ·split at h
  ·cases h
  ·split at h
   ·rename_i hk; exact absurd h (zs0 hk)
   ·split at h
    ·rename_i hk; exact absurd h (zs0 hk)
    ·rename_i h1 h2 _ h3 _ h4
     exact⟨hf,by omega,by omega,by omega,zt4 h3,zt4 h4⟩
theorem OkT.par {t:zl} (h:OkT t):zhm t t.nodes.length:=zth h.node
theorem OkT.par' {t:zl} (h:OkT t) {a:Nat} (ha:a<t.nodes.length):zhm t (a+1):=fun j hj=>h.par j (by omega)
theorem OkT.ends {t:zl} (h:OkT t) {i:Nat} (hi:i<t.edges.length):inB t (t.edges.getD i default).src=true∧inB t (t.edges.getD i default).dst=true:=by
 have:=h.edge i hi
 unfold edgeE at this
 split at this
 ·cases this
 ·split at this
  ·cases this
  ·split at this
   ·rename_i h1
    simp only[Bool.and_eq_true] at h1
    exact h1.1
   ·cases this
theorem zpe {t:zl} {n:Int} : inB t n=true↔0≤n∧n<t.nodes.length:=by
 unfold inB; simp only[Bool.and_eq_true,decide_eq_true_eq]

def upK (t:zl):Nat→Int→List Int
 | 0,_=>[]
 | k+1,a=>if a<0 then [] else a :: upK t k (t.nodes.getD a.toNat default).parent
def upL (t:zl) (a:Int):List Int:=upK t (a.toNat+1) a
def isB (t:zl) (a b:Int):Bool:=(upL t a).any fun x=>decide (x=b)

theorem zuq {t:zl} {a:Int} (h:a<0):upL t a=[]:=by unfold upL upK; rw[if_pos h]
theorem zy1 {t:zl} : ∀ (k k':Nat) (a:Int),(∀j:Nat,(j:Int)≤a→-1≤(t.nodes.getD j default).parent∧(t.nodes.getD j default).parent<j)→a<k→a<k'→0<k→0<k'→upK t k a=upK t k' a
 | 0,_,_,_,_,_,h,_=>by omega
 | _+1,0,_,_,_,_,_,h=>by omega
 | k+1,k'+1,a,hp,h,h',_,_=>by
  unfold upK
  split
  ·rfl
  ·rename_i h0
   have hq:=hp a.toNat (by omega)
   congr 1
   cases k with
   | zero =>
    cases k' with
    | zero=>rfl
    | succ k' =>
     have:(t.nodes.getD a.toNat default).parent<0:=by omega
     unfold upK; rw[if_pos this]
   | succ k =>
    cases k' with
    | zero =>
     have:(t.nodes.getD a.toNat default).parent<0:=by omega
     unfold upK; rw[if_pos this]
    | succ k'=>exact zy1 (k+1) (k'+1) _ (fun j hj=>hp j (by omega)) (by omega) (by omega) (by omega) (by omega)
theorem zyj {t:zl} {a:Nat} (hp:zhm t (a+1)):upL t a=(a:Int) :: upL t (t.nodes.getD a default).parent:=by
 have hq:=hp a (by omega)
 have e:upL t a=(a:Int) :: upK t a (t.nodes.getD a default).parent:=by
  unfold upL
  rw[Int.toNat_natCast]
  conv=>lhs; unfold upK
  rw[if_neg (by omega),Int.toNat_natCast]
 rw[e]
 congr 1
 by_cases h0:(t.nodes.getD a default).parent<0
 ·rw[zuq h0]
  cases a with
  | zero=>rfl
  | succ a=>unfold upK; rw[if_pos h0]
 ·unfold upL
  exact zy1 _ _ _ (fun j hj=>hp j (by omega)) (by omega) (by omega) (by omega) (by omega)
theorem zsf {t:zl} {a b:Int} (h:a<0):isB t a b=false:=by unfold isB; rw[zuq h]; try rfl
theorem zlg {t:zl} {a:Nat} (hp:zhm t (a+1)) (b:Int):isB t a b=(decide ((a:Int)=b)||isB t (t.nodes.getD a default).parent b):=by
 unfold isB; rw[zyj hp]; try rfl

def givenT (t:zl) (l:List Int):Int:=if (validT t).2≠0 then (validT t).2 else if l.any (fun a=>!inB t a)=true then 6 else 0

theorem zwn (t:zl) (b:Int) (hb:0≤b) (hf:FewT t):∀ (n:Nat) (a:Int),a<n→-1≤a→a<t.nodes.length→zhm t t.nodes.length→zh Tryz.prog 95 [encTypes t,.val (.int .i64 a),.val (.int .i64 b)] (fun r=>r = .val (.bool (isB t a b))):=by
 intro n
 induction n with
 | zero =>
  intro a hn ha hl hp
  rw[zsf (by omega)]
  refine zf [] Ty.mixed Tryz.func95 rfl (by kernel_rfl) (by simp[Tryz.ntmps95]) ?_; rw[Tryz.ntmps95,Tryz.results95]
  simp -implicitDefEqProofs only[go_sem,encTypes]
  refine zbn [.q,.q,.q,.q,.q,.q,.q,.q,.q,.q,.q,.q,.q,.q,.q,.q,.q,.q,.q] (by kernel_rfl) ?_
  simp -implicitDefEqProofs only[go_sem]
  refine zfm (fun h1=>?_) (fun h1=>?_)<;>simp -implicitDefEqProofs only[go_sem,h1]
  ·have:=of_decide_eq_true h1; omega
  ·refine zdi (fun h2=>?_) (fun h2=>?_)<;>simp -implicitDefEqProofs only[go_sem,h1,h2]
   have:=of_decide_eq_true h2; omega
 | succ n ih =>
  intro a hn ha hl hp
  refine zf [] Ty.mixed Tryz.func95 rfl (by kernel_rfl) (by simp[Tryz.ntmps95]) ?_; rw[Tryz.ntmps95,Tryz.results95]
  
  simp -implicitDefEqProofs only[go_sem,encTypes]
  refine zbn [.q,.q,.q,.q,.q,.q,.q,.q,.q,.q,.q,.q,.q,.q,.q,.q,.q,.q,.q] (by kernel_rfl) ?_
  simp -implicitDefEqProofs only[go_sem,encTypes]
  refine zfm (fun h1=>?_) (fun h1=>?_)<;>simp -implicitDefEqProofs only[go_sem,h1,encTypes]
  ·have h1':=of_decide_eq_true h1
   subst h1'
   obtain⟨q,rfl⟩:∃q:Nat,a=q:=⟨_,(Int.toNat_of_nonneg hb).symm⟩
   rw[zlg (fun j hj=>hp j (by omega))]
   simp
  ·have h1':=of_decide_eq_false h1
   refine zdi (fun h2=>?_) (fun h2=>?_)<;>simp -implicitDefEqProofs only[go_sem,h1,h2,encTypes]
   ·have h2':=of_decide_eq_true h2
    obtain⟨q,rfl⟩:∃q:Nat,a=q:=⟨_,(Int.toNat_of_nonneg h2').symm⟩
    have hq:q<t.nodes.length:=by omega
    have hpq:=hp q hq
    
    simp -implicitDefEqProofs only[go_sem,encTypes,zj encNode hq,hq,encNode]
    refine zio (ih (t.nodes.getD q default).parent (by omega) hpq.1 (by omega) hp) (by simp -implicitDefEqProofs only[go_sem,encTypes,zj encNode hq,hq,encNode]<;>rfl) (scal rfl) ?_
    simp -implicitDefEqProofs only[go_sem,h1,h2,encTypes,zj encNode hq,hq,encNode]
    rw[zlg (fun j hj=>hp j (by omega)),h1,Bool.false_or]
   ·have h2':=of_decide_eq_false h2
    rw[zsf (by omega)]
end Go.Proofs.YthjgdkloabgcoaaGreat
namespace Go.Proofs.YthjgdkloabgcoaaGreat
open Go.Abs

theorem z92 (t:zl) (n:Int):zh Tryz.prog 270 [.val (.int .i64 n),.eptr [.lst (t.nodes.map encNode),.lst (t.edges.map encEdgeT)] 0] (fun r=>r = .val (.bool (!inB t n))):=by
 refine zf [] Ty.mixed Tryz.func270 rfl (by kernel_rfl) (by simp[Tryz.ntmps270]) ?_; rw[Tryz.ntmps270,Tryz.results270]
 simp -implicitDefEqProofs only[go_sem]
 unfold inB
 repeat' first | done | (refine zw (fun h=>?_) (fun h=>?_)<;>try simp -implicitDefEqProofs only[go_sem,h]) | (refine zq (fun h=>?_) (fun h=>?_)<;>try simp -implicitDefEqProofs only[go_sem,h]) | (refine zg (fun h=>?_) (fun h=>?_)<;>try simp -implicitDefEqProofs only[go_sem,h]) | (refine zc (fun h=>?_) (fun h=>?_)<;>try simp -implicitDefEqProofs only[go_sem,h])
 all_goals(simp only[decide_eq_true_eq,decide_eq_false_iff_not,Bool.not_eq_true',Bool.not_eq_false'] at *; rw[Bool.eq_iff_iff]; simp only[Bool.not_eq_true',Bool.not_eq_false',Bool.and_eq_true,Bool.or_eq_true,Bool.and_eq_false_iff,Bool.or_eq_false_iff,decide_eq_true_eq,decide_eq_false_iff_not,Bool.false_eq_true,true_iff,iff_true,false_iff,iff_false]; omega)
theorem zz2 (t:zl) (hf:FewT t) (l:List Int) (hl:l.length≤1000000):zh Tryz.prog 243 [encTypes t,.lst (l.map encI)] (fun r=>r = .val (.int .i64 (givenT t l))):=by
 unfold givenT
 refine zf [] Ty.mixed Tryz.func243 rfl (by kernel_rfl) (by simp[Tryz.ntmps243]) ?_; rw[Tryz.ntmps243,Tryz.results243]
 
 simp -implicitDefEqProofs only[go_sem,encTypes]
 refine zba (zzt t hf) (by simp -implicitDefEqProofs only[go_sem,encTypes]<;>rfl) (scal rfl) ?_
 simp -implicitDefEqProofs only[go_sem,encTypes]
 refine zg (fun h1=>?_) (fun h1=>?_)<;>simp -implicitDefEqProofs only[go_sem,encTypes]
 ·have h1':=of_decide_eq_true h1
  rw[if_neg (by rw[h1']; decide)]
  refine zba (zq6 (fun a=>!inB t a) l hl _ [] [.eptr [.lst (t.nodes.map encNode),.lst (t.edges.map encEdgeT)] 0] (fun y _=>z92 t y)) (by simp -implicitDefEqProofs only[go_sem,encTypes]<;>rfl) (scal rfl) ?_
  simp -implicitDefEqProofs only[go_sem,encTypes]
  refine zc (fun h2=>?_) (fun h2=>?_)<;>simp -implicitDefEqProofs only[go_sem,encTypes]
  ·rw[if_pos h2]
  ·rw[if_neg (by rw[h2]; decide)]
 ·have h1':=of_decide_eq_false h1
  rw[if_pos h1']
theorem zvu (t:zl) (hf:FewT t) (a b:Int):zh Tryz.prog 94 [encTypes t,.val (.int .i64 a),.val (.int .i64 b)] (fun r=>r = .val (.int .i64 (givenT t [a,b]))):=by
 have hn':=hf.nodes
 have hw:IntKind.i64.wrap ((t.nodes.length:Int) - 1)=(t.nodes.length:Int) - 1:=IntWalk.i64_in _ (by omega)
 have hin:∀n:Int,(decide (0≤n)&&decide (n≤(t.nodes.length:Int) - 1))=inB t n:=fun n=>by
  unfold inB
  congr 1
  rw[decide_eq_decide]
  omega
 unfold givenT
 refine zf [] Ty.mixed Tryz.func94 rfl (by kernel_rfl) (by simp[Tryz.ntmps94]) ?_; rw[Tryz.ntmps94,Tryz.results94]
 
 simp -implicitDefEqProofs only[go_sem,encTypes]
 refine zba (zv0 t hf) (by simp -implicitDefEqProofs only[go_sem,encTypes]<;>rfl) (scal rfl) ?_
 simp -implicitDefEqProofs only[go_sem,encTypes]
 refine zg (fun h1=>?_) (fun h1=>?_)<;>simp -implicitDefEqProofs only[go_sem,encTypes]
 ·have h1':=of_decide_eq_true h1
  rw[if_neg (by rw[h1']; decide)]
  simp -implicitDefEqProofs only[go_sem,hw,encTypes]
  refine zba (zlq a 0 ((t.nodes.length:Int) - 1)) (by simp -implicitDefEqProofs only[go_sem,encTypes]<;>rfl) (scal rfl) ?_
  simp -implicitDefEqProofs only[go_sem,hin,encTypes]
  refine zq (fun h2=>?_) (fun h2=>?_)<;>simp -implicitDefEqProofs only[go_sem,h2,hw,encTypes]
  case refine_2=>simp[h2]
  refine zba (zlq b 0 ((t.nodes.length:Int) - 1)) (by simp -implicitDefEqProofs only[go_sem,encTypes]<;>rfl) (scal rfl) ?_
  simp -implicitDefEqProofs only[go_sem,hin,encTypes]
  refine zg (fun h3=>?_) (fun h3=>?_)<;>simp -implicitDefEqProofs only[go_sem,h3,encTypes]
  all_goals simp[h2,h3]
 ·have h1':=of_decide_eq_false h1
  rw[if_pos h1']

theorem zbfj (t:zl) (ht:OkT t) (a:Nat) (ha:a<t.nodes.length):zh Tryz.prog 271 [encTypes t,.val (.int .i64 a)] (fun r=>r = .lst ((upL t a).reverse.map encI)):=by
 have hn:=ht.n12
 refine zf [] Ty.mixed Tryz.func271 rfl (by kernel_rfl) (by simp[Tryz.ntmps271]) ?_; rw[Tryz.ntmps271,Tryz.results271]
 simp -implicitDefEqProofs only[go_sem,encTypes]
 refine zca (σ:=Int×List Int×Nat) (fun x=>(upd (upd (upd env0 1 (.p (.val (.int .i64 x.1)))) 2 (.ptr 2 0)) 5 (.row 5 x.2.2)))
  (fun x=>(hset (hset heap0 2 (.box [.p (.lst (t.nodes.map encNode)),.p (.lst (t.edges.map encEdgeT))])) 5 (.row x.2.2 3 1 (x.2.1.map encI))))
  (fun x=>(-1≤x.1∧x.1<t.nodes.length∧x.2.1.length+(x.1+1).toNat≤20)∧x.2.1++upL t x.1=upL t a) (fun x=>(x.1+1).toNat) ((a:Int),[],0) ⟨⟨by omega,by omega,by simp; omega⟩,by simp⟩
  ((zhi 5 5 3 1 rfl rfl (by decide)).trans (zbq (by repeat (first | exact zbk _ | refine zbp ?_ (by first | rfl | simp[upd]))) (by repeat (first | exact hsub0 _ | refine zbb ?_ (by first | rfl | simp[hset]))) (by repeat (first | exact zbi _ | refine zbo ?_ (by simp[idsOk,idsOkL,hset]))) (by repeat (first | exact boxIds0 _ | refine z6 ?_ | refine zy ?_ | refine zx ?_ | refine z2 ?_ (by simp[idsOk,idsOkL,hset]))) (by repeat (first | exact keep0 _ | refine zbh (by decide) ?_ | refine zbc (by simp[hset]) ?_)))) ?_
 rintro⟨c,acc,v⟩ ⟨⟨h1,h2,h3⟩,h4⟩
 simp only at h1 h2 h3 h4
 simp -implicitDefEqProofs only[go_sem]
 refine zc (fun hc=>?_) (fun hc=>?_)
 ·have hc':=of_decide_eq_true hc
  obtain⟨q,rfl⟩:∃q:Nat,c=q:=⟨_,(Int.toNat_of_nonneg hc').symm⟩
  have hq:q<t.nodes.length:=by omega
  have hpq:=ht.par q hq
  
  simp -implicitDefEqProofs only[go_sem,zj encNode hq,hq,encNode]
  refine⟨by omega,?_⟩
  rw[zyj (ht.par' hq)] at h4
  generalize (t.nodes.getD q default).parent=par at hpq h4 ⊢
  refine zb9 (par,acc++[(q:Int)],v+1) ⟨⟨by dsimp only; omega,by dsimp only; omega,by simp only[List.length_append,List.length_cons,List.length_nil]; omega⟩,?_⟩ (by dsimp only; omega) ?_
  ·rw[←h4,List.append_assoc]; try rfl
  ·rw[List.map_append]
   exact (zbq (by repeat (first | exact zbk _ | refine zbp ?_ (by first | rfl | simp[upd]))) (by repeat (first | exact hsub0 _ | refine zbb ?_ (by first | rfl | simp[hset]))) (by repeat (first | exact zbi _ | refine zbo ?_ (by simp[idsOk,idsOkL,hset]))) (by repeat (first | exact boxIds0 _ | refine z6 ?_ | refine zy ?_ | refine zx ?_ | refine z2 ?_ (by simp[idsOk,idsOkL,hset]))) (by repeat (first | exact keep0 _ | refine zbh (by decide) ?_ | refine zbc (by simp[hset]) ?_)))
 ·have hc':=of_decide_eq_false hc
  rw[zuq (by omega),List.append_nil] at h4
  subst h4
  simp -implicitDefEqProofs only[go_sem]
  refine ztc (z52 (upL t a) (by omega) v) (by simp -implicitDefEqProofs only[go_sem]<;>rfl) (by simp -implicitDefEqProofs only[go_sem]<;>rfl) (by simp -implicitDefEqProofs only[go_sem]<;>rfl) (fun h=>by cases h) ?_
  simp -implicitDefEqProofs only[go_sem]
theorem z79 (t:zl) (ht:OkT t) (a:Nat) (ha:a<t.nodes.length) (b:Int):zh Tryz.prog 244 [encTypes t,.val (.int .i64 a),.val (.int .i64 b)] (fun r=>r = .val (.bool (isB t a b))):=by
 have hl:∀n:Int,-1≤n→n<t.nodes.length→(upL t n).length≤n.toNat+1:=by
  intro n h1 h2
  have:∀ (k:Nat) (n:Int),(upK t k n).length≤k:=by
   intro k
   induction k with
   | zero=>intro n; simp[upK]
   | succ k ih =>
    intro n
    unfold upK
    split
    ·simp
    ·simp only[List.length_cons]; exact Nat.succ_le_succ (ih _)
  exact this _ _
 have hla:=hl a (by omega) (by omega)
 have hn:=ht.n12
 refine zf [] Ty.mixed Tryz.func244 rfl (by kernel_rfl) (by simp[Tryz.ntmps244]) ?_; rw[Tryz.ntmps244,Tryz.results244]
 simp -implicitDefEqProofs only[go_sem,encTypes]
 refine zba (zbfj t ht a ha) (by simp -implicitDefEqProofs only[go_sem]<;>rfl) (pers) ?_
 simp -implicitDefEqProofs only[go_sem]
 refine zba (zbf4 ((upL t a).reverse) b (by simp; omega)) (by simp -implicitDefEqProofs only[go_sem]<;>rfl) (scal rfl) ?_
 simp -implicitDefEqProofs only[go_sem]
 unfold isB
 rw[Bool.eq_iff_iff]
 simp only[List.any_eq_true,List.mem_reverse,decide_eq_true_eq]
 constructor
 ·rintro⟨x,h1,h2⟩; exact⟨x,h1,h2.symm⟩
 ·rintro⟨x,h1,h2⟩; exact⟨x,h1,h2.symm⟩
end Go.Proofs.YthjgdkloabgcoaaGreat
namespace Go.Proofs.YthjgdkloabgcoaaGreat
open Go.Abs

theorem zwc {t:zl} {a b:Int} (hf:FewT t) (h:givenT t [a,b]=0):OkT t∧(0≤a∧a<t.nodes.length)∧(0≤b∧b<t.nodes.length):=by
 unfold givenT at h
 split at h
 ·rename_i h1; exact absurd h h1
 ·rename_i h1
  split at h
  ·cases h
  ·rename_i h2
   refine⟨okTypes hf (Decidable.of_not_not h1),?_⟩
   simp only[List.any_cons,List.any_nil,Bool.or_false,Bool.or_eq_true,Bool.not_eq_true',not_or,Bool.not_eq_false] at h2
   exact⟨zpe.1 h2.1,zpe.1 h2.2⟩

def fitsT (t:zl) (e a b:Int):Bool:=decide (givenT t [a,b]=0)&&((decide (0≤e)&&decide (e<t.edges.length))&&(isB t a (t.edges.getD e.toNat default).src&&isB t b (t.edges.getD e.toNat default).dst))

theorem zbhc (t:zl) (hf:FewT t) (e a b:Int):zh Tryz.prog 196 [encTypes t,.val (.int .i64 e),.val (.int .i64 a),.val (.int .i64 b)] (fun r=>r = .val (.bool (fitsT t e a b))):=by
 refine zf [] Ty.mixed Tryz.func196 rfl (by kernel_rfl) (by simp[Tryz.ntmps196]) ?_; rw[Tryz.ntmps196,Tryz.results196]
 
 simp -implicitDefEqProofs only[go_sem,encTypes]
 refine zba (zz2 t hf [a,b] (by simp)) (by simp -implicitDefEqProofs only[go_sem,encTypes]<;>rfl) (scal rfl) ?_
 simp -implicitDefEqProofs only[go_sem,encTypes]
 refine zq (fun h1=>?_) (fun h1=>?_)<;>simp -implicitDefEqProofs only[go_sem,h1,encTypes]
 ·have h1':=of_decide_eq_true h1
  obtain⟨ht,ha,hb⟩:=zwc hf h1'
  refine zw (fun h2=>?_) (fun h2=>?_)<;>simp -implicitDefEqProofs only[go_sem,h1,h2,encTypes]
  ·have h2':=of_decide_eq_true h2
   unfold fitsT
   rw[decide_eq_false (show ¬ 0≤e by omega)]
   simp
  ·have h2':=of_decide_eq_false h2
   refine zc (fun h3=>?_) (fun h3=>?_)<;>simp -implicitDefEqProofs only[go_sem,h1,h2,h3,encTypes]
   ·have h3':=of_decide_eq_true h3
    unfold fitsT
    rw[decide_eq_false (show ¬ e<t.edges.length by omega)]
    simp
   ·have h3':=of_decide_eq_false h3
    obtain⟨k,rfl⟩:∃k:Nat,e=k:=⟨_,(Int.toNat_of_nonneg (by omega)).symm⟩
    obtain⟨x,rfl⟩:∃k:Nat,a=k:=⟨_,(Int.toNat_of_nonneg ha.1).symm⟩
    obtain⟨y,rfl⟩:∃k:Nat,b=k:=⟨_,(Int.toNat_of_nonneg hb.1).symm⟩
    have hk:k<t.edges.length:=by omega
    have e0:fitsT t k x y=(isB t x (t.edges.getD k default).src&&isB t y (t.edges.getD k default).dst):=by
     unfold fitsT
     rw[h1,decide_eq_true (show (0:Int)≤k by omega),decide_eq_true (show (k:Int)<t.edges.length by omega)]
     simp
    rw[e0]
    
    refine zbn [.q,.q,.q,.q,.q,.q,.q,.q,.q,.q,.q,.q,.q,.q,.q,.q,.q,.q,.q,.q,.q] (by kernel_rfl) ?_
    simp -implicitDefEqProofs only[go_sem,encTypes,zj encEdgeT hk,hk,encEdgeT]
    refine zio (z79 t ht x (by omega) (t.edges.getD k default).src) (by simp -implicitDefEqProofs only[go_sem,encTypes,zj encEdgeT hk,hk,encEdgeT]<;>rfl) (scal rfl) ?_
    simp -implicitDefEqProofs only[go_sem,encTypes,zj encEdgeT hk,hk,encEdgeT]
    refine zdi (fun h4=>?_) (fun h4=>?_)<;>simp -implicitDefEqProofs only[go_sem,h4,encTypes,zj encEdgeT hk,hk,encEdgeT]
    refine zio (z79 t ht y (by omega) (t.edges.getD k default).dst) (by simp -implicitDefEqProofs only[go_sem,encTypes,zj encEdgeT hk,hk,encEdgeT]<;>rfl) (scal rfl) ?_
    simp -implicitDefEqProofs only[go_sem,h4,encTypes,zj encEdgeT hk,hk,encEdgeT]
 ·unfold fitsT; rw[h1]; try rfl

theorem zbcw (t:zl) (hf:FewT t) (e a b:Int):zh Tryz.prog 79 [encTypes t,.val (.int .i64 e),.val (.int .i64 a),.val (.int .i64 b)] (fun r=>r = .val (.bool (fitsT t e a b))):=by
 have hm:=hf.edges
 have hw:IntKind.i64.wrap ((t.edges.length:Int) - 1)=(t.edges.length:Int) - 1:=IntWalk.i64_in _ (by omega)
 refine zf [] Ty.mixed Tryz.func79 rfl (by kernel_rfl) (by simp[Tryz.ntmps79]) ?_; rw[Tryz.ntmps79,Tryz.results79]
 
 simp -implicitDefEqProofs only[go_sem,encTypes]
 refine zba (zvu t hf a b) (by simp -implicitDefEqProofs only[go_sem,encTypes]<;>rfl) (scal rfl) ?_
 simp -implicitDefEqProofs only[go_sem,encTypes]
 refine zq (fun h1=>?_) (fun h1=>?_)<;>simp -implicitDefEqProofs only[go_sem,h1,encTypes]
 ·have h1':=of_decide_eq_true h1
  obtain⟨ht,ha,hb⟩:=zwc hf h1'
  simp -implicitDefEqProofs only[go_sem,hw,encTypes]
  refine zba (zlq e 0 ((t.edges.length:Int) - 1)) (by simp -implicitDefEqProofs only[go_sem,encTypes]<;>rfl) (scal rfl) ?_
  simp -implicitDefEqProofs only[go_sem,h1,encTypes]
  refine zg (fun h2=>?_) (fun h2=>?_)<;>simp -implicitDefEqProofs only[go_sem,h1,h2,encTypes]
  ·have h2':0≤e∧e≤(t.edges.length:Int) - 1:=by simpa only[Bool.and_eq_true,decide_eq_true_eq] using h2
   obtain⟨k,rfl⟩:∃k:Nat,e=k:=⟨_,(Int.toNat_of_nonneg (by omega)).symm⟩
   obtain⟨x,rfl⟩:∃k:Nat,a=k:=⟨_,(Int.toNat_of_nonneg ha.1).symm⟩
   obtain⟨y,rfl⟩:∃k:Nat,b=k:=⟨_,(Int.toNat_of_nonneg hb.1).symm⟩
   have hk:k<t.edges.length:=by omega
   have e0:fitsT t k x y=(isB t x (t.edges.getD k default).src&&isB t y (t.edges.getD k default).dst):=by
    unfold fitsT
    rw[h1,decide_eq_true (show (0:Int)≤k by omega),decide_eq_true (show (k:Int)<t.edges.length by omega)]
    simp
   rw[e0]
   have hends:=ht.ends hk
   rw[zpe,zpe] at hends
   
   refine zbn [.q,.q,.q,.q,.q,.q,.q,.q,.q,.q,.q,.q,.q,.q,.q,.q,.q,.q,.q,.q,.q] (by kernel_rfl) ?_
   simp -implicitDefEqProofs only[go_sem,encTypes,zj encEdgeT hk,hk,encEdgeT]
   refine zio (zwn t (t.edges.getD k default).src hends.1.1 hf t.nodes.length x (by omega) (by omega) (by omega) ht.par) (by simp -implicitDefEqProofs only[go_sem,encTypes,zj encEdgeT hk,hk,encEdgeT]<;>rfl) (scal rfl) ?_
   simp -implicitDefEqProofs only[go_sem,encTypes,zj encEdgeT hk,hk,encEdgeT]
   refine zdi (fun h4=>?_) (fun h4=>?_)<;>simp -implicitDefEqProofs only[go_sem,h4,encTypes,zj encEdgeT hk,hk,encEdgeT]
   refine zio (zwn t (t.edges.getD k default).dst hends.2.1 hf t.nodes.length y (by omega) (by omega) (by omega) ht.par) (by simp -implicitDefEqProofs only[go_sem,encTypes,zj encEdgeT hk,hk,encEdgeT]<;>rfl) (scal rfl) ?_
   simp -implicitDefEqProofs only[go_sem,h4,encTypes,zj encEdgeT hk,hk,encEdgeT]
  ·unfold fitsT
   rw[h1]
   by_cases h0:0≤e
   ·have:¬ e<t.edges.length:=by
     rw[decide_eq_true h0,Bool.true_and] at h2
     have:=of_decide_eq_false h2
     omega
    rw[decide_eq_false this]; simp
   ·rw[decide_eq_false h0]; simp
 ·unfold fitsT; rw[h1]; try rfl

theorem zbdv {α:Type} [Inhabited α] (f:α→List PV) {l:List α} {x:Nat} (h:x<l.length):(l.take x).map f++[f (l.getD x default)]=(l.take (x+1)).map f:=by
 rw[zvo h,List.map_append]; try rfl
theorem z0j (l:List Attr) {x:Nat} (hx:x<l.length):(l.map encAttr).set x [.val (.string (l.getD x default).name),.val (.int .i64 (l.getD x default).low),.val (.int .i64 (l.getD x default).high),.lst ((l.getD x default).names.map encS)]=l.map encAttr:=by
 have:[PV.val (.string (l.getD x default).name),.val (.int .i64 (l.getD x default).low),.val (.int .i64 (l.getD x default).high),.lst ((l.getD x default).names.map encS)]=encAttr (l.getD x default):=rfl
 rw[this,←List.map_set]
 congr 1
 have h2:l.getD x default=l[x]:=by simp[hx]
 rw[h2]
 simp

theorem OkT.valid {t:zl} (ht:OkT t):(validT t).2=0:=by
 unfold validT
 rw[if_neg (by have:=ht.pos; omega),if_neg (by have:=ht.n12; have:=ht.m20; omega),zhx fun j _ hj=>ht.node j hj]
 simp only[]
 rw[zhx fun j _ hj=>ht.edge j hj]
theorem OkT.given {t:zl} (ht:OkT t) {l:List Int} (hl:∀a∈l,0≤a∧a<t.nodes.length):givenT t l=0:=by
 unfold givenT
 rw[if_neg (by rw[ht.valid]; decide),if_neg]
 simp only[List.any_eq_true,Bool.not_eq_true',not_exists,not_and,Bool.not_eq_false]
 exact fun a ha=>zpe.2 (hl a ha)
theorem z9e (t:zl) (ht:OkT t) (a:Nat) (ha:a<t.nodes.length):zh Tryz.prog 233 [encTypes t,.val (.int .i64 a)] (fun r=>r = .tup [.lst ((attrsAt t a).map encAttr),.val (.int .i64 0)]):=by
 have hlen:=zh1 ht.few ha (ht.par' ha)
 have hg:givenT t [(a:Int)]=0:=ht.given (by simp; omega)
 refine zf [] Ty.mixed Tryz.func233 rfl (by kernel_rfl) (by simp[Tryz.ntmps233]) ?_; rw[Tryz.ntmps233,Tryz.results233]
 simp -implicitDefEqProofs only[go_sem,encTypes]
 refine zba (zz2 t ht.few [(a:Int)] (by simp)) (by simp -implicitDefEqProofs only[go_sem]<;>rfl) (scal rfl) ?_
 simp -implicitDefEqProofs only[go_sem,hg]
 refine zpq 18 (zx7 t ht.few a ha (ht.par' ha)) (by simp -implicitDefEqProofs only[go_sem]<;>rfl) (persF) (by simp -implicitDefEqProofs only[go_sem]) ?_
 simp -implicitDefEqProofs only[go_sem]
 refine zca (σ:=Nat) (fun x=>(upd (upd (upd env0 7 (.row 18 0)) 20 (.p (.val (.int .i64 (attrsAt t a).length)))) 21 (.p (.val (.int .i64 x)))))
  (fun x=>(hset heap0 18 (.row 0 110 4 ((attrsAt t a).map encAttr))))
  (fun x=>x≤(attrsAt t a).length) (fun x=>(attrsAt t a).length - x) 0 (Nat.zero_le _) (zbq (by repeat (first | exact zbk _ | refine zbp ?_ (by first | rfl | simp[upd]))) (by repeat (first | exact hsub0 _ | refine zbb ?_ (by first | rfl | simp[hset]))) (by repeat (first | exact zbi _ | refine zbo ?_ (by simp[idsOk,idsOkL,hset]))) (by repeat (first | exact boxIds0 _ | refine z6 ?_ | refine zy ?_ | refine zx ?_ | refine z2 ?_ (by simp[idsOk,idsOkL,hset]))) (by repeat (first | exact keep0 _ | refine zbh (by decide) ?_ | refine zbc (by simp[hset]) ?_))) ?_
 rintro x hx
 simp -implicitDefEqProofs only[go_sem]
 refine zc (fun hc=>?_) (fun hc=>?_)
 ·have hlt:x<(attrsAt t a).length:=by simpa using hc
  have hA:=ht.few.fewA ha (ht.par' ha) (zd7 hlt)
  have hn:=hA.names
  
  simp -implicitDefEqProofs only[go_sem,zj encAttr hlt,hlt,encAttr,encStrs]
  refine zba ((z7c (((attrsAt t a).getD x default).names) (by omega)).toL) (by simp -implicitDefEqProofs only[go_sem,zj encAttr hlt,hlt,encAttr,encStrs]<;>rfl) (pers) ?_
  simp -implicitDefEqProofs only[go_sem,zj encAttr hlt,hlt,encAttr,encStrs]
  rw[z0j _ hlt]
  exact zb9 (x+1) hlt (by omega) (by rw[zt hlt (by omega)]; exact (zbq (by repeat (first | exact zbk _ | refine zbp ?_ (by first | rfl | simp[upd]))) (by repeat (first | exact hsub0 _ | refine zbb ?_ (by first | rfl | simp[hset]))) (by repeat (first | exact zbi _ | refine zbo ?_ (by simp[idsOk,idsOkL,hset]))) (by repeat (first | exact boxIds0 _ | refine z6 ?_ | refine zy ?_ | refine zx ?_ | refine z2 ?_ (by simp[idsOk,idsOkL,hset]))) (by repeat (first | exact keep0 _ | refine zbh (by decide) ?_ | refine zbc (by simp[hset]) ?_))))
 ·simp -implicitDefEqProofs only[go_sem]
theorem z4v (t:zl) (ht:OkT t) (a:Nat) (ha:a<t.nodes.length):zh Tryz.prog 78 [encTypes t,.val (.int .i64 a)] (fun r=>r = .tup [.lst ((attrsAt t a).map encAttr),.val (.int .i64 0)]):=by
 have hlen:=zh1 ht.few ha (ht.par' ha)
 have hg:givenT t [(a:Int),(a:Int)]=0:=ht.given (by simp; omega)
 refine zf [] Ty.mixed Tryz.func78 rfl (by kernel_rfl) (by simp[Tryz.ntmps78]) ?_; rw[Tryz.ntmps78,Tryz.results78]
 simp -implicitDefEqProofs only[go_sem,encTypes]
 refine zba (zvu t ht.few (a:Int) (a:Int)) (by simp -implicitDefEqProofs only[go_sem]<;>rfl) (scal rfl) ?_
 simp -implicitDefEqProofs only[go_sem,hg]
 refine zba ((zwa t ht.few a ha (ht.par' ha)).toL) (by simp -implicitDefEqProofs only[go_sem]<;>rfl) (pers) ?_
 simp -implicitDefEqProofs only[go_sem]
 refine zca (σ:=Nat) (fun x=>(upd (upd (upd env0 7 (.row 7 x)) 8 (.p (.lst ((attrsAt t a).map encAttr)))) 9 (.p (.val (.int .i64 x)))))
  (fun x=>(hset heap0 7 (.row x 110 4 (((attrsAt t a).take x).map encAttr))))
  (fun x=>x≤(attrsAt t a).length) (fun x=>(attrsAt t a).length - x) 0 (Nat.zero_le _) ((zhi 7 7 110 4 rfl rfl (by decide)).trans (zbq (by repeat (first | exact zbk _ | refine zbp ?_ (by first | rfl | simp[upd]))) (by repeat (first | exact hsub0 _ | refine zbb ?_ (by first | rfl | simp[hset]))) (by repeat (first | exact zbi _ | refine zbo ?_ (by simp[idsOk,idsOkL,hset]))) (by repeat (first | exact boxIds0 _ | refine z6 ?_ | refine zy ?_ | refine zx ?_ | refine z2 ?_ (by simp[idsOk,idsOkL,hset]))) (by repeat (first | exact keep0 _ | refine zbh (by decide) ?_ | refine zbc (by simp[hset]) ?_)))) ?_
 rintro x hx
 simp -implicitDefEqProofs only[go_sem]
 refine zc (fun hc=>?_) (fun hc=>?_)
 ·have hlt:x<(attrsAt t a).length:=by simpa using hc
  have hA:=ht.few.fewA ha (ht.par' ha) (zd7 hlt)
  have hn:=hA.names
  
  simp -implicitDefEqProofs only[go_sem,zj encAttr hlt,hlt,encAttr,encStrs]
  have e:=zbdv encAttr hlt
  simp only[encAttr,encStrs] at e
  rw[e]
  refine⟨⟨by omega,zxr _⟩,by simp; omega,?_⟩
  exact zb9 (x+1) hlt (by omega) (by rw[zt hlt (by omega)]; exact (zbq (by repeat (first | exact zbk _ | refine zbp ?_ (by first | rfl | simp[upd]))) (by repeat (first | exact hsub0 _ | refine zbb ?_ (by first | rfl | simp[hset]))) (by repeat (first | exact zbi _ | refine zbo ?_ (by simp[idsOk,idsOkL,hset]))) (by repeat (first | exact boxIds0 _ | refine z6 ?_ | refine zy ?_ | refine zx ?_ | refine z2 ?_ (by simp[idsOk,idsOkL,hset]))) (by repeat (first | exact keep0 _ | refine zbh (by decide) ?_ | refine zbc (by simp[hset]) ?_))))
 ·have hge:(attrsAt t a).length≤x:=by simpa using hc
  simp -implicitDefEqProofs only[go_sem]
  rw[List.take_of_length_le hge]
end Go.Proofs.YthjgdkloabgcoaaGreat
namespace Go.Proofs.YthjgdkloabgcoaaGreat
open Go.Abs

structure FewG (g:z8):Prop where
 nodes:g.nodes.length≤45
 edges:g.edges.length≤90

def kindB (n:Int):Bool:=decide (0≤n)&&decide (n≤99)
def edgeB (n:Nat) (e:Edge):Bool:=(kindB e.type&&(decide (0≤e.src)&&decide (e.src≤(n:Int) - 1)))&&(decide (0≤e.dst)&&decide (e.dst≤(n:Int) - 1))
def validG (g:z8):Int:=if 40<g.nodes.length∨80<g.edges.length then 3 else if g.nodes.any (fun n=>!kindB n)=true then 6 else if g.edges.any (fun e=>!edgeB g.nodes.length e)=true then 6 else 0

structure OkG (g:z8):Prop where
 nodes:g.nodes.length≤40
 edges:g.edges.length≤80
 kind:∀i,i<g.nodes.length→0≤g.nodes.getD i default∧g.nodes.getD i default≤99
 edge:∀i,i<g.edges.length→(0≤(g.edges.getD i default).type∧(g.edges.getD i default).type≤99)∧(0≤(g.edges.getD i default).src∧(g.edges.getD i default).src<g.nodes.length)∧(0≤(g.edges.getD i default).dst∧(g.edges.getD i default).dst<g.nodes.length)
theorem okG {g:z8} (h:validG g=0):OkG g:=by
 unfold validG at h
 split at h
 ·cases h
 ·split at h
  ·cases h
  ·split at h
   ·cases h
   ·rename_i h1 h2 h3
    simp only[List.any_eq_true,not_exists,not_and,Bool.not_eq_true',Bool.not_eq_false] at h2 h3
    refine⟨by omega,by omega,fun i hi=>?_,fun i hi=>?_⟩
    ·have:=h2 _ (zd7 hi)
     simpa only[kindB,Bool.and_eq_true,decide_eq_true_eq] using this
    ·have:=h3 _ (zd7 hi)
     simp only[edgeB,kindB,Bool.and_eq_true,decide_eq_true_eq] at this
     omega

theorem zbbe (e:Edge) (n:Nat) (hn:n≤45):zh Tryz.prog 231 [.agg (encEdge e),.val (.int .i64 n)] (fun r=>r = .val (.bool (edgeB n e))):=by
 have hw:IntKind.i64.wrap ((n:Int) - 1)=(n:Int) - 1:=IntWalk.i64_in _ (by omega)
 unfold edgeB
 refine zf [] Ty.mixed Tryz.func231 rfl (by kernel_rfl) (by simp[Tryz.ntmps231]) ?_; rw[Tryz.ntmps231,Tryz.results231]
 
 simp -implicitDefEqProofs only[go_sem,encEdge,hw]
 refine zba (zob e.type 99) (by simp -implicitDefEqProofs only[go_sem,encEdge,hw]<;>rfl) (scal rfl) ?_
 simp -implicitDefEqProofs only[go_sem,encEdge,hw]
 have hk:(decide (0≤e.type)&&decide (e.type≤99))=kindB e.type:=rfl
 rw[hk]
 refine zq (fun h1=>?_) (fun h1=>?_)<;>simp -implicitDefEqProofs only[go_sem,h1,encEdge,hw]
 refine zba (zob e.src ((n:Int) - 1)) (by simp -implicitDefEqProofs only[go_sem,encEdge,hw]<;>rfl) (scal rfl) ?_
 simp -implicitDefEqProofs only[go_sem,encEdge,hw]
 generalize (decide (0≤e.src)&&decide (e.src≤(n:Int) - 1))=b1
 refine zq (fun h2=>?_) (fun h2=>?_)<;>simp -implicitDefEqProofs only[go_sem,h2,encEdge,hw]
 refine zba (zob e.dst ((n:Int) - 1)) (by simp -implicitDefEqProofs only[go_sem,encEdge,hw]<;>rfl) (scal rfl) ?_
 simp -implicitDefEqProofs only[go_sem,encEdge,hw]
theorem z3z (n:Int):zh Tryz.prog 228 [.val (.int .i64 n)] (fun r=>r = .val (.bool (!kindB n))):=by
 unfold kindB
 refine zf [] Ty.mixed Tryz.func228 rfl (by kernel_rfl) (by simp[Tryz.ntmps228]) ?_; rw[Tryz.ntmps228,Tryz.results228]
 simp -implicitDefEqProofs only[go_sem]
 refine zba (zob n 99) (by simp -implicitDefEqProofs only[go_sem]<;>rfl) (scal rfl) ?_
 simp -implicitDefEqProofs only[go_sem]
theorem z4a (g:z8) (hg:FewG g) (e:Edge):zh Tryz.prog 230 [.agg (encEdge e),.eptr [encInts g.nodes,.lst (g.edges.map encEdge)] 0] (fun r=>r = .val (.bool (!edgeB g.nodes.length e))):=by
 refine zf [] Ty.mixed Tryz.func230 rfl (by kernel_rfl) (by simp[Tryz.ntmps230]) ?_; rw[Tryz.ntmps230,Tryz.results230]
 simp -implicitDefEqProofs only[go_sem,encEdge,encInts]
 refine zba (zbbe e g.nodes.length hg.nodes) (by simp -implicitDefEqProofs only[go_sem]<;>rfl) (scal rfl) ?_
 simp -implicitDefEqProofs only[go_sem]
theorem z8l (g:z8) (hg:FewG g):zh Tryz.prog 181 [encGraph g] (fun r=>r = .val (.int .i64 (validG g))):=by
 have h1:=hg.nodes
 have h2:=hg.edges
 unfold validG
 refine zf [] Ty.mixed Tryz.func181 rfl (by kernel_rfl) (by simp[Tryz.ntmps181]) ?_; rw[Tryz.ntmps181,Tryz.results181]
 
 simp -implicitDefEqProofs only[go_sem,encGraph,encInts]
 refine zw (fun h3=>?_) (fun h3=>?_)<;>simp -implicitDefEqProofs only[go_sem,h3,encGraph,encInts]
 ·have h3':=of_decide_eq_true h3
  rw[if_pos (by omega)]
 ·have h3':=of_decide_eq_false h3
  refine zc (fun h4=>?_) (fun h4=>?_)<;>simp -implicitDefEqProofs only[go_sem,encGraph,encInts]
  ·have h4':=of_decide_eq_true h4
   rw[if_pos (by omega)]
  ·have h4':=of_decide_eq_false h4
   rw[if_neg (by omega)]
   refine zba (zq6 (fun n=>!kindB n) g.nodes (by omega) _ [] [] (fun y _=>z3z y)) (by simp -implicitDefEqProofs only[go_sem,encGraph,encInts]<;>rfl) (scal rfl) ?_
   simp -implicitDefEqProofs only[go_sem,encGraph,encInts]
   refine zc (fun h5=>?_) (fun h5=>?_)<;>simp -implicitDefEqProofs only[go_sem,encGraph,encInts]
   ·rw[if_pos h5]
   ·rw[if_neg (by rw[h5]; decide)]
    refine zba (zxf (fun e=>!edgeB g.nodes.length e) g.edges (by omega) _ [] [.eptr [encInts g.nodes,.lst (g.edges.map encEdge)] 0] (fun y _=>z4a g hg y)) (by simp -implicitDefEqProofs only[go_sem,encGraph,encInts]<;>rfl) (scal rfl) ?_
    simp -implicitDefEqProofs only[go_sem,encGraph,encInts]
    refine zc (fun h6=>?_) (fun h6=>?_)<;>simp -implicitDefEqProofs only[go_sem,encGraph,encInts]
    ·rw[if_pos h6]
    ·rw[if_neg (by rw[h6]; decide)]

theorem zyn (n:Int):zh Tryz.prog 175 [.val (.int .i64 n)] (fun r=>r = .val (.bool (kindB n))):=by
 unfold kindB
 refine zf [] Ty.mixed Tryz.func175 rfl (by kernel_rfl) (by simp[Tryz.ntmps175]) ?_; rw[Tryz.ntmps175,Tryz.results175]
 simp -implicitDefEqProofs only[go_sem]
 repeat' first | done | (refine zw (fun h=>?_) (fun h=>?_)<;>try simp -implicitDefEqProofs only[go_sem,h]) | (refine zq (fun h=>?_) (fun h=>?_)<;>try simp -implicitDefEqProofs only[go_sem,h]) | (refine zg (fun h=>?_) (fun h=>?_)<;>try simp -implicitDefEqProofs only[go_sem,h]) | (refine zc (fun h=>?_) (fun h=>?_)<;>try simp -implicitDefEqProofs only[go_sem,h])
theorem z7o (e:Edge) (n:Nat):zh Tryz.prog 176 [.agg (encEdge e),.val (.int .i64 n)] (fun r=>r = .val (.bool (edgeB n e))):=by
 refine zf [] Ty.mixed Tryz.func176 rfl (by kernel_rfl) (by simp[Tryz.ntmps176]) ?_; rw[Tryz.ntmps176,Tryz.results176]
 
 simp -implicitDefEqProofs only[go_sem,encEdge]
 refine zba (zyn e.type) (by simp -implicitDefEqProofs only[go_sem,encEdge]<;>rfl) (scal rfl) ?_
 simp -implicitDefEqProofs only[go_sem,encEdge]
 refine zq (fun h1=>?_) (fun h1=>?_)<;>simp -implicitDefEqProofs only[go_sem,h1,encEdge]
 ·have e0:edgeB n e=((decide (0≤e.src)&&decide (e.src≤(n:Int) - 1))&&(decide (0≤e.dst)&&decide (e.dst≤(n:Int) - 1))):=by unfold edgeB; rw[h1,Bool.true_and]
  rw[e0]
  repeat' first | done | (refine zw (fun h=>?_) (fun h=>?_)<;>try simp -implicitDefEqProofs only[go_sem,h,h1,encEdge]) | (refine zq (fun h=>?_) (fun h=>?_)<;>try simp -implicitDefEqProofs only[go_sem,h,h1,encEdge]) | (refine zg (fun h=>?_) (fun h=>?_)<;>try simp -implicitDefEqProofs only[go_sem,h,h1,encEdge]) | (refine zc (fun h=>?_) (fun h=>?_)<;>try simp -implicitDefEqProofs only[go_sem,h,h1,encEdge])
  all_goals(simp only[decide_eq_true_eq,decide_eq_false_iff_not,Bool.not_eq_true',Bool.not_eq_false'] at *; rw[Bool.eq_iff_iff]; simp only[Bool.not_eq_true',Bool.not_eq_false',Bool.and_eq_true,Bool.or_eq_true,Bool.and_eq_false_iff,Bool.or_eq_false_iff,decide_eq_true_eq,decide_eq_false_iff_not,Bool.false_eq_true,true_iff,iff_true,false_iff,iff_false]; omega)
 ·unfold edgeB; rw[h1]; try rfl

theorem zyr {α:Type} [Inhabited α] {p:α→Bool} {l:List α} {j:Nat} (hj:j<l.length) (h:p (l.getD j default)=true):l.any p=true:=List.any_eq_true.2 ⟨_,zd7 hj,h⟩
theorem zwb {α:Type} [Inhabited α] {p:α→Bool} {l:List α} (h:∀j,j<l.length→p (l.getD j default)=false):l.any p=false:=by
 rw[←List.take_length (l:=l)]
 exact zh8 (Nat.le_refl _) h

theorem z29 (g:z8) (hg:FewG g):zh Tryz.prog 141 [encGraph g] (fun r=>r = .val (.int .i64 (validG g))):=by
 have h1:=hg.nodes
 have h2:=hg.edges
 unfold validG
 refine zf [] Ty.mixed Tryz.func141 rfl (by kernel_rfl) (by simp[Tryz.ntmps141]) ?_; rw[Tryz.ntmps141,Tryz.results141]
 
 simp -implicitDefEqProofs only[go_sem,encGraph,encInts]
 refine zw (fun h3=>?_) (fun h3=>?_)<;>simp -implicitDefEqProofs only[go_sem,h3,encGraph,encInts]
 ·have h3':=of_decide_eq_true h3
  rw[if_pos (by omega)]
 ·have h3':=of_decide_eq_false h3
  refine zc (fun h4=>?_) (fun h4=>?_)<;>simp -implicitDefEqProofs only[go_sem,encGraph,encInts]
  ·have h4':=of_decide_eq_true h4
   rw[if_pos (by omega)]
  ·have h4':=of_decide_eq_false h4
   rw[if_neg (by omega)]
   refine zca (σ:=Nat) (fun x=>(upd (upd env0 1 (.ptr 1 0)) 3 (.p (.val (.int .i64 x)))))
    (fun x=>(hset heap0 1 (.box [.p (.lst (g.nodes.map encI)),.p (.lst (g.edges.map encEdge))])))
    (fun x=>x≤g.nodes.length∧∀j,j<x→(!kindB (g.nodes.getD j default))=false) (fun x=>g.nodes.length - x) 0 ⟨Nat.zero_le _,fun j hj=>absurd hj (Nat.not_lt_zero j)⟩ (zbq (by repeat (first | exact zbk _ | refine zbp ?_ (by first | rfl | simp[upd]))) (by repeat (first | exact hsub0 _ | refine zbb ?_ (by first | rfl | simp[hset]))) (by repeat (first | exact zbi _ | refine zbo ?_ (by simp[idsOk,idsOkL,hset]))) (by repeat (first | exact boxIds0 _ | refine z6 ?_ | refine zy ?_ | refine zx ?_ | refine z2 ?_ (by simp[idsOk,idsOkL,hset]))) (by repeat (first | exact keep0 _ | refine zbh (by decide) ?_ | refine zbc (by simp[hset]) ?_))) ?_
   rintro x ⟨hx,hq⟩
   simp -implicitDefEqProofs only[go_sem,encGraph,encInts]
   refine zc (fun hc=>?_) (fun hc=>?_)
   ·have hlt:x<g.nodes.length:=by simpa using hc
    
    simp -implicitDefEqProofs only[go_sem,encGraph,encInts,zj encI hlt,hlt,encI]
    refine zba (zyn (g.nodes.getD x default)) (by simp -implicitDefEqProofs only[go_sem,encGraph,encInts,zj encI hlt,hlt,encI]<;>rfl) (scal rfl) ?_
    simp -implicitDefEqProofs only[go_sem,encGraph,encInts,zj encI hlt,hlt,encI]
    refine zg (fun h5=>?_) (fun h5=>?_)<;>simp -implicitDefEqProofs only[go_sem,encGraph,encInts,zj encI hlt,hlt,encI]
    ·exact zb9 (x+1) ⟨hlt,zkr (p:=fun j=>!kindB (g.nodes.getD j default)) (fun j hj=>by have:=hq j hj; simpa using this) (by rw[h5]; rfl)⟩ (by omega) (by rw[zt hlt (by omega)]; exact (zbq (by repeat (first | exact zbk _ | refine zbp ?_ (by first | rfl | simp[upd]))) (by repeat (first | exact hsub0 _ | refine zbb ?_ (by first | rfl | simp[hset]))) (by repeat (first | exact zbi _ | refine zbo ?_ (by simp[idsOk,idsOkL,hset]))) (by repeat (first | exact boxIds0 _ | refine z6 ?_ | refine zy ?_ | refine zx ?_ | refine z2 ?_ (by simp[idsOk,idsOkL,hset]))) (by repeat (first | exact keep0 _ | refine zbh (by decide) ?_ | refine zbc (by simp[hset]) ?_))))
    ·rw[if_pos (zyr (p:=fun n=>!kindB n) hlt (by rw[h5]; rfl))]
   ·have hge:g.nodes.length≤x:=by simpa using hc
    rw[if_neg (by rw[zwb (p:=fun n=>!kindB n) fun j hj=>hq j (by omega)]; decide)]
    simp -implicitDefEqProofs only[go_sem,encGraph,encInts]
    refine zca (σ:=Nat) (fun x=>(upd (upd env0 1 (.ptr 1 0)) 4 (.p (.val (.int .i64 x)))))
     (fun x=>(hset heap0 1 (.box [.p (.lst (g.nodes.map encI)),.p (.lst (g.edges.map encEdge))])))
     (fun x=>x≤g.edges.length∧∀j,j<x→(!edgeB g.nodes.length (g.edges.getD j default))=false) (fun x=>g.edges.length - x) 0 ⟨Nat.zero_le _,fun j hj=>absurd hj (Nat.not_lt_zero j)⟩ (zbq (by repeat (first | exact zbk _ | refine zbp ?_ (by first | rfl | simp[upd]))) (by repeat (first | exact hsub0 _ | refine zbb ?_ (by first | rfl | simp[hset]))) (by repeat (first | exact zbi _ | refine zbo ?_ (by simp[idsOk,idsOkL,hset]))) (by repeat (first | exact boxIds0 _ | refine z6 ?_ | refine zy ?_ | refine zx ?_ | refine z2 ?_ (by simp[idsOk,idsOkL,hset]))) (by repeat (first | exact keep0 _ | refine zbh (by decide) ?_ | refine zbc (by simp[hset]) ?_))) ?_
    rintro y ⟨hy,hq'⟩
    simp -implicitDefEqProofs only[go_sem,encGraph,encInts]
    refine zc (fun hc'=>?_) (fun hc'=>?_)
    ·have hlt:y<g.edges.length:=by simpa using hc'
     
     simp -implicitDefEqProofs only[go_sem,encGraph,encInts,zj encEdge hlt,hlt,encEdge]
     refine zbn [.q,.q,.q,.q,.q,.q,.q,.q,.q,.q] (by kernel_rfl) ?_
     simp -implicitDefEqProofs only[go_sem,encGraph,encInts,zj encEdge hlt,hlt,encEdge]
     refine zio (z7o (g.edges.getD y default) g.nodes.length) (by simp -implicitDefEqProofs only[go_sem,encGraph,encInts,zj encEdge hlt,hlt,encEdge]<;>rfl) (scal rfl) ?_
     simp -implicitDefEqProofs only[go_sem,encGraph,encInts,zj encEdge hlt,hlt,encEdge]
     refine zg (fun h5=>?_) (fun h5=>?_)<;>simp -implicitDefEqProofs only[go_sem,encGraph,encInts,zj encEdge hlt,hlt,encEdge]
     ·exact zb9 (y+1) ⟨hlt,zkr (p:=fun j=>!edgeB g.nodes.length (g.edges.getD j default)) (fun j hj=>by have:=hq' j hj; simpa using this) (by rw[h5]; rfl)⟩ (by omega) (by rw[zt hlt (by omega)]; exact (zbq (by repeat (first | exact zbk _ | refine zbp ?_ (by first | rfl | simp[upd]))) (by repeat (first | exact hsub0 _ | refine zbb ?_ (by first | rfl | simp[hset]))) (by repeat (first | exact zbi _ | refine zbo ?_ (by simp[idsOk,idsOkL,hset]))) (by repeat (first | exact boxIds0 _ | refine z6 ?_ | refine zy ?_ | refine zx ?_ | refine z2 ?_ (by simp[idsOk,idsOkL,hset]))) (by repeat (first | exact keep0 _ | refine zbh (by decide) ?_ | refine zbc (by simp[hset]) ?_))))
     ·rw[if_pos (zyr (p:=fun e=>!edgeB g.nodes.length e) hlt (by rw[h5]; rfl))]
    ·have hge':g.edges.length≤y:=by simpa using hc'
     rw[if_neg (by rw[zwb (p:=fun e=>!edgeB g.nodes.length e) fun j hj=>hq' j (by omega)]; decide)]
     simp -implicitDefEqProofs only[go_sem,encGraph,encInts]
end Go.Proofs.YthjgdkloabgcoaaGreat
namespace Go.Proofs.YthjgdkloabgcoaaGreat
open Go.Abs

structure FewH (h:Host):Prop where
 graph:FewG h.graph
 values:h.values.length≤45
 row:∀l∈h.values,l.length≤12

end Go.Proofs.YthjgdkloabgcoaaGreat
namespace Go.Proofs.YthjgdkloabgcoaaGreat
open Go.Abs

end Go.Proofs.YthjgdkloabgcoaaGreat
namespace Go.Proofs
open Go.Shelf
end Go.Proofs
namespace Go.Abs
open Go.RowKit

theorem PLe.lst {es' es:List (List PV)} (hl:es'.map (·.length)=es.map (·.length)) (hf:PLes es'.flatten es.flatten):PLe (.lst es') (.lst es):=fun I v hv=>by
 cases hv with
 | lst ao n cap _ us sz hn hsz hu hv hone hm hnil hcap =>
  have hlen:es'.length=es.length:=by have:=congrArg List.length hl; simpa using this
  refine .lst ao _ cap es us sz (by rw[←hlen]; exact hn) (fun e he=>?_) (hu.trans hf.len) (fun j u c hu hc=>?_) hone hm hnil hcap
  ·obtain⟨i,hi,rfl⟩:=List.getElem_of_mem he
   have h1:(es'.map (·.length))[i]? = (es.map (·.length))[i]?:=by rw[hl]
   have hi':i<es'.length:=by omega
   simp only[List.getElem?_map,List.getElem?_eq_getElem hi,List.getElem?_eq_getElem hi',Option.map_some,Option.some.injEq] at h1
   rw[←h1]
   exact hsz _ (List.getElem_mem hi')
  ·obtain⟨c',h1,h2⟩:=hf.at hc
   exact h2 I u (hv j u c' hu h1)
end Go.Abs
namespace Go.Abs
open Go.RowKit

def chk {α:Type} (p:Prop) [Decidable p] (x:Option α):Option α:=if p then x else none
def thn {α β:Type} (x:Option α) (k:α→Option β):Option β:=match x with
 | some a=>k a
 | none=>none
def atZ {α:Type} (l:List α) (i:Int):Option α:=if 0≤i then l[i.toNat]? else none
theorem zbg {α:Type} {p:Prop} [Decidable p] {x:Option α} {r:α} (h:chk p x=some r):p∧x=some r:=by
 unfold chk at h
 split at h
 ·exact⟨by assumption,h⟩
 ·cases h
theorem zm {α β:Type} {x:Option α} {k:α→Option β} {r:β} (h:thn x k=some r):∃a,x=some a∧k a=some r:=by
 unfold thn at h
 split at h
 ·exact⟨_,rfl,h⟩
 ·cases h
theorem zd {α:Type} {b:Bool} {x y:Option α} {r:α} (h:cond b x y=some r) (hb:b=true):x=some r:=by subst hb; exact h
theorem ze {α:Type} {b:Bool} {x y:Option α} {r:α} (h:cond b x y=some r) (hb:b=false):y=some r:=by subst hb; exact h
theorem zbu {α β:Type} {l:List α} {i:Nat} {k:α→Option β} {r:β} (f:α→List PV) (h:thn l[i]? k=some r):∃a,i<l.length∧(l.map f).getD i []=f a∧l[i]? = some a∧k a=some r:=by
 obtain⟨a,h1,h2⟩:=zm h
 exact⟨a,(List.getElem?_eq_some_iff.1 h1).1,by simp[h1],h1,h2⟩
theorem zce {α β : Type} {l : List α} {i : Int} {k : α → Option β} {r : β} (f : α → List PV) (h : thn (atZ l i) k = some r) :
  ∃a,0≤i∧i<(l.length:Int)∧(l.map f).getD i.toNat []=f a∧atZ l i=some a∧k a=some r:=by
 obtain⟨a,h1,h2⟩:=zm h
 have h1':=h1
 unfold atZ at h1
 split at h1
 ·rename_i h0
  have:=(List.getElem?_eq_some_iff.1 h1).1
  exact⟨a,h0,by omega,by simp[h1],h1',h2⟩
 ·cases h1
theorem zjx {α:Type} {f:α→List PV} {n:Nat} (h:∀a,(f a).length=n) (l:List α):∀x∈l.map f,x.length=n:=by
 intro x hx
 obtain⟨a,_,rfl⟩:=List.mem_map.1 hx
 exact h a
theorem z8c {α β:Type} (f:α→β) (l:List α) (n:Nat):(l.map f).take n=(l.take n).map f:=(List.map_take ..).symm
theorem zbad {α β:Type} (f:α→β) (l:List α) (n:Nat):(l.map f).drop n=(l.drop n).map f:=(List.map_drop ..).symm
theorem zfc {α β:Type} (f:α→β) (l m:List α) {c:List β} (h:m.map f=c):l.map f++c=(l++m).map f:=by rw[List.map_append,h]
theorem zvh {α β:Type} (f:α→β) (n:Nat) (a:α) {c:β} (h:f a=c):List.replicate n c=(List.replicate n a).map f:=by rw[List.map_replicate,h]
theorem zs8 {α β:Type} (f:α→β) (l:List α) (i:Nat) (a:α) {c:β} (h:f a=c):(l.map f).set i c=(l.set i a).map f:=by rw[List.map_set,←h]
attribute [go_sem] z8c zbad List.take_length List.length_set List.length_replicate List.set_cons_zero List.set_cons_succ Nat.le_refl Nat.not_lt_zero Nat.zero_le Nat.zero_lt_succ decide_true decide_false Bool.not_not /-! ### nil read as an empty list -/

mutual
def pleP:PV→PV→Prop
 | .val (.slice none 0 0),.lst es=>es=[]
 | .emp,.lst es=>es=[]
 | .lst a,.lst b=>pleLL a b
 | .agg a,.agg b=>pleL a b
 | .tup a,.tup b=>pleL a b
 | a,b=>a=b
def pleL:List PV→List PV→Prop
 | [],[]=>True
 | a :: r,b :: s=>pleP a b∧pleL r s
 | _,_=>False
def pleLL:List (List PV)→List (List PV)→Prop
 | [],[]=>True
 | a :: r,b :: s=>pleL a b∧pleLL r s
 | _,_=>False
end
theorem PLes.app:∀ {a b c d:List PV},PLes a b→PLes c d→PLes (a++c) (b++d)
 | [],[],_,_,_,h=>h
 | [],_ :: _,_,_,h,_=>h.elim
 | _ :: _,[],_,_,h,_=>h.elim
 | _ :: _,_ :: _,_,_,h,k=>⟨h.1,PLes.app h.2 k⟩
mutual
theorem zvd:∀ (a b:PV),pleP a b→PLe a b:=by
 intro a b h
 unfold pleP at h
 split at h
 ·subst h; exact .nil
 ·subst h; exact .emp
 ·exact .lst (zkk _ _ h).1 (zkk _ _ h).2
 ·exact .agg (zkx _ _ h)
 ·exact .tup (zkx _ _ h)
 ·subst h; exact .refl _
theorem zkx:∀ (a b:List PV),pleL a b→PLes a b
 | [],[],_=>trivial
 | a :: r,b :: s,h=>⟨zvd a b (by unfold pleL at h; exact h.1),zkx r s (by unfold pleL at h; exact h.2)⟩
 | [],_ :: _,h=>by unfold pleL at h; exact h
 | _ :: _,[],h=>by unfold pleL at h; exact h
theorem zkk:∀ (a b:List (List PV)),pleLL a b→a.map (·.length)=b.map (·.length)∧PLes a.flatten b.flatten
 | [],[],_=>⟨rfl,trivial⟩
 | a :: r,b :: s,h=>by
  unfold pleLL at h
  have h1:=zkx a b h.1
  have h2:=zkk r s h.2
  exact⟨by rw[List.map_cons,List.map_cons,h2.1,h1.len],by rw[List.flatten_cons,List.flatten_cons]; exact h1.app h2.2⟩
 | [],_ :: _,h=>by unfold pleLL at h; exact h.elim
 | _ :: _,[],h=>by unfold pleLL at h; exact h.elim
end
theorem zh.ple {P:Program} {f:FuncId} {args:List PV} {t:PV} (h:zh P f args (fun v=>pleP v t)):zh P f args (fun v=>v=t) :=
 h.le fun r hr=>⟨t,zvd r t hr,rfl⟩
mutual
def rleP:RV→RV→Prop
 | .p (.val (.slice none 0 0)),.row _ sz es=>es=[]∧0<sz
 | .p (.val (.slice none 0 0)),.p (.lst es)=>es=[]
 | .row e sz es,.row e' sz' es'=>e=e'∧sz=sz'∧pleLL es es'
 | .p (.lst a),.p (.lst b)=>pleLL a b
 | .agg a,.agg b=>rleL a b
 | .tup a,.tup b=>rleL a b
 | .p (.agg a),.agg b=>rleX a b
 | a,b=>a=b
def rleL:List RV→List RV→Prop
 | [],[]=>True
 | a :: r,b :: s=>rleP a b∧rleL r s
 | _,_=>False
def rleX:List PV→List RV→Prop
 | [],[]=>True
 | a :: r,b :: s=>rleP (.p a) b∧rleX r s
 | _,_=>False
end

theorem RVR.rowLe {w:World} {B:Nat} {J:Mem} {u:Value} {bs:List Nat} {e:TypeId} {sz:Nat} {es es':List (List PV)} (hl:es.map (·.length)=es'.map (·.length)) (hf:PLes es.flatten es'.flatten) (h:RVR w B J u (.row e sz es) bs):RVR w B J u (.row e sz es') bs:=by
 cases h with
 | row _ _ _ _ us h h1 =>
  have hlen:es.length=es'.length:=by have:=congrArg List.length hl; simpa using this
  refine .row u e sz es' us ⟨hlen ▸ h.own,h.pos,fun x hx=>?_,fun j u c hu hc=>?_,h.one,h.free⟩ h1
  ·obtain⟨i,hi,rfl⟩:=List.getElem_of_mem hx
   have h2:(es.map (·.length))[i]? = (es'.map (·.length))[i]?:=by rw[hl]
   have hi':i<es.length:=by omega
   simp only[List.getElem?_map,List.getElem?_eq_getElem hi,List.getElem?_eq_getElem hi',Option.map_some,Option.some.injEq] at h2
   rw[←h2]
   exact h.all _ (List.getElem_mem hi')
  ·obtain⟨c',q1,q2⟩:=hf.at hc
   exact q2 J u (h.val j u c' hu q1)
theorem RVR.nilRow {w:World} {B:Nat} {J:Mem} {u:Value} {bs:List Nat} (e:TypeId) {sz:Nat} (hsz:0<sz) (h:RVR w B J u (.p (.val (.slice none 0 0))) bs):RVR w B J u (.row e sz []) bs :=
 (RLe.nil e sz hsz).sound h
theorem RVR.nilLst {w:World} {B:Nat} {J:Mem} {u:Value} {bs:List Nat} (h:RVR w B J u (.p (.val (.slice none 0 0))) bs):RVR w B J u (.p (.lst [])) bs:=RLe.nilp.sound h
def RLs (w:World) (B:Nat) (J:Mem) (us:List Value) (rs:List RV) (bs:List (List Nat)):Prop :=
 us.length=rs.length∧us.length=bs.length∧∀ (j:Nat) u r b,us[j]? = some u→rs[j]? = some r→bs[j]? = some b→RVR w B J u r b
theorem RLs.cons {w : World} {B : Nat} {J : Mem} {u : Value} {us : List Value} {r r' : RV} {rs rs' : List RV} {b : List Nat} {bs : List (List Nat)} (h : RLs w B J (u :: us) (r :: rs) (b :: bs))
  (h1:RVR w B J u r b→RVR w B J u r' b) (h2:RLs w B J us rs bs→RLs w B J us rs' bs):RLs w B J (u :: us) (r' :: rs') (b :: bs):=by
 obtain⟨a1,a2,a3⟩:=h
 obtain⟨c1,c2,c3⟩:=h2 ⟨by simpa using a1,by simpa using a2,fun j u r b hu hr hb=>a3 (j+1) u r b (by simpa using hu) (by simpa using hr) (by simpa using hb)⟩
 refine⟨by simpa using c1,by simpa using c2,fun j u r b hu hr hb=>?_⟩
 cases j with
 | zero=>simp at hu hr hb; subst hu hr hb; exact h1 (a3 0 _ _ _ rfl rfl rfl)
 | succ j=>exact c3 j u r b (by simpa using hu) (by simpa using hr) (by simpa using hb)
mutual
theorem zvg:∀ (r t:RV),rleP r t→∀ {w:World} {B:Nat} {J:Mem} {u:Value} {bs:List Nat},RVR w B J u r bs→RVR w B J u t bs:=by
 intro r t h w B J u bs hr
 unfold rleP at h
 split at h
 ·obtain⟨rfl,h2⟩:=h; exact hr.nilRow _ h2
 ·subst h; exact hr.nilLst
 ·obtain⟨rfl,rfl,h⟩:=h
  exact hr.rowLe (zkk _ _ h).1 (zkk _ _ h).2
 ·cases hr with
  | p _ _ hx=>exact .p _ _ ((PLe.lst (zkk _ _ h).1 (zkk _ _ h).2) _ _ hx)
 ·cases hr with
  | agg us rs bs q1 q2 q3 q4 =>
   obtain⟨c1,c2,c3⟩:=zuu _ _ h (w:=w) (B:=B) (J:=J) ⟨q1,q2,q3⟩
   exact .agg us _ bs c1 c2 c3 q4
 ·cases hr with
  | tup us rs bs q1 q2 q3 =>
   obtain⟨c1,c2,c3⟩:=zuu _ _ h (w:=w) (B:=B) (J:=J) ⟨q1,q2,q3⟩
   exact .tup us _ bs c1 c2 c3
 ·cases hr with
  | p u x hx =>
   cases hx with
   | agg us cs q1 q2 q3 =>
    obtain⟨c1,c2,c3⟩:=z2x _ _ h (w:=w) (B:=B) (J:=J) (us:=us) ⟨q1,q2⟩
    have:((us.map fun _=>([]:List Nat))).flatten=[]:=by simp
    have h2:=RVR.agg us _ (us.map fun _=>[]) c1 c2 c3 q3
    rw[this] at h2
    exact h2
 ·subst h; exact hr
termination_by r t=>SizeOf.sizeOf t
theorem zuu:∀ (a b:List RV),rleL a b→∀ {w:World} {B:Nat} {J:Mem} {us:List Value} {bs:List (List Nat)},RLs w B J us a bs→RLs w B J us b bs
 | [],[],_,_,_,_,_,_,h=>h
 | [],_ :: _,h,_,_,_,_,_,_=>by unfold rleL at h; exact h.elim
 | _ :: _,[],h,_,_,_,_,_,_=>by unfold rleL at h; exact h.elim
 | a :: r,b :: s,h,w,B,J,us,bs,hr=>by
  unfold rleL at h
  match us,bs,hr with
  | u :: us,c :: bs,hr=>exact hr.cons (zvg a b h.1) (zuu r s h.2)
  | [],_,hr=>have:=hr.1; simp at this
  | _ :: _,[],hr=>have:=hr.2.1; simp at this
termination_by a b=>SizeOf.sizeOf b
theorem z2x:∀ (a:List PV) (b:List RV),rleX a b→∀ {w:World} {B:Nat} {J:Mem} {us:List Value},VRs J us a→RLs w B J us b (us.map fun _=>[])
 | [],[],_,_,_,_,us,h=>by
  have h1:us=[]:=by have:=h.1; simpa using this
  subst h1
  exact⟨rfl,rfl,fun j u r b hu=>by simp at hu⟩
 | [],_ :: _,h,_,_,_,_,_=>by unfold rleX at h; exact h.elim
 | _ :: _,[],h,_,_,_,_,_=>by unfold rleX at h; exact h.elim
 | a :: r,b :: s,h,w,B,J,us,hr=>by
  unfold rleX at h
  match us,hr with
  | u :: us,hr =>
   have ih:=z2x r s h.2 (w:=w) (B:=B) (J:=J) (us:=us) ⟨by have:=hr.1; simpa using this,fun j u c hu hc=>hr.2 (j+1) u c (by simpa using hu) (by simpa using hc)⟩
   have h1:=zvg (.p a) b h.1 (w:=w) (B:=B) (.p u a (hr.2 0 u a rfl rfl))
   refine⟨by simpa using ih.1,by simp,fun j u r b hu hr hb=>?_⟩
   cases j with
   | zero=>simp at hu hr hb; subst hu hr hb; exact h1
   | succ j=>exact ih.2.2 j u r b (by simpa using hu) (by simpa using hr) (by simpa using hb)
  | [],hr=>have:=hr.1; simp at this
termination_by a b=>SizeOf.sizeOf b
end
theorem zbt.rle {P:Program} {f:FuncId} {args:List PV} {t:RV} (h:zbt P f args (fun v=>rleP v t)):zbt P f args (fun v=>v=t) :=
 ⟨h.1,fun I w vs hI hv=>(h.2 I w vs hI hv).mono fun _ _ ⟨v,r,bs,I',h1,h2,h3,h4⟩=>⟨v,t,bs,I',h1,rfl,zvg r t h2 h3,h4⟩⟩

theorem zbay (a b:List PV):pleP (.agg a) (.agg b)=pleL a b:=by simp only[pleP]
theorem zbee (a b:List PV):pleP (.tup a) (.tup b)=pleL a b:=by simp only[pleP]
theorem zbcs (es:List (List PV)):pleP (.val (.slice none 0 0)) (.lst es)=(es=[]):=by simp only[pleP]
theorem zbce (a b:List (List PV)):pleP (.lst a) (.lst b)=pleLL a b:=by simp only[pleP]
theorem zz0 (a b:Value):pleP (.val a) (.val b)=(a=b):=by
 unfold pleP
 split<;>first | (rename_i h _; cases h; done) | (rename_i h; cases h; done) | simp_all
mutual
theorem z78:∀a:PV,pleP a a
 | .agg a=>by simp only[pleP]; exact zb a
 | .tup a=>by simp only[pleP]; exact zb a
 | .val v=>by rw[zz0]
 | .lst a=>by simp only[pleP]; exact zpp a
 | .emp=>by simp only[pleP]
 | .eptr _ _=>by simp only[pleP]
 | .clo _ _ _=>by simp only[pleP]
theorem zb:∀a:List PV,pleL a a
 | []=>by unfold pleL; trivial
 | a :: r=>by unfold pleL; exact⟨z78 a,zb r⟩
@[refl] theorem zpp:∀a:List (List PV),pleLL a a
 | []=>by unfold pleLL; trivial
 | a :: r=>by unfold pleLL; exact⟨zb a,zpp r⟩
end
theorem z4m (a:List (List PV)):pleLL a a=True:=eq_true (zpp a)
theorem z42 (a b:List PV) (r s:List (List PV)):pleLL (a :: r) (b :: s)=(pleL a b∧pleLL r s):=by simp only[pleLL]
attribute [go_sem] z4m z42

theorem zbd0:pleL [] []=True:=by simp only[pleL]
theorem z7z (a b:PV) (r s:List PV):pleL (a :: r) (b :: s)=(pleP a b∧pleL r s):=by simp only[pleL]
theorem zbbk (a b:List RV):rleP (.agg a) (.agg b)=rleL a b:=by simp only[rleP]
theorem zbex (a b:List RV):rleP (.tup a) (.tup b)=rleL a b:=by simp only[rleP]
theorem z55 (a:List PV) (b:List RV):rleP (.p (.agg a)) (.agg b)=rleX a b:=by simp only[rleP]
theorem z1f (e:TypeId) (sz:Nat) (es:List (List PV)):rleP (.p (.val (.slice none 0 0))) (.row e sz es)=(es=[]∧0<sz):=by simp only[rleP]
theorem z1e (es:List (List PV)):rleP (.p (.val (.slice none 0 0))) (.p (.lst es))=(es=[]):=by simp only[rleP]
theorem zbci (e e':TypeId) (sz sz':Nat) (es es':List (List PV)):rleP (.row e sz es) (.row e' sz' es')=(e=e'∧sz=sz'∧pleLL es es'):=by simp only[rleP]
theorem zbcv (a b:Value):rleP (.p (.val a)) (.p (.val b))=(a=b):=by
 unfold rleP
 split<;>first | (rename_i h _; cases h; done) | (rename_i h; cases h; done) | simp_all
theorem zbcj (a b:List (List PV)):rleP (.p (.lst a)) (.p (.lst b))=pleLL a b:=by simp only[rleP]
theorem zbb7:rleL [] []=True:=by simp only[rleL]
theorem z9n (a b:RV) (r s:List RV):rleL (a :: r) (b :: s)=(rleP a b∧rleL r s):=by simp only[rleL]
theorem zbb5:rleX [] []=True:=by simp only[rleX]
theorem z6t (a:PV) (b:RV) (r:List PV) (s:List RV):rleX (a :: r) (b :: s)=(rleP (.p a) b∧rleX r s):=by simp only[rleX]
attribute [go_sem] zbay zbee zbcs zbce zz0 zbd0 z7z zbbk zbex z55 z1f z1e zbci zbcv zbcj zbb7 z9n zbb5 z6t /-! ### Loops -/

section
variable {σ O:Type}
def forN (f:Nat→σ→(σ→Option O)→(σ→Option O)→Option O):Nat→Nat→σ→(σ→Option O)→Option O
 | 0,_,s,K=>K s
 | k+1,i,s,K=>f i s (fun s'=>forN f k (i+1) s' K) K
def iter (f:σ→(σ→Option O)→(σ→Option O)→Option O):Nat→σ→(σ→Option O)→Option O
 | 0,_,_=>none
 | k+1,s,K=>f s (fun s'=>iter f k s' K) K
end
def fuel:Nat:=4611686018427387904

section
variable {P:Program} {N:Nat} {own:List Nat} {σ γ O:Type} {c:Code} {K:Kont} {env:Env} {H:za}
def loopG (R:Env→za→Prop) (K:Kont):Kont:=fun e env H=>match e with
 | .normal=>R env H
 | e=>K e env H
theorem zz3 {R:Env→za→Prop} : loopG R K .normal env H=R env H:=rfl
theorem z4p {R:Env→za→Prop} {id:Nat} : loopG R K (.exit id) env H=K (.exit id) env H:=rfl
theorem zbax {R:Env→za→Prop} : loopG R K .ret env H=K .ret env H:=rfl
attribute [go_sem] zz3 z4p zbax

def nextG (inv:σ×γ→Env) (invH:σ×γ→za) (Nx:σ→Prop) (e:Env) (H:za):Prop:=∃s' g,Nx s'∧Weak e H (inv (s',g)) (invH (s',g))
theorem zzl {inv:σ×γ→Env} {invH:σ×γ→za} {Nx:σ→Prop} {e:Env} {H:za} (s':σ) (g:γ) (h:Nx s') (hw:Weak e H (inv (s',g)) (invH (s',g))):nextG inv invH Nx e H:=⟨s',g,h,hw⟩
theorem zs6 {R R' : Env → za → Prop} (h : ∀ e H, R e H ↔ R' e H) : loopG R K = (fun z e' H' => match z with
  | .normal=>R' e' H'
  | z=>K z e' H'):=by
 funext z e' H'
 cases z<;>first | rfl | exact propext (h e' H')

theorem z6h {f : σ → (σ → Option O) → (σ → Option O) → Option O} {Kf : σ → Option O} {r : O} (inv : σ × γ → Env) (invH : σ × γ → za) (g0 : γ) {k : Nat} {s : σ} (h : iter f k s Kf = some r)
  (hw:Weak env H (inv (s,g0)) (invH (s,g0)))
  (hr:∀s g (nxt:σ→Option O) (Nx:σ→Prop),(∀s',nxt s'=some r→Nx s')→f s nxt Kf=some r→cw P N own c (loopG (nextG inv invH Nx) K) (inv (s,g)) (invH (s,g))):loopC P N own c K env H:=by
 refine⟨fun n e H=>∃s g,iter f n s Kf=some r∧e=inv (s,g)∧H=invH (s,g),⟨k,_,_,⟨s,g0,h,rfl,rfl⟩,hw⟩,?_⟩
 rintro n e H ⟨s,g,hs,rfl,rfl⟩
 cases n with
 | zero=>cases hs
 | succ n =>
  have:=hr s g _ (fun s'=>∃m,m<n+1∧iter f m s' Kf=some r) (fun s' h'=>⟨n,Nat.lt_succ_self n,h'⟩) hs
  rw[zs6 (R':=fun e' H'=>∃m e2 H2,m<n+1∧(∃s g,iter f m s Kf=some r∧e2=inv (s,g)∧H2=invH (s,g))∧Weak e' H' e2 H2)] at this
  ·exact this
  ·intro e' H'
   constructor
   ·rintro⟨s',g',⟨m,h1,h2⟩,h3⟩
    exact⟨m,_,_,h1,⟨s',g',h2,rfl,rfl⟩,h3⟩
   ·rintro⟨m,e2,H2,h1,⟨s',g',h2,rfl,rfl⟩,h3⟩
    exact⟨s',g',⟨m,h1,h2⟩,h3⟩

theorem z9j {f : Nat → σ → (σ → Option O) → (σ → Option O) → Option O} {Kf : σ → Option O} {r : O} (inv : (Nat × σ) × γ → Env) (invH : (Nat × σ) × γ → za) (g0 : γ) {n i : Nat} {s : σ} (h : forN f (n - i) i s Kf = some r)
  (hw:Weak env H (inv ((i,s),g0)) (invH ((i,s),g0)))
  (hr:∀j s g (nxt:σ→Option O) (Nx:Nat×σ→Prop),j<n→(∀s',nxt s'=some r→Nx (j+1,s'))→f j s nxt Kf=some r→cw P N own c (loopG (nextG inv invH Nx) K) (inv ((j,s),g)) (invH ((j,s),g)))
  (he:∀j s g (Nx:Nat×σ→Prop),n≤j→Kf s=some r→cw P N own c (loopG (nextG inv invH Nx) K) (inv ((j,s),g)) (invH ((j,s),g))):loopC P N own c K env H:=by
 refine⟨fun m e H=>∃ (x:Nat×σ) (g:γ),(n - x.1=m∧forN f (n - x.1) x.1 x.2 Kf=some r)∧e=inv (x,g)∧H=invH (x,g),⟨n - i,_,_,⟨(i,s),g0,⟨rfl,h⟩,rfl,rfl⟩,hw⟩,?_⟩
 rintro m e H ⟨⟨j,s⟩,g,⟨hm,hs⟩,rfl,rfl⟩
 have key:∀R:Nat×σ→Prop,(∀x,R x↔n - x.1<m∧forN f (n - x.1) x.1 x.2 Kf=some r)→∀e' H',nextG inv invH R e' H'↔∃m' e2 H2,m'<m∧(∃ (x:Nat×σ) (g:γ),(n - x.1=m'∧forN f (n - x.1) x.1 x.2 Kf=some r)∧e2=inv (x,g)∧H2=invH (x,g))∧Weak e' H' e2 H2:=by
  intro R hR e' H'
  constructor
  ·rintro⟨x,g',h1,h3⟩
   obtain⟨h1,h2⟩:=(hR x).1 h1
   exact⟨_,_,_,h1,⟨x,g',⟨rfl,h2⟩,rfl,rfl⟩,h3⟩
  ·rintro⟨m',e2,H2,h1,⟨x,g',⟨h4,h2⟩,rfl,rfl⟩,h3⟩
   exact⟨x,g',(hR x).2 ⟨by omega,h2⟩,h3⟩
 simp only at hm hs
 by_cases hj:j<n
 ·obtain⟨k,hk⟩:∃k,n - j=k+1:=⟨n - j - 1,by omega⟩
  have hk':n - (j+1)=k:=by omega
  rw[hk] at hs
  have:=hr j s g _ (fun x=>n - x.1<m∧forN f (n - x.1) x.1 x.2 Kf=some r) hj (fun s' h'=>⟨by simp only; omega,by simp only[hk']; exact h'⟩) hs
  rw[zs6 (key _ fun x=>Iff.rfl)] at this
  exact this
 ·have h0:n - j=0:=by omega
  rw[h0] at hs
  have:=he j s g (fun x=>n - x.1<m∧forN f (n - x.1) x.1 x.2 Kf=some r) (by omega) hs
  rw[zs6 (key _ fun x=>Iff.rfl)] at this
  exact this
end

theorem zkt {P : Program} {N : Nat} {own : List Nat} {σ γ O : Type} {c : Code} {K : Kont} {env : Env} {H : za} {f : σ → (σ → Option O) → (σ → Option O) → Option O} {Kf : σ → Option O} {r : O} (inv : σ × γ → Env) (invH : σ × γ → za) (g0 : γ) {k : Nat} {s : σ} (h : iter f k s Kf = some r)
  (hw:Weak env H (inv (s,g0)) (invH (s,g0)))
  (hr:∀s g (nxt:σ→Option O) (R:Env→za→Prop),(∀s' g' {e H},nxt s'=some r→Weak e H (inv (s',g')) (invH (s',g'))→R e H)→f s nxt Kf=some r→cw P N own c (loopG R K) (inv (s,g)) (invH (s,g))):loopC P N own c K env H :=
 z6h inv invH g0 h hw fun s g nxt Nx hN hf=>hr s g nxt _ (fun s' g' _ _ h1 h2=>zzl s' g' (hN s' h1) h2) hf
theorem zbe {P : Program} {N : Nat} {own : List Nat} {σ γ O : Type} {c : Code} {K : Kont} {env : Env} {H : za} {f : Nat → σ → (σ → Option O) → (σ → Option O) → Option O} {Kf : σ → Option O} {r : O} (inv : (Nat × σ) × γ → Env) (invH : (Nat × σ) × γ → za) (g0 : γ) {n i : Nat} {s : σ} (h : forN f (n - i) i s Kf = some r)
  (hw:Weak env H (inv ((i,s),g0)) (invH ((i,s),g0)))
  (hr:∀j s g (nxt:σ→Option O) (R:Env→za→Prop),j<n→(∀s' g' {e H},nxt s'=some r→Weak e H (inv ((j+1,s'),g')) (invH ((j+1,s'),g'))→R e H)→f j s nxt Kf=some r→cw P N own c (loopG R K) (inv ((j,s),g)) (invH ((j,s),g)))
  (he:∀j s g (R:Env→za→Prop),n≤j→Kf s=some r→cw P N own c (loopG R K) (inv ((j,s),g)) (invH ((j,s),g))):loopC P N own c K env H :=
 z9j inv invH g0 h hw (fun j s g nxt Nx hj hN hf=>hr j s g nxt _ hj (fun s' g' _ _ h1 h2=>zzl (j+1,s') g' (hN s' h1) h2) hf) (fun j s g Nx hj hk=>he j s g _ hj hk)

section
variable {P:Program} {env:Env} {H:za} {o:Oper} {W:Env→za→Prop} {k:FuncId} {ps ps':List PV} {b:Bool}
theorem zbt.args {f:FuncId} {ps ps':List PV} {Q:RV→Prop} (h:zbt P f ps Q) (hp:PLes ps' ps):zbt P f ps' Q :=
 ⟨h.1,fun I w vs hI hv=>h.2 I w vs hI (hp.vrs hv)⟩
theorem callG {x : PV} (c : zh P k ps fun r => r = x) (he : callPs o (ev env) H = some (k, ps', b)) (hp : pleL ps' ps) (hb : b = true → x.scalar = true)
  (hW:W (putA env o.dst (.p x)) H):callK P o W env H:=zba (c.args (zkx _ _ hp)) he hb hW
theorem calldG {x : PV} (c : zh P k ps fun r => r = x) (he : callPs o (ev env) H = some (k, ps', b)) (hp : pleL ps' ps) (hb : b = true → x.scalar = true)
  (hW:W (putA env o.dst (.p x)) H):callD P o W env H:=zio (c.args (zkx _ _ hp)) he hb hW
end

section
variable {P:Program} {t:TypeId} {kk:IntKind} {n:Int} {H:za}
end
mutual
def subA:AV→AV→Prop
 | .p a,.p b=>pleP a b
 | .agg a,.agg b=>subAL a b
 | .tup a,.tup b=>subAL a b
 | a,b=>a=b
def subAL:List AV→List AV→Prop
 | [],[]=>True
 | a :: r,b :: s=>subA a b∧subAL r s
 | _,_=>False
end
theorem zbht (a b:PV):subA (.p a) (.p b)=pleP a b:=by simp only[subA]
theorem zbc6 (i v j u:Nat):subA (.row i v) (.row j u)=(i=j∧v=u):=by simp only[subA,AV.row.injEq]
theorem zbde (i v j u:Nat):subA (.ptr i v) (.ptr j u)=(i=j∧v=u):=by simp only[subA,AV.ptr.injEq]
theorem z7e:subAL [] []=True:=by simp only[subAL]
theorem z36 (a b:AV) (r s:List AV):subAL (a :: r) (b :: s)=(subA a b∧subAL r s):=by simp only[subAL]

theorem zn3:∀ {as' bs:List AV},subAL as' bs→as'.length=bs.length∧∀ (j:Nat) a b,as'[j]? = some a→bs[j]? = some b→subA a b
 | [],[],_=>⟨rfl,fun j a b h=>by simp at h⟩
 | a :: r,b :: s,h=>by
  unfold subAL at h
  obtain⟨h1,h2⟩:=zn3 h.2
  refine⟨by simp[h1],fun j x y hx hy=>?_⟩
  cases j with
  | zero=>simp at hx hy; subst hx hy; exact h.1
  | succ j=>exact h2 j x y (by simpa using hx) (by simpa using hy)
 | [],_ :: _,h=>by unfold subAL at h; exact h.elim
 | _ :: _,[],h=>by unfold subAL at h; exact h.elim

theorem z2s {I:Mem} {L:zbl} {u:Value} {a:AV} (h:AVR I L u a):∀ {b:AV},subA a b→AVR I L u b:=by
 induction h with
 | p u x h =>
  intro b hb
  unfold subA at hb
  split at hb
  ·rename_i e; cases e; exact .p _ _ (zvd _ _ hb _ _ h)
  ·rename_i e; cases e
  ·rename_i e; cases e
  ·subst hb; exact .p _ _ h
 | agg us cs hl hv hone ih =>
  intro b hb
  unfold subA at hb
  split at hb
  ·rename_i e; cases e
  ·rename_i e; cases e
   obtain⟨q1,q2⟩:=zn3 hb
   refine .agg us _ (hl.trans q1) (fun j u c hu hc=>?_) hone
   obtain⟨a,ha⟩:∃a,cs[j]? = some a:=by
    have hj:j<us.length:=(List.getElem?_eq_some_iff.1 hu).1
    exact⟨cs[j]'(by omega),by simp[hl ▸ hj]⟩
   exact ih j u a hu ha (q2 j a c ha hc)
  ·rename_i e; cases e
  ·subst hb; exact .agg us cs hl hv hone
 | tup us cs hl hv ih =>
  intro b hb
  unfold subA at hb
  split at hb
  ·rename_i e; cases e
  ·rename_i e; cases e
  ·rename_i e; cases e
   obtain⟨q1,q2⟩:=zn3 hb
   refine .tup us _ (hl.trans q1) (fun j u c hu hc=>?_)
   obtain⟨a,ha⟩:∃a,cs[j]? = some a:=by
    have hj:j<us.length:=(List.getElem?_eq_some_iff.1 hu).1
    exact⟨cs[j]'(by omega),by simp[hl ▸ hj]⟩
   exact ih j u a hu ha (q2 j a c ha hc)
  ·subst hb; exact .tup us cs hl hv
 | row u id ver v hdr sz hl hle h h1 =>
  intro b hb
  unfold subA at hb
  subst hb
  exact .row u id ver v hdr sz hl hle h h1
 | ptr id b' off hl =>
  intro b hb
  unfold subA at hb
  subst hb
  exact .ptr id b' off hl
 | rptr u id ver v i off hdr sz hl hle h h1 =>
  intro b hb
  unfold subA at hb
  subst hb
  exact .rptr u id ver v i off hdr sz hl hle h h1
 | clo fn us vs fs cs hl hl' hv hv' =>
  intro b hb
  unfold subA at hb
  subst hb
  exact .clo fn us vs fs cs hl hl' hv hv'
 | dead u =>
  intro b hb
  unfold subA at hb
  subst hb
  exact .dead u

def envL:List (Nat×AV)→Env
 | []=>env0
 | (d,v) :: r=>upd (envL r) d v
def heapL:List (Nat×zcb)→za
 | []=>heap0
 | (d,c) :: r=>hset (heapL r) d c
theorem zbbq:envL []=env0:=rfl
theorem z75 (d:Nat) (v:AV) (r:List (Nat×AV)):envL ((d,v) :: r)=upd (envL r) d v:=rfl
theorem z7d:heapL []=heap0:=rfl
theorem z5a (d:Nat) (c:zcb) (r:List (Nat×zcb)):heapL ((d,c) :: r)=hset (heapL r) d c:=rfl
def subE (e:Env):List (Nat×AV)→Prop
 | []=>True
 | (d,v) :: r=>subA (e d) v∧subE e r
def subC:Option zcb→zcb→Prop
 | some (.box cs),.box ds=>subAL cs ds
 | some c,d=>c=d
 | none,_=>False
def subH (H:za):List (Nat×zcb)→Prop
 | []=>True
 | (d,c) :: r=>subC (H d) c∧subH H r
def idsE (G:za):List (Nat×AV)→Prop
 | []=>True
 | (_,v) :: r=>idsOk G v∧idsE G r
def idsC (G:za):List (Nat×zcb)→Prop
 | []=>True
 | (_,.box cs) :: r=>idsOkL G cs∧idsC G r
 | _ :: r=>idsC G r
theorem zbd2 (e:Env):subE e []=True:=rfl
theorem z7b (e:Env) (d:Nat) (v:AV) (r:List (Nat×AV)):subE e ((d,v) :: r)=(subA (e d) v∧subE e r):=rfl
theorem zbd1 (cs ds:List AV):subC (some (.box cs)) (.box ds)=subAL cs ds:=rfl
theorem zbdy (v:Nat) (e:TypeId) (sz:Nat) (es:List (List PV)) (v':Nat) (e':TypeId) (sz':Nat) (es':List (List PV)):subC (some (.row v e sz es)) (.row v' e' sz' es')=(v=v'∧e=e'∧sz=sz'∧es=es'):=by
 simp only[subC,zcb.row.injEq]
theorem zbch (H:za):subH H []=True:=rfl
theorem z8m (H:za) (d:Nat) (c:zcb) (r:List (Nat×zcb)):subH H ((d,c) :: r)=(subC (H d) c∧subH H r):=rfl
theorem zbda (G:za):idsE G []=True:=rfl
theorem z6d (G:za) (d:Nat) (v:AV) (r:List (Nat×AV)):idsE G ((d,v) :: r)=(idsOk G v∧idsE G r):=rfl
theorem zbc1 (G:za):idsC G []=True:=rfl
theorem zbet (G:za) (d:Nat) (cs:List AV) (r:List (Nat×zcb)):idsC G ((d,.box cs) :: r)=(idsOkL G cs∧idsC G r):=rfl
theorem zbbx (G:za) (d:Nat) (v:Nat) (e:TypeId) (sz:Nat) (es:List (List PV)) (r:List (Nat×zcb)):idsC G ((d,.row v e sz es) :: r)=idsC G r:=rfl
theorem zbgp (G:za) (x:PV):idsOk G (.p x)=True:=by simp only[idsOk]
theorem z9t (G:za) (i v:Nat):idsOk G (.row i v)=(G i≠none):=by simp only[idsOk]
theorem z93 (G:za) (i v:Nat):idsOk G (.ptr i v)=(G i≠none):=by simp only[idsOk]
theorem z3q (G:za):idsOkL G []=True:=by simp only[idsOkL]
theorem z1v (G:za) (a:AV) (r:List AV):idsOkL G (a :: r)=(idsOk G a∧idsOkL G r):=by simp only[idsOkL]
theorem keep0' (H':za):zhz heap0 H'=True:=eq_true (keep0 H')
theorem keepLow' {H H':za} {i:Nat} {c:zcb} (hi:i<1000000):zhz (hset H i c) H'=zhz H H':=by
 refine propext ⟨fun h j hj hn=>h j hj ?_,zbh hi⟩
 unfold hset
 rw[if_neg (by omega)]
 exact hn
attribute [go_sem] zbht zbc6 zbde z7e z36 zbbq z75 z7d z5a zbd2 z7b zbd1 zbdy zbch z8m zbda z6d zbc1 zbet zbbx zbgp z9t z93 z3q z1v keep0' keepLow'

theorem z15 {e:Env} : ∀ {l:List (Nat×AV)},subE e l→∀t,envL l t = .dead∨subA (e t) (envL l t)
 | [],_,t=>.inl rfl
 | (d,v) :: r,h,t=>by
  unfold envL upd
  split
  ·rename_i ht; subst ht; exact .inr h.1
  ·exact z15 h.2 t
theorem z2a {H:za} : ∀ {l:List (Nat×zcb)},subH H l→∀i c',heapL l i=some c'→∃c,H i=some c∧subC (some c) c'
 | [],_,i,c',h=>by cases h
 | (d,v) :: r,h,i,c',hi=>by
  unfold heapL hset at hi
  split at hi
  ·rename_i ht
   subst ht
   simp only[Option.some.injEq] at hi
   subst hi
   have h1:=h.1
   cases hH:H i with
   | none=>rw[hH] at h1; exact h1.elim
   | some c=>rw[hH] at h1; exact⟨c,rfl,h1⟩
  ·exact z2a h.2 i c' hi
theorem z2d {G:za} : ∀ {l:List (Nat×AV)},idsE G l→zrq (envL l) G
 | [],_,t=>trivial
 | (d,v) :: r,h,t=>by
  unfold envL upd
  split
  ·exact h.1
  ·exact z2d h.2 t
theorem z2e {G:za} : ∀ {l:List (Nat×zcb)},idsC G l→zjm (heapL l) G
 | [],_,i,cs,h=>by cases h
 | (d,c) :: r,h,i,cs,hi=>by
  have hr:idsC G r:=by
   cases c with
   | box cs=>exact h.2
   | row=>exact h
   | shut=>exact h
   | tail=>exact h
  unfold heapL hset at hi
  split at hi
  ·simp only[Option.some.injEq] at hi
   subst hi
   exact h.1
  ·exact z2e hr i cs hi

theorem weakL {e:Env} {H:za} {l:List (Nat×AV)} {hl:List (Nat×zcb)} (h:subE e l∧subH H hl∧idsE (heapL hl) l∧idsC (heapL hl) hl∧zhz H (heapL hl)):Weak e H (envL l) (heapL hl):=fun C I L tm w hs=>by
 obtain⟨h1,h2,h3,h4,h5⟩:=h
 have w0:Weak e H e H:=Weak.refl _ _
 refine⟨I,L.to (heapL hl),?_⟩
 exact
 {below:=hs.below
  mem:=hs.mem
  memC:=hs.memC
  memN:=hs.memN
  frame:=hs.frame
  loc:=fun i=>by
   cases hi:C.L0 i with
   | none=>trivial
   | some l0 =>
    have h0:=hs.loc i
    rw[hi] at h0
    have hL:L i≠none:=by
     cases l0 with
     | box b=>intro e; rw[e] at h0; cases h0
     | row v hdr sz =>
      obtain⟨_,_,h0,_⟩:=h0
      intro e; rw[e] at h0; cases h0
    have hH:H i≠none:=by
     cases hLi:L i with
     | none=>exact absurd hLi hL
     | some l =>
      obtain⟨c,hc⟩:=hs.dom i l hLi
      rw[hc]; simp
    have e:=zlj (L:=L) (h5 i (C.hL0 i l0 hi) hH)
    rw[e]
    exact h0
  blkF:=fun id l b hl hb=>hs.blkF id l b (zlu hl).1 hb
  size:=hs.size
  env:=fun t=>by
   rcases z15 h1 t with h | h
   ·rw[h]; exact .dead _
   ·exact (z2s (hs.env t) h).to (z2d h3 t)
  dom:=fun id l hl=>(zlu hl).2
  chunk:=fun id ch hch=>by
   obtain⟨c,hc1,hc2⟩:=z2a h2 id ch hch
   have hc:=hs.chunk id c hc1
   have hid:L.to (heapL hl) id=L id:=zlj (by rw[hch]; simp)
   cases c with
   | box cs =>
    cases ch with
    | box ds =>
     have hq:subAL cs ds:=hc2
     obtain⟨q1,q2⟩:=zn3 hq
     obtain⟨b,arr,e,g1,g2,g3,g4,g5,g6⟩:=hc
     refine⟨b,arr,e,hid.trans g1,g2,g3.trans q1,fun j u c hu hc=>?_,g5,g6⟩
     obtain⟨a,ha⟩:∃a,cs[j]? = some a:=by
      have hj:j<arr.size:=(Array.getElem?_eq_some_iff.1 hu).1
      exact⟨cs[j]'(by omega),by simp[g3 ▸ hj]⟩
     exact (z2s (g4 j u a hu ha) (q2 j a c ha hc)).to (ziv (z2e h4 id ds hch) j c hc)
    | row=>cases hc2
    | shut=>cases hc2
    | tail=>cases hc2
   | row ver e sz es =>
    have hq:zcb.row ver e sz es=ch:=by cases ch<;>exact hc2
    subst hq
    obtain⟨hdr,us,g1,g2⟩:=hc
    exact⟨hdr,us,hid.trans g1,g2⟩
   | shut ver es =>
    have hq:zcb.shut ver es=ch:=by cases ch<;>exact hc2
    subst hq
    obtain⟨hdr,sz,g1,g2⟩:=hc
    exact⟨hdr,sz,hid.trans g1,g2⟩
   | tail ver e sz es =>
    have hq:zcb.tail ver e sz es=ch:=by cases ch<;>exact hc2
    subst hq
    obtain⟨g,o,cap,arr,g1,g2⟩:=hc
    exact⟨g,o,cap,arr,hid.trans g1,g2⟩
  blkB:=fun id l b hl hb=>hs.blkB id l b (zlu hl).1 hb
  apart:=fun i j li lj b hi hj hbi hbj=>hs.apart i j li lj b (zlu hi).1 (zlu hj).1 hbi hbj }
theorem z77 {env : Env} {d : Option Tmp} {t : TypeId} {pos : String} {af : Array Edge} {g : Option (Nat × Bool)} (a : Nat) (s : Operand) (t1 t2 : TypeId) :
  stPtr ⟨d,.call ⟨.builtin .append,#[.tmp a,s],#[t1,t2]⟩,t,pos,af,g⟩ env=((∃v,env a = .row a v)∧∃x,ev env s = .p x):=rfl
theorem zbib (i j v:Nat):(∃u,AV.row i v = .row j u)=(i=j):=by
 apply propext
 constructor
 ·rintro⟨u,h⟩; cases h; rfl
 ·rintro rfl; exact⟨v,rfl⟩
attribute [go_sem] z77 zbib exists_eq'

section
variable {P:Program} {env:Env} {H:za} {o:Oper} {W:Env→za→Prop} {k:FuncId} {ps ps':List PV} {b:Bool}
theorem callfG (id : Nat) {r : RV} (c : zbt P k ps fun x => x = r) (he : callPs o (ev env) H = some (k, ps', b)) (hp : pleL ps' ps) (hb : b = true → r.flat = true)
  (hf:freeN H id ((placeA id r).2 - id)) (hW:W (putA env o.dst (placeA id r).1) (placeH id H r)):callK P o W env H:=zpq id (c.args (zkx _ _ hp)) he hb hf hW
end
noncomputable def giv {α:Type} (p:Prop) (x:α):Option α:=open Classical in if p then some x else none
theorem zh4 {α:Type} {p:Prop} {x r:α} (h:giv p x=some r):p∧x=r:=by
 unfold giv at h
 split at h
 ·exact⟨by assumption,by simpa using h⟩
 ·cases h
end Go.Abs
namespace Go.Abs

def Ok {α:Type} (x:Option α) (Q:α→Prop):Prop:=∃r,x=some r∧Q r
section
variable {α β σ O:Type} {Q:O→Prop}
theorem Ok.mk {r:O} (h:Q r):Ok (some r) Q:=⟨r,rfl,h⟩
theorem Ok.eq {x:Option α} {r:α} (h:Ok x (fun y=>y=r)):x=some r:=by obtain⟨y,h1,rfl⟩:=h; exact h1
theorem Ok.of {x:Option α} {r:α} (h:x=some r):Ok x (fun y=>y=r):=⟨r,h,rfl⟩
theorem Ok.mono {x:Option O} {Q':O→Prop} (h:Ok x Q) (hq:∀r,Q r→Q' r):Ok x Q':=by obtain⟨r,h1,h2⟩:=h; exact⟨r,h1,hq r h2⟩
theorem zdv {p:Prop} [Decidable p] {x:Option O} (hp:p) (h:Ok x Q):Ok (chk p x) Q:=by unfold chk; rw[if_pos hp]; exact h
theorem zb3 {b:Bool} {x y:Option O} (h1:b=true→Ok x Q) (h2:b=false→Ok y Q):Ok (cond b x y) Q:=by
  cases b
  · exact h2 rfl
  · exact h1 rfl
theorem ok_t {b:Bool} {x y:Option O} (hb:b=true) (h1:Ok x Q):Ok (cond b x y) Q:=by subst hb; exact h1
theorem ok_f {b:Bool} {x y:Option O} (hb:b=false) (h1:Ok y Q):Ok (cond b x y) Q:=by subst hb; exact h1
theorem zlb {x:Option α} {k:α→Option O} {R:α→Prop} (h:Ok x R) (hk:∀r,R r→Ok (k r) Q):Ok (thn x k) Q:=by
  obtain⟨r,rfl,h2⟩:=h
  exact hk r h2
theorem zef {x:Option α} {k:α→Option O} {r:α} (h:x=some r) (hk:Ok (k r) Q):Ok (thn x k) Q:=by subst h; exact hk
theorem zg9 {l:List α} {k:α→Option O} {i:Nat} (hi:i<l.length) (h:Ok (k l[i]) Q):Ok (thn l[i]? k) Q:=zef (List.getElem?_eq_getElem hi) h
theorem zjk {l:List α} {k:α→Option O} {i:Int} (h0:0≤i) (hi:i.toNat<l.length) (h:Ok (k l[i.toNat]) Q):Ok (thn (atZ l i) k) Q :=
  zef (by unfold atZ; rw[if_pos h0]; exact List.getElem?_eq_getElem hi) h
theorem zgl {f : Nat → σ → (σ → Option O) → (σ → Option O) → Option O} {K : σ → Option O} (φ : Nat → σ → Prop) {n i : Nat} {s : σ} (hi : i ≤ n) (h0 : φ i s)
    (hr:∀j s (nxt:σ→Option O),i≤j→j<n→φ j s→(∀s',φ (j+1) s'→Ok (nxt s') Q)→Ok (f j s nxt K) Q) (he:∀s,φ n s→Ok (K s) Q):Ok (forN f (n - i) i s K) Q:=by
  have key:∀k j s,j+k=n→i≤j→φ j s→Ok (forN f k j s K) Q:=by
    intro k
    induction k with
    | zero => intro j s hj _ h; have : j = n := by omega
              subst this; exact he s h
    | succ k ih=>intro j s hj hij h; exact hr j s _ hij (by omega) h fun s' h'=>ih (j+1) s' (by omega) (by omega) h'
  exact key (n - i) i s (by omega) (Nat.le_refl _) h0
theorem zlo {f : σ → (σ → Option O) → (σ → Option O) → Option O} {K : σ → Option O} (φ : σ → Prop) (μ : σ → Nat) {n : Nat} {s : σ} (h0 : φ s) (hm : μ s < n)
    (hr:∀s (nxt:σ→Option O),φ s→(∀s',φ s'→μ s'<μ s→Ok (nxt s') Q)→Ok (f s nxt K) Q):Ok (iter f n s K) Q:=by
  have key:∀n s,φ s→μ s<n→Ok (iter f n s K) Q:=by
    intro n
    induction n with
    | zero=>intro s _ h; omega
    | succ n ih=>intro s h hm; exact hr s _ h fun s' h' hlt=>ih s' h' (by omega)
  exact key n s h0 hm
theorem wrapI {n:Int} (h : -9223372036854775808≤n∧n≤9223372036854775807):IntKind.i64.wrap n=n:=IntWalk.i64_in n (by omega)
end
theorem zha {α:Type} {p:Prop} {x:α} (h:p):giv p x=some x:=by unfold giv; rw[if_pos h]
theorem zud {α β O : Type} {Q : O → Prop} {f : Nat → List β → (List β → Option O) → (List β → Option O) → Option O} {K : List β → Option O} (l : List α) (g : α → β)
    (hr:∀j (s:List β) (nxt:List β→Option O) (hj:j<l.length),s.length=j→Ok (nxt (s++[g l[j]])) Q→Ok (f j s nxt K) Q) (he:Ok (K (l.map g)) Q):Ok (forN f (l.length - 0) 0 [] K) Q:=by
  refine zgl (fun j s=>j≤l.length∧s=(l.take j).map g) (Nat.zero_le _) ⟨Nat.zero_le _,rfl⟩ ?_ ?_
  · rintro j s nxt _ hj ⟨_,rfl⟩ hn
    refine hr j _ nxt hj (by simp; omega) (hn _ ⟨hj,?_⟩)
    rw[List.take_add_one,List.getElem?_eq_getElem hj,Option.toList_some,List.map_append]
    rfl
  · rintro s ⟨_,rfl⟩
    rw[List.take_length]
    exact he
end Go.Abs
namespace Go.Abs
section
variable {σ O α:Type} {Q:O→Prop}
end
end Go.Abs
namespace Go.Abs
def pickO {α β:Type} (o:Option α) (x:α→β) (y:β):β:=match o with
 | some a=>x a
 | none=>y
section
variable {σ O α β:Type}
theorem zvw {f : Nat → Unit → (Unit → Option O) → (Unit → Option O) → Option O} {K : Unit → Option O} (p : Nat → Bool) (x : Nat → Option O) : ∀ (k i : Nat),
  (∀j,i≤j→j<i+k→∀nxt,f j () nxt K=cond (p j) (nxt ()) (x j))→forN f k i () K=pickO ((List.range' i k).find? (fun j=>!p j)) x (K ())
 | 0,i,_=>rfl
 | k+1,i,h=>by
  rw[forN,h i (Nat.le_refl _) (by omega),List.range'_succ,List.find?_cons]
  cases hp:p i with
  | false=>rfl
  | true =>
   have:=zvw p x k (i+1) fun j h1 h2 nxt=>h j (by omega) (by omega) nxt
   simpa using this
theorem zk1 {f : Nat → Unit → (Unit → Option O) → (Unit → Option O) → Option O} {K : Unit → Option O} {n : Nat} (p : Nat → Bool) (x : Nat → Option O) (h : ∀ j, j < n → ∀ nxt, f j () nxt K = cond (p j) (nxt ()) (x j)) :
  forN f (n - 0) 0 () K=pickO ((List.range n).find? (fun j=>!p j)) x (K ()):=by
 rw[zvw p x (n - 0) 0 fun j _ h2 nxt=>h j (by omega) nxt,Nat.sub_zero,List.range_eq_range']
theorem zqn {f : Nat → Unit → (Unit → Option O) → (Unit → Option O) → Option O} {K : Unit → Option O} (l : List α) (p : α → Bool) (x : α → Option O) (h : ∀ i (hi : i < l.length) nxt, f i () nxt K = cond (p l[i]) (nxt ()) (x l[i])) : ∀ (k i : Nat), i + k = l.length →
  forN f k i () K=pickO ((l.drop i).find? (fun a=>!p a)) x (K ())
 | 0,i,hk=>by rw[List.drop_eq_nil_of_le (by omega)]; rfl
 | k+1,i,hk=>by
  rw[forN,h i (by omega),List.drop_eq_getElem_cons (by omega),List.find?_cons]
  cases hp:p l[i] with
  | false=>rfl
  | true =>
   have:=zqn l p x h k (i+1) (by omega)
   simpa using this
theorem zco {f : Nat → Unit → (Unit → Option O) → (Unit → Option O) → Option O} {K : Unit → Option O} (l : List α) (p : α → Bool) (x : α → Option O) (h : ∀ i (hi : i < l.length) nxt, f i () nxt K = cond (p l[i]) (nxt ()) (x l[i])) :
  forN f (l.length - 0) 0 () K=pickO (l.find? (fun a=>!p a)) x (K ()):=by
 have:=zqn l p x h (l.length - 0) 0 (by omega)
 simpa using this
theorem zqm {f : Nat → σ → (σ → Option O) → (σ → Option O) → Option O} {K : σ → Option O} (l : List α) (g : σ → α → σ) (Inv : Nat → σ → Prop) (h : ∀ i (hi : i < l.length) s, Inv i s → (∀ nxt, f i s nxt K = nxt (g s l[i])) ∧ Inv (i + 1) (g s l[i])) :
  ∀ (k i:Nat) (s:σ),i+k=l.length→Inv i s→forN f k i s K=K ((l.drop i).foldl g s)∧Inv l.length ((l.drop i).foldl g s)
 | 0,i,s,hk,hs=>by rw[List.drop_eq_nil_of_le (by omega)]; exact⟨rfl,by rw[show l.length=i by omega]; exact hs⟩
 | k+1,i,s,hk,hs=>by
  obtain⟨h1,h2⟩:=h i (by omega) s hs
  rw[forN,h1,List.drop_eq_getElem_cons (by omega),List.foldl_cons]
  exact zqm l g Inv h k (i+1) _ (by omega) h2
theorem zd3 {f : Nat → σ → (σ → Option O) → (σ → Option O) → Option O} {K : σ → Option O} {s : σ} (l : List α) (g : σ → α → σ) (Inv : Nat → σ → Prop) (h0 : Inv 0 s) (h : ∀ i (hi : i < l.length) s, Inv i s → (∀ nxt, f i s nxt K = nxt (g s l[i])) ∧ Inv (i + 1) (g s l[i])) :
  forN f (l.length - 0) 0 s K=K (l.foldl g s)∧Inv l.length (l.foldl g s):=by
 have:=zqm l g Inv h (l.length - 0) 0 s (by omega) h0
 simpa using this
theorem zmr (l:List α) (g:α→β):∀s:List β,l.foldl (fun s a=>s++[g a]) s=s++l.map g:=by
 induction l with
 | nil=>intro s; simp
 | cons a l ih=>intro s; rw[List.foldl_cons,ih]; simp
theorem zbw {p:Prop} [Decidable p] {x:Option O} (h:p):chk p x=x:=by unfold chk; rw[if_pos h]
theorem ztq {x:α} {k:α→Option O} : thn (some x) k=k x:=rfl
theorem zk {x:Option α} {y:α} {k:α→Option O} (h:x=some y):thn x k=k y:=by rw[h]; rfl
theorem zbz {l:List α} {i:Nat} {k:α→Option O} (h:i<l.length):thn l[i]? k=k l[i]:=by rw[List.getElem?_eq_getElem h]; rfl
theorem zi5 {l:List α} {i:Int} {k:α→Option O} (h0:0≤i) (h:i.toNat<l.length):thn (atZ l i) k=k (l[i.toNat]'h):=by
 unfold atZ; rw[if_pos h0,List.getElem?_eq_getElem h]; rfl
theorem zv {p:Prop} [Decidable p] {x y:Option O} : cond (decide p) x y=if p then x else y:=by
 by_cases h:p<;>simp[h]
theorem zij {b:Bool} {x y:Option O} : cond (!b) x y=cond b y x:=by cases b<;>rfl
def errL (e:α→Int) (l:List α):Int:=pickO (l.find? (fun a=>!decide (e a=0))) e 0
theorem zlv {e:α→Int} {l:List α} : errL e l=0↔∀a∈l,e a=0:=by
 unfold errL pickO
 split
 ·rename_i a h
  have h1:=List.find?_some h
  have h2:=List.mem_of_find?_eq_some h
  simp only[Bool.not_eq_true',decide_eq_false_iff_not] at h1
  exact⟨fun h=>absurd h h1,fun h=>h a h2⟩
 ·rename_i h
  simp only[List.find?_eq_none,Bool.not_eq_true',decide_eq_false_iff_not,Decidable.not_not] at h
  exact⟨fun _=>h,fun _=>rfl⟩
theorem zik {e:α→Int} {l:List α} {K:Option Int} (hK:K=some 0):pickO (l.find? (fun a=>!decide (e a=0))) (fun a=>some (e a)) K=some (errL e l):=by
 subst hK
 unfold errL pickO
 split<;>rfl
theorem zee {p:α→Bool} {l:List α} {x y:β} : pickO (l.find? (fun a=>!p a)) (fun _=>x) y=if l.all p=true then y else x:=by
 unfold pickO
 split
 ·rename_i a h
  have h1:=List.find?_some h
  have h2:=List.mem_of_find?_eq_some h
  rw[if_neg]
  intro h3
  have:=List.all_eq_true.1 h3 a h2
  simp[this] at h1
 ·rename_i h
  rw[if_pos]
  simpa using h
def idxQ (q:α→Bool) (l:List α):Int:=match l.findIdx? q with
 | some i=>i
 | none=>-1
theorem zi6 {q:α→Bool} {l:List α} : decide (0≤idxQ q l)=l.any q:=by
 unfold idxQ
 cases h:l.findIdx? q with
 | none =>
  have:=List.findIdx?_eq_none_iff.1 h
  have h2:l.any q=false:=by simpa using this
  rw[h2]; rfl
 | some i =>
  have h1:l.any q=true:=by
   have:=List.findIdx?_eq_some_iff_getElem.1 h
   obtain⟨hi,hq,_⟩:=this
   exact List.any_eq_true.2 ⟨_,List.getElem_mem hi,hq⟩
  rw[h1]; simp
theorem zhf {f : Nat → Unit → (Unit → Option Int) → (Unit → Option Int) → Option Int} {K : Unit → Option Int} (l : List α) (q : α → Bool) (h : ∀ i (hi : i < l.length) nxt, f i () nxt K = cond (q l[i]) (some (i : Int)) (nxt ())) (hK : K () = some (-1)) :
  forN f (l.length - 0) 0 () K=some (idxQ q l):=by
 have key:∀ (k i:Nat),i+k=l.length→forN f k i () K=some (match (l.drop i).findIdx? q with | some j=>((i+j:Nat):Int) | none=>-1):=by
  intro k
  induction k with
  | zero=>intro i hk; rw[List.drop_eq_nil_of_le (by omega)]; exact hK
  | succ k ih =>
   intro i hk
   rw[forN,h i (by omega),List.drop_eq_getElem_cons (by omega),List.findIdx?_cons]
   cases hq:q l[i] with
   | true=>simp
   | false =>
    have:=ih (i+1) (by omega)
    rw[cond_false,this]
    cases (l.drop (i+1)).findIdx? q with
    | none=>rfl
    | some j=>simp only[Option.map_some,Bool.false_eq_true,if_false,Option.some.injEq]; rw[show i+1+j=i+(j+1) by omega]
 have:=key (l.length - 0) 0 (by omega)
 rw[this,List.drop_zero]
 unfold idxQ
 cases l.findIdx? q<;>simp
end
end Go.Abs
namespace Go.Abs
open Go.RowKit

variable {P:Program} {N:Nat} {own:List Nat}
theorem zhv {ops : Array Oper} {K : Env → za → Prop} {env : Env} {H : za} (id v : Nat) (e : TypeId) (sz : Nat) (es : List (List PV)) (ts : List Nat) (hH : H id = some (.row v e sz es)) (ht : holds env id v ts) (hn : ts.Nodup)
  (hw:drawW P N own ops K (updL (.p (.lst es)) ts env) (hset H id (.shut v es))):drawW P N own ops K env H:=by
 intro C I L tm w hN hs
 have h1:=Fr.shut C I L w hH env tm hs
 exact hw C _ L tm w hN (zq4 (by simp[hset]) ts _ hn h1 ht)
theorem zyi {α β:Type} (f:α→β) (l m:List α) {c:List β} (h:l.map f=c):c++m.map f=(l++m).map f:=by rw[List.map_append,h]
theorem zbv {i:Int} {n:Nat} (h:0≤i) (k:i<(n:Int)):i.toNat<n:=by omega
def nnewN (own:List Nat) (ops:Array Oper) (id:Nat):Nat→Prop
 | 0=>True
 | n+1=>newsB own ops id=false∧nnewN own ops (id+1) n
variable {ops:Array Oper}
theorem z9p (id:Nat):nnewN own ops id 1=(newsB own ops id=false∧True):=rfl
theorem zun:∀ (n id:Nat),nnewN own ops id n→∀i,id≤i→i<id+n→newsB own ops i=false
 | 0,id,_,i,h1,h2=>by omega
 | n+1,id,h,i,h1,h2=>by
  rcases Nat.lt_or_ge id i with h' | h'
  ·exact zun n (id+1) h.2 i (by omega) (by omega)
  ·have:i=id:=by omega
   subst this
   exact h.1
theorem calldfG {env : Env} {H : za} {o : Oper} {W : Env → za → Prop} {k : FuncId} {ps ps' : List PV} {b : Bool} (id : Nat) {r : RV} (c : zbt P k ps fun x => x = r) (he : callPs o (ev env) (hidH own ops H) = some (k, ps', b)) (hp : pleL ps' ps) (hb : b = true → r.flat = true)
  (hf:freeN H id ((placeA id r).2 - id)) (hn:nnewN own ops id ((placeA id r).2 - id)) (hW:W (putA env o.dst (placeA id r).1) (placeH id H r)):callFD P own ops o W env H:=by
 have c':zbt P k ps' fun x=>x=r:=c.args (zkx _ _ hp)
 have hle:=znd r id
 unfold callPs at he
 cases ha:callArgs o (ev env) with
 | none=>rw[ha] at he; cases he
 | some q =>
  obtain⟨k',als⟩:=q
  rw[ha] at he
  simp only[] at he
  cases hl:lendL (lend1 (hidH own ops H)) als with
  | none=>rw[hl] at he; cases he
  | some q =>
   obtain⟨qs,b'⟩:=q
   rw[hl] at he
   simp only[Option.some.injEq,Prod.mk.injEq] at he
   obtain⟨rfl,rfl,rfl⟩:=he
   exact⟨_,_,⟨_,als,_,_,r,id,ha,hl,c',hb,fun i h1 h2=>⟨zpx _ id hf i h1 (by omega),zun _ id hn i h1 (by omega)⟩,rfl,rfl⟩,hW⟩
attribute [go_sem] z9p

end Go.Abs
set_option maxRecDepth 20000
namespace Go.Proofs.YthjgdkloabgcoaaGreat
open Go.Abs

structure zie where
 var:Int
 add:Int
structure zb4 where
 node:Int
 attr:Int
 term:zie
structure zc3 where
 kind:Int
 left:zie
 right:zie
structure z7 where
 graph:z8
 slots:List zb4
 vars:Int
 tests:List zc3
structure zdb where
 nodes:List Int
 edges:List Int
structure zby where
 nodes:List Int
 edges:List Int
structure zp where
 kind:Int
 kids:List zp
 map:zby
 pattern:z7
structure zu where
 name:ByteArray
 left:z7
 right:z7
 keep:zdb
 into:zby
 injective:Bool
 condition:zp
def zbs (x:zb4):List PV:=[.val (.int .i64 x.node),.val (.int .i64 x.attr),.val (.int .i64 x.term.var),.val (.int .i64 x.term.add)]
def zb7 (x:zc3):List PV:=[.val (.int .i64 x.kind),.val (.int .i64 x.left.var),.val (.int .i64 x.left.add),.val (.int .i64 x.right.var),.val (.int .i64 x.right.add)]
mutual
def zz:zp→List PV
 | ⟨v_kind,v_kids,v_map,v_pattern⟩=>[.val (.int .i64 v_kind),.lst (zg4 v_kids),.lst (v_map.nodes.map encI),.lst (v_map.edges.map encI),.lst (v_pattern.graph.nodes.map encI),.lst (v_pattern.graph.edges.map encEdge),.lst (v_pattern.slots.map zbs),.val (.int .i64 v_pattern.vars),.lst (v_pattern.tests.map zb7)]
def zg4:List zp→List (List PV)
 | []=>[]
 | a :: r=>zz a :: zg4 r
end
theorem zq2 (l:List zp):zg4 l=l.map zz:=by
 induction l with
 | nil=>simp[zg4]
 | cons a r ih=>simp[zg4,ih]
theorem zht (x:zp):zz x=[.val (.int .i64 x.kind),.lst (x.kids.map zz),.lst (x.map.nodes.map encI),.lst (x.map.edges.map encI),.lst (x.pattern.graph.nodes.map encI),.lst (x.pattern.graph.edges.map encEdge),.lst (x.pattern.slots.map zbs),.val (.int .i64 x.pattern.vars),.lst (x.pattern.tests.map zb7)]:=by
 cases x; simp[zz,zq2]
def zbj (x:zu):List PV:=[.val (.string x.name),.lst (x.left.graph.nodes.map encI),.lst (x.left.graph.edges.map encEdge),.lst (x.left.slots.map zbs),.val (.int .i64 x.left.vars),.lst (x.left.tests.map zb7),.lst (x.right.graph.nodes.map encI),.lst (x.right.graph.edges.map encEdge),.lst (x.right.slots.map zbs),.val (.int .i64 x.right.vars),.lst (x.right.tests.map zb7),.lst (x.keep.nodes.map encI),.lst (x.keep.edges.map encI),.lst (x.into.nodes.map encI),.lst (x.into.edges.map encI),.val (.bool x.injective),.val (.int .i64 x.condition.kind),.lst (x.condition.kids.map zz),.lst (x.condition.map.nodes.map encI),.lst (x.condition.map.edges.map encI),.lst (x.condition.pattern.graph.nodes.map encI),.lst (x.condition.pattern.graph.edges.map encEdge),.lst (x.condition.pattern.slots.map zbs),.val (.int .i64 x.condition.pattern.vars),.lst (x.condition.pattern.tests.map zb7)]
structure zo where
 deletes:List Int
 creates:List Int
def zb2 (x:z7):List PV:=[.lst (x.graph.nodes.map encI),.lst (x.graph.edges.map encEdge),.lst (x.slots.map zbs),.val (.int .i64 x.vars),.lst (x.tests.map zb7)]
def zk2 (b:Bool):List PV:=[.val (.bool b)]
def zbd (x:zo):List PV:=[.lst (x.deletes.map encI),.lst (x.creates.map encI)]
structure zed where
 rules:List Int
 nodes:List Int
 edges:List Int
def zll (x:zed):List PV:=[.lst (x.rules.map encI),.lst (x.nodes.map encI),.lst (x.edges.map encI)]
structure zi where
 rule:Int
 src:Int
 dst:Int
 strict:Int
def zn (x:zi):List PV:=[.val (.int .i64 x.rule),.val (.int .i64 x.src),.val (.int .i64 x.dst),.val (.int .i64 x.strict)]
attribute [local go_sem] Nat.reduceEqDiff Nat.reduceLT Nat.reduceLeDiff Nat.reduceMul Nat.reduceAdd Nat.reduceBEq Nat.reduceSub Int.reduceToNat reduceIte reduceCtorEq List.cons_append List.nil_append encAttr encEdge encEdgeT encI encInts encNode encS encStrs zht zn zll zb2 zbj zbs zb7 zbd zk2

noncomputable section

end
end Go.Proofs.YthjgdkloabgcoaaGreat
namespace Go.Proofs.YthjgdkloabgcoaaGreat
open Go.Abs

noncomputable def zix (t:zl):Option (ByteArray×Int):=giv (FewT t) (validT t)
theorem zmk (t:zl) (r:ByteArray×Int) (h:zix t=some r):zh Tryz.prog 58 [encTypes t] (fun v=>v = .tup [.val (.string r.1),.val (.int .i64 r.2)]):=by
 obtain⟨h1,rfl⟩:=zh4 h
 exact zzt t h1
noncomputable def zc9 (t:zl):Option (ByteArray×Int):=giv (FewT t) (validT t)
theorem zgh (t:zl) (r:ByteArray×Int) (h:zc9 t=some r):zh Tryz.prog 63 [encTypes t] (fun v=>v = .tup [.val (.string r.1),.val (.int .i64 r.2)]):=by
 obtain⟨h1,rfl⟩:=zh4 h
 exact zv0 t h1
noncomputable def zeg (g:z8):Option Int:=giv (FewG g) (validG g)
theorem ziy (g:z8) (r:Int) (h:zeg g=some r):zh Tryz.prog 181 [encGraph g] (fun v=>v = .val (.int .i64 r)):=by
 obtain⟨h1,rfl⟩:=zh4 h
 exact z8l g h1
noncomputable def zct (g:z8):Option Int:=giv (FewG g) (validG g)
theorem ze8 (g:z8) (r:Int) (h:zct g=some r):zh Tryz.prog 141 [encGraph g] (fun v=>v = .val (.int .i64 r)):=by
 obtain⟨h1,rfl⟩:=zh4 h
 exact z29 g h1
noncomputable def zlk (s:ByteArray):Option Bool:=giv (s.size≤1000000) (nameB s)
theorem zus (s:ByteArray) (r:Bool) (h:zlk s=some r):zh Tryz.prog 108 [.val (.string s)] (fun v=>v = .val (.bool r)):=by
 obtain⟨h1,rfl⟩:=zh4 h
 exact zma s h1
noncomputable def zhj (s:ByteArray):Option Bool:=giv (s.size≤1000000) (nameB s)
theorem znl (s:ByteArray) (r:Bool) (h:zhj s=some r):zh Tryz.prog 123 [.val (.string s)] (fun v=>v = .val (.bool r)):=by
 obtain⟨h1,rfl⟩:=zh4 h
 exact zk9 s h1
noncomputable def znk (t:zl) (e a b:Int):Option Bool:=giv (FewT t) (fitsT t e a b)
theorem zzp (t:zl) (e a b:Int) (r:Bool) (h:znk t e a b=some r):zh Tryz.prog 196 [encTypes t,.val (.int .i64 e),.val (.int .i64 a),.val (.int .i64 b)] (fun v=>v = .val (.bool r)):=by
 obtain⟨h1,rfl⟩:=zh4 h
 exact zbhc t h1 e a b
noncomputable def zhy (t:zl) (e a b:Int):Option Bool:=giv (FewT t) (fitsT t e a b)
theorem zow (t:zl) (e a b:Int) (r:Bool) (h:zhy t e a b=some r):zh Tryz.prog 79 [encTypes t,.val (.int .i64 e),.val (.int .i64 a),.val (.int .i64 b)] (fun v=>v = .val (.bool r)):=by
 obtain⟨h1,rfl⟩:=zh4 h
 exact zbcw t h1 e a b
noncomputable def zkb (t:zl) (a:Int):Option (List Attr×Int):=giv (OkT t∧0≤a∧a<t.nodes.length) (attrsAt t a.toNat,0)
theorem zqo (t:zl) (a:Int) (r:List Attr×Int) (h:zkb t a=some r):zh Tryz.prog 233 [encTypes t,.val (.int .i64 a)] (fun v=>v = .tup [.lst (r.1.map encAttr),.val (.int .i64 r.2)]):=by
 obtain⟨⟨h1,h2,h3⟩,rfl⟩:=zh4 h
 obtain⟨n,rfl⟩:=Int.eq_ofNat_of_zero_le h2
 exact z9e t h1 n (by omega)
noncomputable def zgf (t:zl) (a:Int):Option (List Attr×Int):=giv (OkT t∧0≤a∧a<t.nodes.length) (attrsAt t a.toNat,0)
theorem zj3 (t:zl) (a:Int) (r:List Attr×Int) (h:zgf t a=some r):zh Tryz.prog 78 [encTypes t,.val (.int .i64 a)] (fun v=>v = .tup [.lst (r.1.map encAttr),.val (.int .i64 r.2)]):=by
 obtain⟨⟨h1,h2,h3⟩,rfl⟩:=zh4 h
 obtain⟨n,rfl⟩:=Int.eq_ofNat_of_zero_le h2
 exact z4v t h1 n (by omega)
noncomputable def zgt (l:List Int):Option (List Int):=giv (l.length≤1000000) l
theorem zjo (l:List Int) (r:List Int) (h:zgt l=some r):zbt Tryz.prog 21 [.lst (l.map encI)] (fun v=>v = .row 3 1 (r.map encI)):=by
 obtain⟨h1,rfl⟩:=zh4 h
 exact z7w l h1
noncomputable def zg5 (l:List Int):Option (List Int):=giv (l.length≤1000000) (l.mergeSort fun x y=>decide (x≤y))
theorem zmn (v:Nat) (l r:List Int) (h:zg5 l=some r):ziu Tryz.prog 120 v 3 1 (l.map encI) [] (fun a c=>a = .tup []∧c=some (.row v 3 1 (r.map encI))):=by
 obtain⟨h1,rfl⟩:=zh4 h
 exact Go.SortM.callM_sortInt sortInt (by kernel_rfl) l (by omega) v 3
noncomputable def zf9 (l:List Int):Option (List Int):=giv (l.length≤1000000) (Lib.compact l)
theorem zk8 (v:Nat) (l r:List Int) (h:zf9 l=some r):ziu Tryz.prog 121 v 3 1 (l.map encI) [] (fun a c=>a = .row 1000000 (v+1)∧c=some (.row (v+1) 3 1 (r.map encI))):=by
 obtain⟨h1,rfl⟩:=zh4 h
 exact Go.SortM.callM_compactInt compactInt (by kernel_rfl) l (by omega) v 3
end Go.Proofs.YthjgdkloabgcoaaGreat
namespace Go.Abs
open Go.RowKit Go.Shelf Go.Proofs
variable {P:Program} {ρ:Ren}

end Go.Abs
namespace Go.Proofs.YthjgdkloabgcoaaGreat
open Go.Abs

end Go.Proofs.YthjgdkloabgcoaaGreat
