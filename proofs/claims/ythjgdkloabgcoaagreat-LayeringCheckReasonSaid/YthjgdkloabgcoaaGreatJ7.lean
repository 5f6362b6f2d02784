/- Joined texts, part 7: lemmas for the statement. No condition. -/
import Derived.Test.YthjgdkloabgcoaaGreatJ4
import Derived.Test.YthjgdkloabgcoaaGreatJ6
import Derived.Test.YthjgdkloabgcoaaGreatJ5
import Derived.Test.YthjgdkloabgcoaaGreatRows
import Derived.Test.YthjgdkloabgcoaaGreatJ3
set_option maxHeartbeats 4000000
set_option linter.unusedSimpArgs false
set_option linter.unusedVariables false
open Nat (reduceEqDiff reduceLT reduceLeDiff reduceMul reduceAdd reduceSub)
set_option maxRecDepth 20000
namespace Go.Proofs.YthjgdkloabgcoaaGreat
open Go.Abs


noncomputable section
theorem zqx (a0:zk) (a1:zu) (r:Int) (h:zgo a0 a1=some r):zh Tryz.prog 116 [.agg [.lst (a0.nodes.map encNode),.lst (a0.edges.map encEdgeT)],.agg (zbn a1)] (fun v=>v = .val (.int .i64 r)):=by
 refine zh.ple ?_
 refine zf [] Ty.mixed Tryz.func116 rfl (by kernel_rfl) (by simp[Tryz.ntmps116]) ?_; rw[Tryz.ntmps116,Tryz.results116]
 unfold zgo at h
 obtain⟨r2,hr2,h⟩:=zl h
 try simp -implicitDefEqProofs only[go_sem]
 refine callG (zlw a0 r2 hr2) (by simp -implicitDefEqProofs only[go_sem]<;>rfl) (zb _) (by first | exact pers | exact scal rfl) ?_
 try simp -implicitDefEqProofs only[go_sem]
 refine zg (fun b3=>?_) (fun b3=>?_)
 ·replace h:=zd h b3
  obtain⟨r4,hr4,h⟩:=zl h
  try simp -implicitDefEqProofs only[go_sem,b3]
  refine callG (zui a1.name r4 hr4) (by simp -implicitDefEqProofs only[go_sem,b3]<;>rfl) (zb _) (by first | exact pers | exact scal rfl) ?_
  try simp -implicitDefEqProofs only[go_sem,b3]
  refine zg (fun b5=>?_) (fun b5=>?_)
  ·replace h:=zd h b5
   obtain⟨r6,hr6,h⟩:=zl h
   try simp -implicitDefEqProofs only[go_sem,b3,b5]
   refine callG (zjt (⟨a0.nodes,a0.edges⟩:zk) a1.left r6 hr6) (by simp -implicitDefEqProofs only[go_sem,b3,b5]<;>rfl) (zb _) (by first | exact pers | exact scal rfl) ?_
   try simp -implicitDefEqProofs only[go_sem,b3,b5]
   refine zg (fun b7=>?_) (fun b7=>?_)
   ·replace h:=zd h b7
    obtain⟨r8,hr8,h⟩:=zl h
    try simp -implicitDefEqProofs only[go_sem,b3,b5,b7]
    refine callG (zyc (⟨a0.nodes,a0.edges⟩:zk) (⟨a1.name,a1.left,a1.right,a1.keep,a1.into,a1.injective,a1.condition⟩:zu) r8 hr8) (by simp -implicitDefEqProofs only[go_sem,b3,b5,b7]<;>rfl) (zb _) (by first | exact pers | exact scal rfl) ?_
    try simp -implicitDefEqProofs only[go_sem,b3,b5,b7]
    refine zg (fun b9=>?_) (fun b9=>?_)
    ·replace h:=zd h b9
     obtain⟨r10,hr10,h⟩:=zl h
     try simp -implicitDefEqProofs only[go_sem,b3,b5,b7,b9]
     refine callG (zzt (⟨a1.name,a1.left,a1.right,a1.keep,a1.into,a1.injective,a1.condition⟩:zu) r10 hr10) (by simp -implicitDefEqProofs only[go_sem,b3,b5,b7,b9]<;>rfl) (zb _) (by first | exact pers | exact scal rfl) ?_
     try simp -implicitDefEqProofs only[go_sem,b3,b5,b7,b9]
     refine zg (fun b11=>?_) (fun b11=>?_)
     ·replace h:=zd h b11
      obtain⟨r12,hr12,h⟩:=zl h
      try simp -implicitDefEqProofs only[go_sem,b3,b5,b7,b9,b11]
      refine callfG 1704 (zof (⟨a1.name,a1.left,a1.right,a1.keep,a1.into,a1.injective,a1.condition⟩:zu) r12 hr12) (by simp -implicitDefEqProofs only[go_sem,b3,b5,b7,b9,b11]<;>rfl) (zb _) (by first | exact persF | exact flatF rfl | exact flatF (by simp[RV.flat,RV.flatL,PV.scalar,isVal,encI,encI])) (by simp -implicitDefEqProofs only[go_sem,b3,b5,b7,b9,b11]) ?_
      obtain⟨r13,hr13,h⟩:=zl h
      try simp -implicitDefEqProofs only[go_sem,b3,b5,b7,b9,b11]
      refine callG (zud (⟨a0.nodes,a0.edges⟩:zk) a1.right.graph r12.1 r12.2 r13 hr13) (by simp -implicitDefEqProofs only[go_sem,b3,b5,b7,b9,b11]<;>rfl) (zb _) (by first | exact pers | exact scal rfl) ?_
      try simp -implicitDefEqProofs only[go_sem,b3,b5,b7,b9,b11]
      refine zg (fun b14=>?_) (fun b14=>?_)
      ·replace h:=zd h b14
       obtain⟨r15,hr15,h⟩:=zl h
       try simp -implicitDefEqProofs only[go_sem,b3,b5,b7,b9,b11,b14]
       refine callG (zry a0 a1.left a1.condition r15 hr15) (by simp -implicitDefEqProofs only[go_sem,b3,b5,b7,b9,b11,b14]<;>rfl) (zb _) (by first | exact pers | exact scal rfl) ?_
       cases h
       try simp -implicitDefEqProofs only[go_sem,b3,b5,b7,b9,b11,b14]
       all_goals((repeat' apply And.intro)<;>rfl)
      ·replace h:=ze h b14
       cases h
       try simp -implicitDefEqProofs only[go_sem,b3,b5,b7,b9,b11,b14]
       all_goals((repeat' apply And.intro)<;>rfl)
     ·replace h:=ze h b11
      cases h
      try simp -implicitDefEqProofs only[go_sem,b3,b5,b7,b9,b11]
      all_goals((repeat' apply And.intro)<;>rfl)
    ·replace h:=ze h b9
     cases h
     try simp -implicitDefEqProofs only[go_sem,b3,b5,b7,b9]
     all_goals((repeat' apply And.intro)<;>rfl)
   ·replace h:=ze h b7
    cases h
    try simp -implicitDefEqProofs only[go_sem,b3,b5,b7]
    all_goals((repeat' apply And.intro)<;>rfl)
  ·replace h:=ze h b5
   cases h
   try simp -implicitDefEqProofs only[go_sem,b3,b5]
   all_goals((repeat' apply And.intro)<;>rfl)
 ·replace h:=ze h b3
  cases h
  try simp -implicitDefEqProofs only[go_sem,b3]
  all_goals((repeat' apply And.intro)<;>rfl)
theorem zi1 (a0:zk) (a1:zu) (r:(List Int)×(List Int)×Int) (h:zdm a0 a1=some r):zbt Tryz.prog 64 [.agg [.lst (a0.nodes.map encNode),.lst (a0.edges.map encEdgeT)],.agg (zbn a1)] (fun v=>v = .tup [.row 3 1 (r.1.map encI),.row 3 1 (r.2.1.map encI),.p (.val (.int .i64 r.2.2))]):=by
 refine zbt.rle ?_
 refine zbw [] Ty.mixed Tryz.func64 rfl (by kernel_rfl) (by simp[Tryz.ntmps64]) ?_; rw[Tryz.ntmps64,Tryz.results64]
 unfold zdm at h
 obtain⟨r2,hr2,h⟩:=zl h
 try simp -implicitDefEqProofs only[go_sem]
 refine callG (zjq a0 (⟨a1.name,a1.left,a1.right,a1.keep,a1.into,a1.injective,a1.condition⟩:zu) r2 hr2) (by simp -implicitDefEqProofs only[go_sem]<;>rfl) (zb _) (by first | exact pers | exact scal rfl) ?_
 try simp -implicitDefEqProofs only[go_sem]
 refine zg (fun b3=>?_) (fun b3=>?_)
 ·replace h:=zd h b3
  obtain⟨r4,hr4,h⟩:=zl h
  try simp -implicitDefEqProofs only[go_sem,b3]
  refine callfG 1288 (zl5 (⟨a1.name,a1.left,a1.right,a1.keep,a1.into,a1.injective,a1.condition⟩:zu) r4 hr4) (by simp -implicitDefEqProofs only[go_sem,b3]<;>rfl) (zb _) (by first | exact persF | exact flatF rfl | exact flatF (by simp[RV.flat,RV.flatL,PV.scalar,isVal,encI,encI])) (by simp -implicitDefEqProofs only[go_sem,b3]) ?_
  cases h
  try simp -implicitDefEqProofs only[go_sem,b3]
  refine⟨by decide,_,.refl _,?_⟩
  simp -implicitDefEqProofs only[go_sem,b3]<;>((repeat' apply And.intro)<;>rfl)
 ·replace h:=ze h b3
  cases h
  try simp -implicitDefEqProofs only[go_sem,b3]
  refine⟨by decide,_,.refl _,?_⟩
  simp -implicitDefEqProofs only[go_sem,b3]<;>((repeat' apply And.intro)<;>rfl)
theorem zme (a0:zk) (a1:zu) (r:(List Int)×(List Int)×Int) (h:zec a0 a1=some r):zbt Tryz.prog 75 [.agg [.lst (a0.nodes.map encNode),.lst (a0.edges.map encEdgeT)],.agg (zbn a1)] (fun v=>v = .tup [.row 3 1 (r.1.map encI),.row 3 1 (r.2.1.map encI),.p (.val (.int .i64 r.2.2))]):=by
 refine zbt.rle ?_
 refine zbw [] Ty.mixed Tryz.func75 rfl (by kernel_rfl) (by simp[Tryz.ntmps75]) ?_; rw[Tryz.ntmps75,Tryz.results75]
 unfold zec at h
 obtain⟨r2,hr2,h⟩:=zl h
 try simp -implicitDefEqProofs only[go_sem]
 refine callG (zjq a0 a1 r2 hr2) (by simp -implicitDefEqProofs only[go_sem]<;>rfl) (zb _) (by first | exact pers | exact scal rfl) ?_
 try simp -implicitDefEqProofs only[go_sem]
 refine zg (fun b3=>?_) (fun b3=>?_)
 ·replace h:=zd h b3
  obtain⟨r4,hr4,h⟩:=zl h
  try simp -implicitDefEqProofs only[go_sem,b3]
  refine callfG 1288 (ziy a1 r4 hr4) (by simp -implicitDefEqProofs only[go_sem,b3]<;>rfl) (zb _) (by first | exact persF | exact flatF rfl | exact flatF (by simp[RV.flat,RV.flatL,PV.scalar,isVal,encI,encI])) (by simp -implicitDefEqProofs only[go_sem,b3]) ?_
  cases h
  try simp -implicitDefEqProofs only[go_sem,b3]
  refine⟨by decide,_,.refl _,?_⟩
  simp -implicitDefEqProofs only[go_sem,b3]<;>((repeat' apply And.intro)<;>rfl)
 ·replace h:=ze h b3
  cases h
  try simp -implicitDefEqProofs only[go_sem,b3]
  refine⟨by decide,_,.refl _,?_⟩
  simp -implicitDefEqProofs only[go_sem,b3]<;>((repeat' apply And.intro)<;>rfl)
theorem zm1 (a0:zk) (a1:List zu) (r:Int) (h:zew a0 a1=some r):zh Tryz.prog 34 [.agg [.lst (a0.nodes.map encNode),.lst (a0.edges.map encEdgeT)],.lst (a1.map zbn)] (fun v=>v = .val (.int .i64 r)):=by
 refine zh.ple ?_
 refine zf [] Ty.mixed Tryz.func34 rfl (by kernel_rfl) (by simp[Tryz.ntmps34]) ?_; rw[Tryz.ntmps34,Tryz.results34]
 unfold zew at h
 obtain⟨r2,hr2,h⟩:=zl h
 try simp -implicitDefEqProofs only[go_sem]
 refine callG (zf4 a0 r2 hr2) (by simp -implicitDefEqProofs only[go_sem]<;>rfl) (zb _) (by first | exact pers | exact scal rfl) ?_
 try simp -implicitDefEqProofs only[go_sem]
 refine zg (fun b3=>?_) (fun b3=>?_)
 ·replace h:=zd h b3
  try simp -implicitDefEqProofs only[go_sem,b3]
  refine zc (fun b4=>?_) (fun b4=>?_)
  ·replace h:=zd h b4
   cases h
   try simp -implicitDefEqProofs only[go_sem,b3,b4]
   all_goals((repeat' apply And.intro)<;>rfl)
  ·replace h:=ze h b4
   obtain⟨fus5,h⟩:=zbm h
   unfold fuel at fus5
   try simp -implicitDefEqProofs only[go_sem,b3,b4]
   refine zbe (fun x:(Nat×(Unit))×(Unit)=>envL [(1,.p (.lst (a1.map zbn))),(2,.ptr 2 0),(7,.p (.val (.int .i64 ((x.1.1:Nat):Int))))]) (fun x=>heapL [(2,.box [.p (.lst (a0.nodes.map encNode)),.p (.lst (a0.edges.map encEdgeT))])]) () h (weakL (by simp -implicitDefEqProofs only[go_sem,b3,b4]<;>((repeat' apply And.intro)<;>rfl))) ?_ ?_
   ·intro i5 s5 g5 nxts5 Rs5 his5 hNs5 h
    have hws5:=zt (k:=i5) his5 (by omega)
    try dsimp only at h
    try simp -implicitDefEqProofs only[go_sem,b3,b4,his5,hws5]
    refine zbl [.q,.q,.q,.q,.q,.q,.q,.q,.q,.q,.q,.q,.q] (by kernel_rfl) ?_
    obtain⟨e6,c6,g6,q6,h⟩:=zbu zbn h
    obtain⟨r7,hr7,h⟩:=zl h
    try simp -implicitDefEqProofs only[go_sem,b3,b4,his5,hws5,c6,g6]
    refine calldG (show zh _ _ _ (fun v=>v = .tup [.lst (r7.1.map encI),.lst (r7.2.1.map encI),.val (.int .i64 r7.2.2)]) from (zi1 a0 e6 r7 hr7).toV1) (by simp -implicitDefEqProofs only[go_sem,b3,b4,his5,hws5,c6,g6]<;>rfl) (zb _) (by first | exact pers | exact scal rfl) ?_
    try simp -implicitDefEqProofs only[go_sem,b3,b4,his5,hws5,c6,g6]
    refine zg (fun b8=>?_) (fun b8=>?_)
    ·replace h:=zd h b8
     obtain⟨fus9,h⟩:=zbm h
     unfold fuel at fus9
     try simp -implicitDefEqProofs only[go_sem,b3,b4,his5,hws5,c6,g6,b8]
     refine zbe (fun x:(Nat×(Unit))×(Unit)=>envL [(1,.p (.lst (a1.map zbn))),(2,.ptr 2 0),(7,.p (.val (.int .i64 ((i5:Nat):Int)))),(8,.p (.lst (r7.1.map encI))),(11,.p (.val (.int .i64 ((x.1.1:Nat):Int))))]) (fun x=>heapL [(2,.box [.p (.lst (a0.nodes.map encNode)),.p (.lst (a0.edges.map encEdgeT))])]) () h (weakL (by simp -implicitDefEqProofs only[go_sem,b3,b4,his5,hws5,c6,g6,b8]<;>((repeat' apply And.intro)<;>rfl))) ?_ ?_
     ·intro i9 s9 g9 nxts9 Rs9 his9 hNs9 h
      have hws9:=zt (k:=i9) his9 (by omega)
      try dsimp only at h
      try simp -implicitDefEqProofs only[go_sem,b3,b4,his5,hws5,c6,g6,b8,his9,hws9]
      refine zbl [.q,.q,.q,.q,.q,.q,.q,.q,.q,.q,.q,.q,.q,.q,.q,.q,.q,.q,.q,.q] (by kernel_rfl) ?_
      obtain⟨e10,c10,g10,q10,h⟩:=zbu encI h
      obtain⟨e11,c11a,c11b,g11,q11,h⟩:=zb9 encI h
      have c11n:=zbr c11a c11b
      obtain⟨r12,hr12,h⟩:=zl h
      try simp -implicitDefEqProofs only[go_sem,b3,b4,his5,hws5,c6,g6,b8,his9,hws9,c10,g10,c11a,c11b,c11n,g11]
      refine calldG (show zh _ _ _ (fun v=>v = .tup [.lst (r12.1.map encI),.val (.int .i64 r12.2)]) from (zm7 a0 e11 r12 hr12).toV1) (by simp -implicitDefEqProofs only[go_sem,b3,b4,his5,hws5,c6,g6,b8,his9,hws9,c10,g10,c11a,c11b,c11n,g11]<;>rfl) (zb _) (by first | exact pers | exact scal rfl) ?_
      try simp -implicitDefEqProofs only[go_sem,b3,b4,his5,hws5,c6,g6,b8,his9,hws9,c10,g10,c11a,c11b,c11n,g11]
      refine zc (fun b13=>?_) (fun b13=>?_)
      ·replace h:=zd h b13
       cases h
       try simp -implicitDefEqProofs only[go_sem,b3,b4,his5,hws5,c6,g6,b8,his9,hws9,c10,g10,c11a,c11b,c11n,g11,b13]
       all_goals((repeat' apply And.intro)<;>rfl)
      ·replace h:=ze h b13
       try simp -implicitDefEqProofs only[go_sem,b3,b4,his5,hws5,c6,g6,b8,his9,hws9,c10,g10,c11a,c11b,c11n,g11,b13]
       exact hNs9 () () h (weakL (by simp -implicitDefEqProofs only[go_sem,b3,b4,his5,hws5,c6,g6,b8,his9,hws9,c10,g10,c11a,c11b,c11n,g11,b13]<;>((repeat' apply And.intro)<;>rfl)))
     ·intro i9 s9 g9 Rs9 hes9 h
      have hns9:¬ (i9<r7.1.length):=by omega
      try dsimp only at h
      try simp -implicitDefEqProofs only[go_sem,b3,b4,his5,hws5,c6,g6,b8,hns9]
      exact hNs5 () () h (weakL (by simp -implicitDefEqProofs only[go_sem,b3,b4,his5,hws5,c6,g6,b8,hns9]<;>((repeat' apply And.intro)<;>rfl)))
    ·replace h:=ze h b8
     cases h
     try simp -implicitDefEqProofs only[go_sem,b3,b4,his5,hws5,c6,g6,b8]
     all_goals((repeat' apply And.intro)<;>rfl)
   ·intro i5 s5 g5 Rs5 hes5 h
    have hns5:¬ (i5<a1.length):=by omega
    try dsimp only at h
    cases h
    try simp -implicitDefEqProofs only[go_sem,b3,b4,hns5]
    all_goals((repeat' apply And.intro)<;>rfl)
 ·replace h:=ze h b3
  cases h
  try simp -implicitDefEqProofs only[go_sem,b3]
  all_goals((repeat' apply And.intro)<;>rfl)
theorem zue (a0:zk) (a1:zu) (r:(List Int)×(List Int)×Int) (h:zh4 a0 a1=some r):zbt Tryz.prog 84 [.agg [.lst (a0.nodes.map encNode),.lst (a0.edges.map encEdgeT)],.agg (zbn a1)] (fun v=>v = .tup [.row 3 1 (r.1.map encI),.row 3 1 (r.2.1.map encI),.p (.val (.int .i64 r.2.2))]):=by
 refine zbt.rle ?_
 refine zbw [] Ty.mixed Tryz.func84 rfl (by kernel_rfl) (by simp[Tryz.ntmps84]) ?_; rw[Tryz.ntmps84,Tryz.results84]
 unfold zh4 at h
 obtain⟨r2,hr2,h⟩:=zl h
 try simp -implicitDefEqProofs only[go_sem]
 refine callG (zqx a0 (⟨a1.name,a1.left,a1.right,a1.keep,a1.into,a1.injective,a1.condition⟩:zu) r2 hr2) (by simp -implicitDefEqProofs only[go_sem]<;>rfl) (zb _) (by first | exact pers | exact scal rfl) ?_
 try simp -implicitDefEqProofs only[go_sem]
 refine zg (fun b3=>?_) (fun b3=>?_)
 ·replace h:=zd h b3
  obtain⟨r4,hr4,h⟩:=zl h
  try simp -implicitDefEqProofs only[go_sem,b3]
  refine callfG 1288 (zu0 (⟨a1.name,a1.left,a1.right,a1.keep,a1.into,a1.injective,a1.condition⟩:zu) r4 hr4) (by simp -implicitDefEqProofs only[go_sem,b3]<;>rfl) (zb _) (by first | exact persF | exact flatF rfl | exact flatF (by simp[RV.flat,RV.flatL,PV.scalar,isVal,encI,encI])) (by simp -implicitDefEqProofs only[go_sem,b3]) ?_
  cases h
  try simp -implicitDefEqProofs only[go_sem,b3]
  refine⟨by decide,_,.refl _,?_⟩
  simp -implicitDefEqProofs only[go_sem,b3]<;>((repeat' apply And.intro)<;>rfl)
 ·replace h:=ze h b3
  cases h
  try simp -implicitDefEqProofs only[go_sem,b3]
  refine⟨by decide,_,.refl _,?_⟩
  simp -implicitDefEqProofs only[go_sem,b3]<;>((repeat' apply And.intro)<;>rfl)
theorem zum (a0:zk) (a1:zu) (r:(List Int)×(List Int)×Int) (h:zg5 a0 a1=some r):zbt Tryz.prog 87 [.agg [.lst (a0.nodes.map encNode),.lst (a0.edges.map encEdgeT)],.agg (zbn a1)] (fun v=>v = .tup [.row 3 1 (r.1.map encI),.row 3 1 (r.2.1.map encI),.p (.val (.int .i64 r.2.2))]):=by
 refine zbt.rle ?_
 refine zbw [] Ty.mixed Tryz.func87 rfl (by kernel_rfl) (by simp[Tryz.ntmps87]) ?_; rw[Tryz.ntmps87,Tryz.results87]
 unfold zg5 at h
 obtain⟨r2,hr2,h⟩:=zl h
 try simp -implicitDefEqProofs only[go_sem]
 refine callG (zqx a0 a1 r2 hr2) (by simp -implicitDefEqProofs only[go_sem]<;>rfl) (zb _) (by first | exact pers | exact scal rfl) ?_
 try simp -implicitDefEqProofs only[go_sem]
 refine zg (fun b3=>?_) (fun b3=>?_)
 ·replace h:=zd h b3
  obtain⟨r4,hr4,h⟩:=zl h
  try simp -implicitDefEqProofs only[go_sem,b3]
  refine callfG 1288 (zof a1 r4 hr4) (by simp -implicitDefEqProofs only[go_sem,b3]<;>rfl) (zb _) (by first | exact persF | exact flatF rfl | exact flatF (by simp[RV.flat,RV.flatL,PV.scalar,isVal,encI,encI])) (by simp -implicitDefEqProofs only[go_sem,b3]) ?_
  cases h
  try simp -implicitDefEqProofs only[go_sem,b3]
  refine⟨by decide,_,.refl _,?_⟩
  simp -implicitDefEqProofs only[go_sem,b3]<;>((repeat' apply And.intro)<;>rfl)
 ·replace h:=ze h b3
  cases h
  try simp -implicitDefEqProofs only[go_sem,b3]
  refine⟨by decide,_,.refl _,?_⟩
  simp -implicitDefEqProofs only[go_sem,b3]<;>((repeat' apply And.intro)<;>rfl)
theorem zmg (a0:zk) (a1:zu) (r:(List Int)) (h:zcr a0 a1=some r):zbt Tryz.prog 49 [.agg [.lst (a0.nodes.map encNode),.lst (a0.edges.map encEdgeT)],.agg (zbn a1)] (fun v=>v = .row 3 1 (r.map encI)):=by
 refine zbt.rle ?_
 refine zbw [] Ty.mixed Tryz.func49 rfl (by kernel_rfl) (by simp[Tryz.ntmps49]) ?_; rw[Tryz.ntmps49,Tryz.results49]
 unfold zcr at h
 obtain⟨r2,hr2,h⟩:=zl h
 try simp -implicitDefEqProofs only[go_sem]
 refine callfG 1176 (zme a0 a1 r2 hr2) (by simp -implicitDefEqProofs only[go_sem]<;>rfl) (zb _) (by first | exact persF | exact flatF rfl | exact flatF (by simp[RV.flat,RV.flatL,PV.scalar,isVal,encI,encI])) (by simp -implicitDefEqProofs only[go_sem]) ?_
 obtain⟨r3,hr3,h⟩:=zl h
 try simp -implicitDefEqProofs only[go_sem]
 refine callfG 1336 (zi8 a0 a1.right.graph r2.1 r2.2.1 r3 hr3) (by simp -implicitDefEqProofs only[go_sem]<;>rfl) (zb _) (by first | exact persF | exact flatF rfl | exact flatF (by simp[RV.flat,RV.flatL,PV.scalar,isVal,encI])) (by simp -implicitDefEqProofs only[go_sem]) ?_
 cases h
 try simp -implicitDefEqProofs only[go_sem]
 refine⟨by decide,_,.refl _,?_⟩
 simp -implicitDefEqProofs only[go_sem]<;>((repeat' apply And.intro)<;>rfl)
theorem zi0 (a0:zk) (a1:zu) (r:(List Int)) (h:zce a0 a1=some r):zbt Tryz.prog 35 [.agg [.lst (a0.nodes.map encNode),.lst (a0.edges.map encEdgeT)],.agg (zbn a1)] (fun v=>v = .row 3 1 (r.map encI)):=by
 refine zbt.rle ?_
 refine zbw [] Ty.mixed Tryz.func35 rfl (by kernel_rfl) (by simp[Tryz.ntmps35]) ?_; rw[Tryz.ntmps35,Tryz.results35]
 unfold zce at h
 obtain⟨r2,hr2,h⟩:=zl h
 try simp -implicitDefEqProofs only[go_sem]
 refine callfG 1176 (zi1 a0 a1 r2 hr2) (by simp -implicitDefEqProofs only[go_sem]<;>rfl) (zb _) (by first | exact persF | exact flatF rfl | exact flatF (by simp[RV.flat,RV.flatL,PV.scalar,isVal,encI,encI])) (by simp -implicitDefEqProofs only[go_sem]) ?_
 obtain⟨r3,hr3,h⟩:=zl h
 try simp -implicitDefEqProofs only[go_sem]
 refine callfG 1336 (zi8 a0 a1.left.graph r2.1 r2.2.1 r3 hr3) (by simp -implicitDefEqProofs only[go_sem]<;>rfl) (zb _) (by first | exact persF | exact flatF rfl | exact flatF (by simp[RV.flat,RV.flatL,PV.scalar,isVal,encI])) (by simp -implicitDefEqProofs only[go_sem]) ?_
 cases h
 try simp -implicitDefEqProofs only[go_sem]
 refine⟨by decide,_,.refl _,?_⟩
 simp -implicitDefEqProofs only[go_sem]<;>((repeat' apply And.intro)<;>rfl)
end
end Go.Proofs.YthjgdkloabgcoaaGreat
set_option maxRecDepth 20000
namespace Go.Proofs.YthjgdkloabgcoaaGreat
open Go.Abs


noncomputable section
theorem zl9 (a0:zk) (a1:List zu) (r:(List zq)) (h:zee a0 a1=some r):zbt Tryz.prog 36 [.agg [.lst (a0.nodes.map encNode),.lst (a0.edges.map encEdgeT)],.lst (a1.map zbn)] (fun v=>v = .row 52 4 (r.map zm)):=by
 refine zbt.rle ?_
 refine zbw [53] Ty.mixed Tryz.func36 rfl (by kernel_rfl) (by simp[Tryz.ntmps36]) ?_; rw[Tryz.ntmps36,Tryz.results36]
 unfold zee at h
 obtain⟨fus2,h⟩:=zbm h
 unfold fuel at fus2
 try simp -implicitDefEqProofs only[go_sem]
 refine zbe (fun x:(Nat×((List zq)))×(Nat)=>envL [(1,.p (.lst (a1.map zbn))),(2,.ptr 2 0),(5,.row 6072 x.2),(6,.p (.val (.int .i64 ((x.1.1:Nat):Int))))]) (fun x=>heapL [(2,.box [.p (.lst (a0.nodes.map encNode)),.p (.lst (a0.edges.map encEdgeT))]),(6072,.row x.2 52 4 (x.1.2.map zm))]) 0 h (by refine Weak.trans (zhr 5 6072 52 4 rfl rfl (by decide)) ?_; exact (weakL (by simp -implicitDefEqProofs only[go_sem]<;>((repeat' apply And.intro)<;>rfl)))) ?_ ?_
 ·intro i2 s2 g2 nxts2 Rs2 his2 hNs2 h
  have hws2:=zt (k:=i2) his2 (by omega)
  try dsimp only at h
  try simp -implicitDefEqProofs only[go_sem,his2,hws2]
  refine zbl [.q,.q,.q,.q,.q,.q,.q,.q,.q,.q,.q,.q,.q,.q] (by kernel_rfl) ?_
  obtain⟨e3,c3,g3,q3,h⟩:=zbu zbn h
  obtain⟨r4,hr4,h⟩:=zl h
  try simp -implicitDefEqProofs only[go_sem,his2,hws2,c3,g3]
  refine calldG (show zh _ _ _ (fun v=>v = .lst (r4.map encI)) from (zi0 a0 e3 r4 hr4).toV1) (by simp -implicitDefEqProofs only[go_sem,his2,hws2,c3,g3]<;>rfl) (zb _) (by first | exact pers | exact scal rfl) ?_
  obtain⟨r5,hr5,h⟩:=zl h
  try simp -implicitDefEqProofs only[go_sem,his2,hws2,c3,g3]
  refine calldG (show zh _ _ _ (fun v=>v = .lst (r5.map encI)) from (zmg a0 e3 r5 hr5).toV1) (by simp -implicitDefEqProofs only[go_sem,his2,hws2,c3,g3]<;>rfl) (zb _) (by first | exact pers | exact scal rfl) ?_
  obtain⟨fus6,h⟩:=zbm h
  unfold fuel at fus6
  try simp -implicitDefEqProofs only[go_sem,his2,hws2,c3,g3]
  refine zbe (fun x:(Nat×((List zq)))×(Nat)=>envL [(1,.p (.lst (a1.map zbn))),(2,.ptr 2 0),(5,.row 6072 x.2),(6,.p (.val (.int .i64 ((i2:Nat):Int)))),(7,.p (.lst (r4.map encI))),(8,.p (.lst (r5.map encI))),(9,.p (.val (.int .i64 ((x.1.1:Nat):Int))))]) (fun x=>heapL [(2,.box [.p (.lst (a0.nodes.map encNode)),.p (.lst (a0.edges.map encEdgeT))]),(6072,.row x.2 52 4 (x.1.2.map zm))]) g2 h (weakL (by simp -implicitDefEqProofs only[go_sem,his2,hws2,c3,g3]<;>((repeat' apply And.intro)<;>rfl))) ?_ ?_
  ·intro i6 s6 g6 nxts6 Rs6 his6 hNs6 h
   have hws6:=zt (k:=i6) his6 (by omega)
   try dsimp only at h
   obtain⟨fus7,h⟩:=zbm h
   unfold fuel at fus7
   try simp -implicitDefEqProofs only[go_sem,his2,hws2,c3,g3,his6,hws6]
   refine zbe (fun x:(Nat×((List zq)))×(Nat)=>envL [(1,.p (.lst (a1.map zbn))),(2,.ptr 2 0),(5,.row 6072 x.2),(6,.p (.val (.int .i64 ((i2:Nat):Int)))),(7,.p (.lst (r4.map encI))),(8,.p (.lst (r5.map encI))),(9,.p (.val (.int .i64 ((i6:Nat):Int)))),(10,.p (.val (.int .i64 ((x.1.1:Nat):Int))))]) (fun x=>heapL [(2,.box [.p (.lst (a0.nodes.map encNode)),.p (.lst (a0.edges.map encEdgeT))]),(6072,.row x.2 52 4 (x.1.2.map zm))]) g6 h (weakL (by simp -implicitDefEqProofs only[go_sem,his2,hws2,c3,g3,his6,hws6]<;>((repeat' apply And.intro)<;>rfl))) ?_ ?_
   ·intro i7 s7 g7 nxts7 Rs7 his7 hNs7 h
    have hws7:=zt (k:=i7) his7 (by omega)
    try dsimp only at h
    try simp -implicitDefEqProofs only[go_sem,his2,hws2,c3,g3,his6,hws6,his7,hws7]
    refine zbl [.p,.q,.q,.q,.q,.q,.q,.q,.q,.q,.q,.p,.w,.q] (by kernel_rfl) ?_
    obtain⟨e8,c8,g8,q8,h⟩:=zbu encI h
    obtain⟨e9,c9,g9,q9,h⟩:=zbu encI h
    obtain⟨c10,h⟩:=zbm h
    have k11:=eq_true (show (s7.length+1) * 32≤140737488355328 by omega)
    have a12:=zfb zm s7 [(⟨((i2:Nat):Int),e8,e9,1⟩:zq)] (c:=[[.val (.int .i64 ((i2:Nat):Int)),.val (.int .i64 e8),.val (.int .i64 e9),.val (.int .i64 1)]]) rfl
    try simp -implicitDefEqProofs only[go_sem,his2,hws2,c3,g3,his6,hws6,his7,hws7,c8,g8,c9,g9,c10,k11,a12]
    exact hNs7 (s7++[(⟨((i2:Nat):Int),e8,e9,1⟩:zq)]) (g7+1) h (weakL (by simp -implicitDefEqProofs only[go_sem,his2,hws2,c3,g3,his6,hws6,his7,hws7,c8,g8,c9,g9,c10,k11,a12]<;>((repeat' apply And.intro)<;>rfl)))
   ·intro i7 s7 g7 Rs7 hes7 h
    have hns7:¬ (i7<r5.length):=by omega
    try dsimp only at h
    try simp -implicitDefEqProofs only[go_sem,his2,hws2,c3,g3,his6,hws6,hns7]
    exact hNs6 s7 g7 h (weakL (by simp -implicitDefEqProofs only[go_sem,his2,hws2,c3,g3,his6,hws6,hns7]<;>((repeat' apply And.intro)<;>rfl)))
  ·intro i6 s6 g6 Rs6 hes6 h
   have hns6:¬ (i6<r4.length):=by omega
   try dsimp only at h
   try simp -implicitDefEqProofs only[go_sem,his2,hws2,c3,g3,hns6]
   exact hNs2 s6 g6 h (weakL (by simp -implicitDefEqProofs only[go_sem,his2,hws2,c3,g3,hns6]<;>((repeat' apply And.intro)<;>rfl)))
 ·intro i2 s2 g2 Rs2 hes2 h
  have hns2:¬ (i2<a1.length):=by omega
  try dsimp only at h
  cases h
  try simp -implicitDefEqProofs only[go_sem,hns2]
  refine⟨by decide,_,.refl _,?_⟩
  simp -implicitDefEqProofs only[go_sem,hns2]<;>((repeat' apply And.intro)<;>rfl)
theorem zwp (a0:zk) (a1:zu) (r:zo×Int) (h:zin a0 a1=some r):zbt Tryz.prog 59 [.agg [.lst (a0.nodes.map encNode),.lst (a0.edges.map encEdgeT)],.agg (zbn a1)] (fun v=>v = .tup [.agg [.row 3 1 (r.1.deletes.map encI),.row 3 1 (r.1.creates.map encI)],.p (.val (.int .i64 r.2))]):=by
 refine zbt.rle ?_
 refine zbw [] Ty.mixed Tryz.func59 rfl (by kernel_rfl) (by simp[Tryz.ntmps59]) ?_; rw[Tryz.ntmps59,Tryz.results59]
 unfold zin at h
 obtain⟨r2,hr2,h⟩:=zl h
 try simp -implicitDefEqProofs only[go_sem]
 refine callfG 1272 (zue a0 a1 r2 hr2) (by simp -implicitDefEqProofs only[go_sem]<;>rfl) (zb _) (by first | exact persF | exact flatF rfl | exact flatF (by simp[RV.flat,RV.flatL,PV.scalar,isVal,encI,encI])) (by simp -implicitDefEqProofs only[go_sem]) ?_
 try simp -implicitDefEqProofs only[go_sem]
 refine zg (fun b3=>?_) (fun b3=>?_)
 ·replace h:=zd h b3
  obtain⟨fus4,h⟩:=zbm h
  unfold fuel at fus4
  try simp -implicitDefEqProofs only[go_sem,b3]
  refine zbe (fun x:(Nat×(Unit))×(Unit)=>envL [(2,.ptr 2 0),(3,.ptr 3 0),(4,.ptr 4 0),(6,.row 1272 0),(7,.row 1273 0),(25,.row 1272 0),(26,.p (.val (.int .i64 ((r2.1.length:Nat):Int)))),(27,.p (.val (.int .i64 ((x.1.1:Nat):Int))))]) (fun x=>heapL [(2,.box [.p (.lst (a0.nodes.map encNode)),.p (.lst (a0.edges.map encEdgeT))]),(3,.box ((zbn a1).map .p)),(4,.box [.p (.val (.slice none 0 0)),.p (.val (.slice none 0 0))]),(1272,.row 0 3 1 (r2.1.map encI)),(1273,.row 0 3 1 (r2.2.1.map encI))]) () h (weakL (by simp -implicitDefEqProofs only[go_sem,b3]<;>((repeat' apply And.intro)<;>rfl))) ?_ ?_
  ·intro i4 s4 g4 nxts4 Rs4 his4 hNs4 h
   have hws4:=zt (k:=i4) his4 (by omega)
   try dsimp only at h
   obtain⟨e5,c5,g5,q5,h⟩:=zbu encI h
   obtain⟨r6,hr6,h⟩:=zl h
   try simp -implicitDefEqProofs only[go_sem,b3,his4,hws4,c5,g5]
   refine callG (zkj a0.nodes (fun x7=>zhj x7 a1 e5) 86 [] [.eptr (zbn a1) 0,.eptr [.val (.int .i64 e5)] 0] (fun x7 r h=>zta x7 a1 e5 r h) r6 hr6) (by simp -implicitDefEqProofs only[go_sem,b3,his4,hws4,c5,g5]<;>rfl) (zb _) (by first | exact pers | exact scal rfl) ?_
   try simp -implicitDefEqProofs only[go_sem,b3,his4,hws4,c5,g5]
   refine zc (fun b8=>?_) (fun b8=>?_)
   ·replace h:=zd h b8
    cases h
    try simp -implicitDefEqProofs only[go_sem,b3,his4,hws4,c5,g5,b8]
    refine⟨by decide,_,.refl _,?_⟩
    simp -implicitDefEqProofs only[go_sem,b3,his4,hws4,c5,g5,b8]<;>((repeat' apply And.intro)<;>rfl)
   ·replace h:=ze h b8
    try simp -implicitDefEqProofs only[go_sem,b3,his4,hws4,c5,g5,b8]
    exact hNs4 () () h (weakL (by simp -implicitDefEqProofs only[go_sem,b3,his4,hws4,c5,g5,b8]<;>((repeat' apply And.intro)<;>rfl)))
  ·intro i4 s4 g4 Rs4 hes4 h
   have hns4:¬ (i4<r2.1.length):=by omega
   try dsimp only at h
   obtain⟨r9,hr9,h⟩:=zl h
   try simp -implicitDefEqProofs only[go_sem,b3,hns4]
   refine callfG 1640 (zum a0 a1 r9 hr9) (by simp -implicitDefEqProofs only[go_sem,b3,hns4]<;>rfl) (zb _) (by first | exact persF | exact flatF rfl | exact flatF (by simp[RV.flat,RV.flatL,PV.scalar,isVal,encI,encI])) (by simp -implicitDefEqProofs only[go_sem,b3,hns4]) ?_
   try simp -implicitDefEqProofs only[go_sem,b3,hns4]
   refine zib 1272 0 3 1 (r2.1.map encI) [6] (by simp -implicitDefEqProofs only[go_sem,b3,hns4]<;>rfl) (by simp -implicitDefEqProofs only[go_sem,b3,hns4]<;>((repeat' apply And.intro)<;>rfl)) (by decide) ?_
   refine zib 1273 0 3 1 (r2.2.1.map encI) [7] (by simp -implicitDefEqProofs only[go_sem,b3,hns4]<;>rfl) (by simp -implicitDefEqProofs only[go_sem,b3,hns4]<;>((repeat' apply And.intro)<;>rfl)) (by decide) ?_
   refine zib 1640 0 3 1 (r9.1.map encI) [11] (by simp -implicitDefEqProofs only[go_sem,b3,hns4]<;>rfl) (by simp -implicitDefEqProofs only[go_sem,b3,hns4]<;>((repeat' apply And.intro)<;>rfl)) (by decide) ?_
   refine zib 1641 0 3 1 (r9.2.1.map encI) [12] (by simp -implicitDefEqProofs only[go_sem,b3,hns4]<;>rfl) (by simp -implicitDefEqProofs only[go_sem,b3,hns4]<;>((repeat' apply And.intro)<;>rfl)) (by decide) ?_
   refine zf2 [(0,.q),(1,.q),(2,.q),(3,.q),(4,.q),(5,.q),(7,.q),(8,.q),(9,.q),(10,.q),(6,.f),(11,.q),(12,.q),(13,.f),(14,.q),(15,.w),(16,.q)] (by kernel_rfl) ?_
   obtain⟨r10,hr10,h⟩:=zl h
   try simp -implicitDefEqProofs only[go_sem,b3,hns4]
   refine calldfG 1800 (zl3 a0 a1.left.graph r2.1 r2.2.1 r10 hr10) (by simp -implicitDefEqProofs only[go_sem,b3,hns4]<;>rfl) (zb _) (by first | exact persF | exact flatF rfl | exact flatF (by simp[RV.flat,RV.flatL,PV.scalar,isVal,encI])) (by simp -implicitDefEqProofs only[go_sem,b3,hns4]) (by simp -implicitDefEqProofs only[go_sem,b3,hns4]) ?_
   obtain⟨r11,hr11,h⟩:=zl h
   try simp -implicitDefEqProofs only[go_sem,b3,hns4]
   refine calldfG 1912 (zl3 a0 a1.right.graph r9.1 r9.2.1 r11 hr11) (by simp -implicitDefEqProofs only[go_sem,b3,hns4]<;>rfl) (zb _) (by first | exact persF | exact flatF rfl | exact flatF (by simp[RV.flat,RV.flatL,PV.scalar,isVal,encI])) (by simp -implicitDefEqProofs only[go_sem,b3,hns4]) (by simp -implicitDefEqProofs only[go_sem,b3,hns4]) ?_
   cases h
   try simp -implicitDefEqProofs only[go_sem,b3,hns4]
   refine⟨by decide,_,.refl _,?_⟩
   simp -implicitDefEqProofs only[go_sem,b3,hns4]<;>((repeat' apply And.intro)<;>rfl)
 ·replace h:=ze h b3
  cases h
  try simp -implicitDefEqProofs only[go_sem,b3]
  refine⟨by decide,_,.refl _,?_⟩
  simp -implicitDefEqProofs only[go_sem,b3]<;>((repeat' apply And.intro)<;>rfl)
theorem zkv (a0:zk) (a1:List zu) (a2:List zq) (r:Bool) (h:zdp a0 a1 a2=some r):zh Tryz.prog 17 [.agg [.lst (a0.nodes.map encNode),.lst (a0.edges.map encEdgeT)],.lst (a1.map zbn),.lst (a2.map zm)] (fun v=>v = .val (.bool r)):=by
 refine zh.ple ?_
 refine zf [] Ty.mixed Tryz.func17 rfl (by kernel_rfl) (by simp[Tryz.ntmps17]) ?_; rw[Tryz.ntmps17,Tryz.results17]
 unfold zdp at h
 obtain⟨r3,hr3,h⟩:=zl h
 try simp -implicitDefEqProofs only[go_sem]
 refine callG (zm1 a0 a1 r3 hr3) (by simp -implicitDefEqProofs only[go_sem]<;>rfl) (zb _) (by first | exact pers | exact scal rfl) ?_
 try simp -implicitDefEqProofs only[go_sem]
 refine zn (fun b4=>?_) (fun b4=>?_)
 ·replace h:=zd h b4
  try simp -implicitDefEqProofs only[go_sem,b4]
  refine zv (fun b5=>?_) (fun b5=>?_)
  ·replace h:=zd h b5
   cases h
   try simp -implicitDefEqProofs only[go_sem,b4,b5]
   all_goals((repeat' apply And.intro)<;>rfl)
  ·replace h:=ze h b5
   try simp -implicitDefEqProofs only[go_sem,b4,b5]
   refine zc (fun b6=>?_) (fun b6=>?_)
   ·replace h:=zd h b6
    cases h
    try simp -implicitDefEqProofs only[go_sem,b4,b5,b6]
    all_goals((repeat' apply And.intro)<;>rfl)
   ·replace h:=ze h b6
    obtain⟨e7,c7,g7,q7,h⟩:=zbu zm h
    have c7i:(0:Int)<((a2.length:Nat):Int):=by omega
    have c7j:(0:Int)≤0:=by decide
    try simp -implicitDefEqProofs only[go_sem,b4,b5,b6,c7,c7i,c7j,g7]
    refine zc (fun b8=>?_) (fun b8=>?_)
    ·replace h:=zd h b8
     try simp -implicitDefEqProofs only[go_sem,b4,b5,b6,c7,c7i,c7j,g7,b8]
     refine zbl [.q,.q,.q,.q,.q,.q,.q,.q,.q,.q,.q,.q,.q,.q,.q,.q,.q,.q,.q,.q,.q,.q,.q,.q,.q,.q,.q,.q,.q,.q,.q,.q,.q,.q,.q,.q,.q] (by kernel_rfl) ?_
     try simp -implicitDefEqProofs only[go_sem,b4,b5,b6,c7,c7i,c7j,g7,b8]
     refine zch (fun b9=>?_) (fun b9=>?_)
     ·replace h:=zd h b9
      try simp -implicitDefEqProofs only[go_sem,b4,b5,b6,c7,c7i,c7j,g7,b8,b9]
      refine zch (fun b10=>?_) (fun b10=>?_)
      ·replace h:=zd h b10
       try simp -implicitDefEqProofs only[go_sem,b4,b5,b6,c7,c7i,c7j,g7,b8,b9,b10]
       refine zch (fun b11=>?_) (fun b11=>?_)
       ·replace h:=zd h b11
        try simp -implicitDefEqProofs only[go_sem,b4,b5,b6,c7,c7i,c7j,g7,b8,b9,b10,b11]
        refine zch (fun b12=>?_) (fun b12=>?_)
        ·replace h:=zd h b12
         try simp -implicitDefEqProofs only[go_sem,b4,b5,b6,c7,c7i,c7j,g7,b8,b9,b10,b11,b12]
         refine zch (fun b13=>?_) (fun b13=>?_)
         ·replace h:=zd h b13
          obtain⟨e14,c14a,c14b,g14,q14,h⟩:=zb9 zbn h
          have c14n:=zbr c14a c14b
          obtain⟨r15,hr15,h⟩:=zl h
          try simp -implicitDefEqProofs only[go_sem,b4,b5,b6,c7,c7i,c7j,g7,b8,b9,b10,b11,b12,b13,c14a,c14b,c14n,g14]
          refine calldG (show zh _ _ _ (fun v=>v = .lst (r15.map encI)) from (zi0 a0 e14 r15 hr15).toV1) (by simp -implicitDefEqProofs only[go_sem,b4,b5,b6,c7,c7i,c7j,g7,b8,b9,b10,b11,b12,b13,c14a,c14b,c14n,g14]<;>rfl) (zb _) (by first | exact pers | exact scal rfl) ?_
          cases h
          try simp -implicitDefEqProofs only[go_sem,b4,b5,b6,c7,c7i,c7j,g7,b8,b9,b10,b11,b12,b13,c14a,c14b,c14n,g14]
          all_goals((repeat' apply And.intro)<;>rfl)
         ·replace h:=ze h b13
          cases h
          try simp -implicitDefEqProofs only[go_sem,b4,b5,b6,c7,c7i,c7j,g7,b8,b9,b10,b11,b12,b13]
          all_goals((repeat' apply And.intro)<;>rfl)
        ·replace h:=ze h b12
         cases h
         try simp -implicitDefEqProofs only[go_sem,b4,b5,b6,c7,c7i,c7j,g7,b8,b9,b10,b11,b12]
         all_goals((repeat' apply And.intro)<;>rfl)
       ·replace h:=ze h b11
        cases h
        try simp -implicitDefEqProofs only[go_sem,b4,b5,b6,c7,c7i,c7j,g7,b8,b9,b10,b11]
        all_goals((repeat' apply And.intro)<;>rfl)
      ·replace h:=ze h b10
       cases h
       try simp -implicitDefEqProofs only[go_sem,b4,b5,b6,c7,c7i,c7j,g7,b8,b9,b10]
       all_goals((repeat' apply And.intro)<;>rfl)
     ·replace h:=ze h b9
      cases h
      try simp -implicitDefEqProofs only[go_sem,b4,b5,b6,c7,c7i,c7j,g7,b8,b9]
      all_goals((repeat' apply And.intro)<;>rfl)
    ·replace h:=ze h b8
     obtain⟨r16,hr16,h⟩:=zl h
     try simp -implicitDefEqProofs only[go_sem,b4,b5,b6,c7,c7i,c7j,g7,b8]
     refine callfG 2136 (zl9 a0 a1 r16 hr16) (by simp -implicitDefEqProofs only[go_sem,b4,b5,b6,c7,c7i,c7j,g7,b8]<;>rfl) (zb _) (by first | exact persF | exact flatF rfl | exact flatF (by simp[RV.flat,RV.flatL,PV.scalar,isVal,zm])) (by simp -implicitDefEqProofs only[go_sem,b4,b5,b6,c7,c7i,c7j,g7,b8]) ?_
     obtain⟨e17,c17a,c17b,g17,q17,h⟩:=zb9 zm h
     have c17n:=zbr c17a c17b
     obtain⟨fus18,h⟩:=zbm h
     unfold fuel at fus18
     try simp -implicitDefEqProofs only[go_sem,b4,b5,b6,c7,c7i,c7j,g7,b8,c17a,c17b,c17n,g17]
     refine zbe (fun x:(Nat×(Int×Int×Int×Int))×(Unit)=>envL [(2,.p (.lst (a2.map zm))),(8,.row 2136 0),(9,.ptr 9 0),(10,.p (.val (.int .i64 ((x.1.1:Nat):Int))))]) (fun x=>heapL [(2136,.row 0 52 4 (r16.map zm)),(9,.box [.p (.val (.int .i64 x.1.2.1)),.p (.val (.int .i64 x.1.2.2.1)),.p (.val (.int .i64 x.1.2.2.2.1)),.p (.val (.int .i64 x.1.2.2.2.2))])]) () h (weakL (by simp -implicitDefEqProofs only[go_sem,b4,b5,b6,c7,c7i,c7j,g7,b8,c17a,c17b,c17n,g17]<;>((repeat' apply And.intro)<;>rfl))) ?_ ?_
     ·intro i18 s18 g18 nxts18 Rs18 his18 hNs18 h
      have hws18:=zt (k:=i18) his18 (by omega)
      try dsimp only at h
      obtain⟨fus19,h⟩:=zbm h
      unfold fuel at fus19
      try simp -implicitDefEqProofs only[go_sem,b4,b5,b6,c7,c7i,c7j,g7,b8,c17a,c17b,c17n,g17,his18,hws18]
      refine zbe (fun x:(Nat×(Bool))×(Unit)=>envL [(2,.p (.lst (a2.map zm))),(8,.row 2136 0),(9,.ptr 9 0),(10,.p (.val (.int .i64 ((i18:Nat):Int)))),(11,.p (.val (.bool x.1.2))),(12,.p (.val (.int .i64 ((x.1.1:Nat):Int))))]) (fun x=>heapL [(2136,.row 0 52 4 (r16.map zm)),(9,.box [.p (.val (.int .i64 s18.1)),.p (.val (.int .i64 s18.2.1)),.p (.val (.int .i64 s18.2.2.1)),.p (.val (.int .i64 s18.2.2.2))])]) () h (weakL (by simp -implicitDefEqProofs only[go_sem,b4,b5,b6,c7,c7i,c7j,g7,b8,c17a,c17b,c17n,g17,his18,hws18]<;>((repeat' apply And.intro)<;>rfl))) ?_ ?_
      ·intro i19 s19 g19 nxts19 Rs19 his19 hNs19 h
       have hws19:=zt (k:=i19) his19 (by omega)
       try dsimp only at h
       try simp -implicitDefEqProofs only[go_sem,b4,b5,b6,c7,c7i,c7j,g7,b8,c17a,c17b,c17n,g17,his18,hws18,his19,hws19]
       refine zbl [.q,.q,.q,.q,.q,.q,.q,.q,.q,.q,.q,.q,.q] (by kernel_rfl) ?_
       try simp -implicitDefEqProofs only[go_sem,b4,b5,b6,c7,c7i,c7j,g7,b8,c17a,c17b,c17n,g17,his18,hws18,his19,hws19]
       refine zeq (fun b20=>?_) (fun b20=>?_)
       ·replace h:=zd h b20
        try simp -implicitDefEqProofs only[go_sem,b4,b5,b6,c7,c7i,c7j,g7,b8,c17a,c17b,c17n,g17,his18,hws18,his19,hws19,b20]
        exact hNs19 true () h (weakL (by simp -implicitDefEqProofs only[go_sem,b4,b5,b6,c7,c7i,c7j,g7,b8,c17a,c17b,c17n,g17,his18,hws18,his19,hws19,b20]<;>((repeat' apply And.intro)<;>rfl)))
       ·replace h:=ze h b20
        obtain⟨e21,c21,g21,q21,h⟩:=zbu zm h
        obtain⟨e22,c22,g22,q22,h⟩:=zbu zm h
        try simp -implicitDefEqProofs only[go_sem,b4,b5,b6,c7,c7i,c7j,g7,b8,c17a,c17b,c17n,g17,his18,hws18,his19,hws19,b20,c21,g21,c22,g22]
        exact hNs19 (decide (e21.rule=e22.rule)&&(decide (e21.src=e22.src)&&(decide (e21.dst=e22.dst)&&decide (e21.strict=e22.strict)))) () h (weakL (by simp -implicitDefEqProofs only[go_sem,b4,b5,b6,c7,c7i,c7j,g7,b8,c17a,c17b,c17n,g17,his18,hws18,his19,hws19,b20,c21,g21,c22,g22]<;>((repeat' apply And.intro)<;>rfl)))
      ·intro i19 s19 g19 Rs19 hes19 h
       have hns19:¬ (i19<r16.length):=by omega
       try dsimp only at h
       try simp -implicitDefEqProofs only[go_sem,b4,b5,b6,c7,c7i,c7j,g7,b8,c17a,c17b,c17n,g17,his18,hws18,hns19]
       refine zbl [.q,.q,.q,.q,.q,.q,.q,.q,.q,.q,.q,.q] (by kernel_rfl) ?_
       try simp -implicitDefEqProofs only[go_sem,b4,b5,b6,c7,c7i,c7j,g7,b8,c17a,c17b,c17n,g17,his18,hws18,hns19]
       refine zch (fun b23=>?_) (fun b23=>?_)
       ·replace h:=zd h b23
        obtain⟨e24,c24,g24,q24,h⟩:=zbu zm h
        try simp -implicitDefEqProofs only[go_sem,b4,b5,b6,c7,c7i,c7j,g7,b8,c17a,c17b,c17n,g17,his18,hws18,hns19,b23,c24,g24]
        refine zg (fun b25=>?_) (fun b25=>?_)
        ·replace h:=zd h b25
         try simp -implicitDefEqProofs only[go_sem,b4,b5,b6,c7,c7i,c7j,g7,b8,c17a,c17b,c17n,g17,his18,hws18,hns19,b23,c24,g24,b25]
         exact hNs18 (e24.rule,e24.src,e24.dst,e24.strict) () h (weakL (by simp -implicitDefEqProofs only[go_sem,b4,b5,b6,c7,c7i,c7j,g7,b8,c17a,c17b,c17n,g17,his18,hws18,hns19,b23,c24,g24,b25]<;>((repeat' apply And.intro)<;>rfl)))
        ·replace h:=ze h b25
         cases h
         try simp -implicitDefEqProofs only[go_sem,b4,b5,b6,c7,c7i,c7j,g7,b8,c17a,c17b,c17n,g17,his18,hws18,hns19,b23,c24,g24,b25]
         all_goals((repeat' apply And.intro)<;>rfl)
       ·replace h:=ze h b23
        cases h
        try simp -implicitDefEqProofs only[go_sem,b4,b5,b6,c7,c7i,c7j,g7,b8,c17a,c17b,c17n,g17,his18,hws18,hns19,b23]
        all_goals((repeat' apply And.intro)<;>rfl)
     ·intro i18 s18 g18 Rs18 hes18 h
      have hns18:¬ (i18<a2.length):=by omega
      try dsimp only at h
      cases h
      try simp -implicitDefEqProofs only[go_sem,b4,b5,b6,c7,c7i,c7j,g7,b8,c17a,c17b,c17n,g17,hns18]
      all_goals((repeat' apply And.intro)<;>rfl)
 ·replace h:=ze h b4
  cases h
  try simp -implicitDefEqProofs only[go_sem,b4]
  all_goals((repeat' apply And.intro)<;>rfl)
end
end Go.Proofs.YthjgdkloabgcoaaGreat
set_option maxRecDepth 20000
namespace Go.Proofs.YthjgdkloabgcoaaGreat
open Go.Abs


noncomputable section
theorem zj4 (a0:zk) (a1:List zu) (r:(List zo)×Int) (h:zfc a0 a1=some r):zbt Tryz.prog 29 [.agg [.lst (a0.nodes.map encNode),.lst (a0.edges.map encEdgeT)],.lst (a1.map zbn)] (fun v=>v = .tup [.row 85 2 (r.1.map zbd),.p (.val (.int .i64 r.2))]):=by
 refine zbt.rle ?_
 refine zbw [42] Ty.mixed Tryz.func29 rfl (by kernel_rfl) (by simp[Tryz.ntmps29]) ?_; rw[Tryz.ntmps29,Tryz.results29]
 unfold zfc at h
 obtain⟨r2,hr2,h⟩:=zl h
 try simp -implicitDefEqProofs only[go_sem]
 refine callG (zlw a0 r2 hr2) (by simp -implicitDefEqProofs only[go_sem]<;>rfl) (zb _) (by first | exact pers | exact scal rfl) ?_
 try simp -implicitDefEqProofs only[go_sem]
 refine zg (fun b3=>?_) (fun b3=>?_)
 ·replace h:=zd h b3
  try simp -implicitDefEqProofs only[go_sem,b3]
  refine zc (fun b4=>?_) (fun b4=>?_)
  ·replace h:=zd h b4
   cases h
   try simp -implicitDefEqProofs only[go_sem,b3,b4]
   refine⟨by decide,_,.refl _,?_⟩
   simp -implicitDefEqProofs only[go_sem,b3,b4]<;>((repeat' apply And.intro)<;>rfl)
  ·replace h:=ze h b4
   obtain⟨fus5,h⟩:=zbm h
   unfold fuel at fus5
   try simp -implicitDefEqProofs only[go_sem,b3,b4]
   refine zbe (fun x:(Nat×((List zo)))×(Nat)=>envL [(2,.ptr 2 0),(8,.row 2980 x.2),(24,.p (.lst (a1.map zbn))),(25,.p (.val (.int .i64 ((a1.length:Nat):Int)))),(26,.p (.val (.int .i64 ((x.1.1:Nat):Int))))]) (fun x=>heapL [(2,.box [.p (.lst (a0.nodes.map encNode)),.p (.lst (a0.edges.map encEdgeT))]),(2980,.row x.2 85 2 (x.1.2.map zbd))]) 0 h (by refine Weak.trans (zhr 8 2980 85 2 rfl rfl (by decide)) ?_; exact (weakL (by simp -implicitDefEqProofs only[go_sem,b3,b4]<;>((repeat' apply And.intro)<;>rfl)))) ?_ ?_
   ·intro i5 s5 g5 nxts5 Rs5 his5 hNs5 h
    have hws5:=zt (k:=i5) his5 (by omega)
    try dsimp only at h
    obtain⟨e6,c6,g6,q6,h⟩:=zbu zbn h
    obtain⟨r7,hr7,h⟩:=zl h
    try simp -implicitDefEqProofs only[go_sem,b3,b4,his5,hws5,c6,g6]
    refine callfG 1528 (zwp a0 e6 r7 hr7) (by simp -implicitDefEqProofs only[go_sem,b3,b4,his5,hws5,c6,g6]<;>rfl) (zb _) (by first | exact persF | exact flatF rfl | exact flatF (by simp[RV.flat,RV.flatL,PV.scalar,isVal,encI,encI])) (by simp -implicitDefEqProofs only[go_sem,b3,b4,his5,hws5,c6,g6]) ?_
    try simp -implicitDefEqProofs only[go_sem,b3,b4,his5,hws5,c6,g6]
    refine zg (fun b8=>?_) (fun b8=>?_)
    ·replace h:=zd h b8
     obtain⟨c9,h⟩:=zbm h
     have k10:=eq_true (show (s5.length+1) * 48≤140737488355328 by omega)
     have a11:=zfb zbd s5 [r7.1] (c:=[[.lst (r7.1.deletes.map encI),.lst (r7.1.creates.map encI)]]) rfl
     try simp -implicitDefEqProofs only[go_sem,b3,b4,his5,hws5,c6,g6,b8,c9,k10,a11]
     exact hNs5 (s5++[r7.1]) (g5+1) h (weakL (by simp -implicitDefEqProofs only[go_sem,b3,b4,his5,hws5,c6,g6,b8,c9,k10,a11]<;>((repeat' apply And.intro)<;>rfl)))
    ·replace h:=ze h b8
     cases h
     try simp -implicitDefEqProofs only[go_sem,b3,b4,his5,hws5,c6,g6,b8]
     refine⟨by decide,_,.refl _,?_⟩
     simp -implicitDefEqProofs only[go_sem,b3,b4,his5,hws5,c6,g6,b8]<;>((repeat' apply And.intro)<;>rfl)
   ·intro i5 s5 g5 Rs5 hes5 h
    have hns5:¬ (i5<a1.length):=by omega
    try dsimp only at h
    cases h
    try simp -implicitDefEqProofs only[go_sem,b3,b4,hns5]
    refine⟨by decide,_,.refl _,?_⟩
    simp -implicitDefEqProofs only[go_sem,b3,b4,hns5]<;>((repeat' apply And.intro)<;>rfl)
 ·replace h:=ze h b3
  cases h
  try simp -implicitDefEqProofs only[go_sem,b3]
  refine⟨by decide,_,.refl _,?_⟩
  simp -implicitDefEqProofs only[go_sem,b3]<;>((repeat' apply And.intro)<;>rfl)
theorem zn7 (a0:zk) (a1:List zu) (a2:List zq) (r:Bool) (h:zd8 a0 a1 a2=some r):zh Tryz.prog 15 [.agg [.lst (a0.nodes.map encNode),.lst (a0.edges.map encEdgeT)],.lst (a1.map zbn),.lst (a2.map zm)] (fun v=>v = .val (.bool r)):=by
 refine zh.ple ?_
 refine zf [] Ty.mixed Tryz.func15 rfl (by kernel_rfl) (by simp[Tryz.ntmps15]) ?_; rw[Tryz.ntmps15,Tryz.results15]
 unfold zd8 at h
 obtain⟨r3,hr3,h⟩:=zl h
 try simp -implicitDefEqProofs only[go_sem]
 refine callfG 1272 (zj4 a0 a1 r3 hr3) (by simp -implicitDefEqProofs only[go_sem]<;>rfl) (zb _) (by first | exact persF | exact flatF rfl | exact flatF (by simp[RV.flat,RV.flatL,PV.scalar,isVal,zbd])) (by simp -implicitDefEqProofs only[go_sem]) ?_
 try simp -implicitDefEqProofs only[go_sem]
 refine zn (fun b4=>?_) (fun b4=>?_)
 ·replace h:=zd h b4
  try simp -implicitDefEqProofs only[go_sem,b4]
  refine zv (fun b5=>?_) (fun b5=>?_)
  ·replace h:=zd h b5
   cases h
   try simp -implicitDefEqProofs only[go_sem,b4,b5]
   all_goals((repeat' apply And.intro)<;>rfl)
  ·replace h:=ze h b5
   try simp -implicitDefEqProofs only[go_sem,b4,b5]
   refine zc (fun b6=>?_) (fun b6=>?_)
   ·replace h:=zd h b6
    cases h
    try simp -implicitDefEqProofs only[go_sem,b4,b5,b6]
    all_goals((repeat' apply And.intro)<;>rfl)
   ·replace h:=ze h b6
    obtain⟨e7,c7,g7,q7,h⟩:=zbu zm h
    have c7i:(0:Int)<((a2.length:Nat):Int):=by omega
    have c7j:(0:Int)≤0:=by decide
    try simp -implicitDefEqProofs only[go_sem,b4,b5,b6,c7,c7i,c7j,g7]
    refine zn (fun b8=>?_) (fun b8=>?_)
    ·replace h:=zd h b8
     try simp -implicitDefEqProofs only[go_sem,b4,b5,b6,c7,c7i,c7j,g7,b8]
     refine zc (fun b9=>?_) (fun b9=>?_)
     ·replace h:=zd h b9
      try simp -implicitDefEqProofs only[go_sem,b4,b5,b6,c7,c7i,c7j,g7,b8,b9]
      refine zn (fun b10=>?_) (fun b10=>?_)
      ·replace h:=zd h b10
       try simp -implicitDefEqProofs only[go_sem,b4,b5,b6,c7,c7i,c7j,g7,b8,b9,b10]
       refine zn (fun b11=>?_) (fun b11=>?_)
       ·replace h:=zd h b11
        try simp -implicitDefEqProofs only[go_sem,b4,b5,b6,c7,c7i,c7j,g7,b8,b9,b10,b11]
        refine zn (fun b12=>?_) (fun b12=>?_)
        ·replace h:=zd h b12
         try simp -implicitDefEqProofs only[go_sem,b4,b5,b6,c7,c7i,c7j,g7,b8,b9,b10,b11,b12]
         refine zn (fun b13=>?_) (fun b13=>?_)
         ·replace h:=zd h b13
          obtain⟨e14,c14a,c14b,g14,q14,h⟩:=zb9 zbd h
          have c14n:=zbr c14a c14b
          cases h
          try simp -implicitDefEqProofs only[go_sem,b4,b5,b6,c7,c7i,c7j,g7,b8,b9,b10,b11,b12,b13,c14a,c14b,c14n,g14]
          all_goals((repeat' apply And.intro)<;>rfl)
         ·replace h:=ze h b13
          cases h
          try simp -implicitDefEqProofs only[go_sem,b4,b5,b6,c7,c7i,c7j,g7,b8,b9,b10,b11,b12,b13]
          all_goals((repeat' apply And.intro)<;>rfl)
        ·replace h:=ze h b12
         cases h
         try simp -implicitDefEqProofs only[go_sem,b4,b5,b6,c7,c7i,c7j,g7,b8,b9,b10,b11,b12]
         all_goals((repeat' apply And.intro)<;>rfl)
       ·replace h:=ze h b11
        cases h
        try simp -implicitDefEqProofs only[go_sem,b4,b5,b6,c7,c7i,c7j,g7,b8,b9,b10,b11]
        all_goals((repeat' apply And.intro)<;>rfl)
      ·replace h:=ze h b10
       cases h
       try simp -implicitDefEqProofs only[go_sem,b4,b5,b6,c7,c7i,c7j,g7,b8,b9,b10]
       all_goals((repeat' apply And.intro)<;>rfl)
     ·replace h:=ze h b9
      obtain⟨r15,hr15,h⟩:=zl h
      try simp -implicitDefEqProofs only[go_sem,b4,b5,b6,c7,c7i,c7j,g7,b8,b9]
      refine callfG 2184 (zi6 r3.1 r15 hr15) (by simp -implicitDefEqProofs only[go_sem,b4,b5,b6,c7,c7i,c7j,g7,b8,b9]<;>rfl) (zb _) (by first | exact persF | exact flatF rfl | exact flatF (by simp[RV.flat,RV.flatL,PV.scalar,isVal,zm])) (by simp -implicitDefEqProofs only[go_sem,b4,b5,b6,c7,c7i,c7j,g7,b8,b9]) ?_
      obtain⟨e16,c16a,c16b,g16,q16,h⟩:=zb9 zm h
      have c16n:=zbr c16a c16b
      obtain⟨fus17,h⟩:=zbm h
      unfold fuel at fus17
      try simp -implicitDefEqProofs only[go_sem,b4,b5,b6,c7,c7i,c7j,g7,b8,b9,c16a,c16b,c16n,g16]
      refine zbe (fun x:(Nat×(Int))×(Unit)=>envL [(10,.row 2184 0),(11,.p (.val (.int .i64 x.1.2))),(82,.p (.lst (a2.map zm))),(83,.p (.val (.int .i64 ((a2.length:Nat):Int)))),(84,.p (.val (.int .i64 ((x.1.1:Nat):Int))))]) (fun x=>heapL [(2184,.row 0 52 4 (r15.map zm))]) () h (weakL (by simp -implicitDefEqProofs only[go_sem,b4,b5,b6,c7,c7i,c7j,g7,b8,b9,c16a,c16b,c16n,g16]<;>((repeat' apply And.intro)<;>rfl))) ?_ ?_
      ·intro i17 s17 g17 nxts17 Rs17 his17 hNs17 h
       have hws17:=zt (k:=i17) his17 (by omega)
       try dsimp only at h
       obtain⟨e18,c18,g18,q18,h⟩:=zbu zm h
       obtain⟨r19,hr19,h⟩:=zl h
       try simp -implicitDefEqProofs only[go_sem,b4,b5,b6,c7,c7i,c7j,g7,b8,b9,c16a,c16b,c16n,g16,his17,hws17,c18,g18]
       refine callG (zi7 r15 e18 r19 hr19) (by simp -implicitDefEqProofs only[go_sem,b4,b5,b6,c7,c7i,c7j,g7,b8,b9,c16a,c16b,c16n,g16,his17,hws17,c18,g18]<;>rfl) (zb _) (by first | exact pers | exact scal rfl) ?_
       try simp -implicitDefEqProofs only[go_sem,b4,b5,b6,c7,c7i,c7j,g7,b8,b9,c16a,c16b,c16n,g16,his17,hws17,c18,g18]
       refine zn (fun b20=>?_) (fun b20=>?_)
       ·replace h:=zd h b20
        try simp -implicitDefEqProofs only[go_sem,b4,b5,b6,c7,c7i,c7j,g7,b8,b9,c16a,c16b,c16n,g16,his17,hws17,c18,g18,b20]
        refine zg (fun b21=>?_) (fun b21=>?_)
        ·replace h:=zd h b21
         try simp -implicitDefEqProofs only[go_sem,b4,b5,b6,c7,c7i,c7j,g7,b8,b9,c16a,c16b,c16n,g16,his17,hws17,c18,g18,b20,b21]
         exact hNs17 e18.dst () h (weakL (by simp -implicitDefEqProofs only[go_sem,b4,b5,b6,c7,c7i,c7j,g7,b8,b9,c16a,c16b,c16n,g16,his17,hws17,c18,g18,b20,b21]<;>((repeat' apply And.intro)<;>rfl)))
        ·replace h:=ze h b21
         cases h
         try simp -implicitDefEqProofs only[go_sem,b4,b5,b6,c7,c7i,c7j,g7,b8,b9,c16a,c16b,c16n,g16,his17,hws17,c18,g18,b20,b21]
         all_goals((repeat' apply And.intro)<;>rfl)
       ·replace h:=ze h b20
        cases h
        try simp -implicitDefEqProofs only[go_sem,b4,b5,b6,c7,c7i,c7j,g7,b8,b9,c16a,c16b,c16n,g16,his17,hws17,c18,g18,b20]
        all_goals((repeat' apply And.intro)<;>rfl)
      ·intro i17 s17 g17 Rs17 hes17 h
       have hns17:¬ (i17<a2.length):=by omega
       try dsimp only at h
       cases h
       try simp -implicitDefEqProofs only[go_sem,b4,b5,b6,c7,c7i,c7j,g7,b8,b9,c16a,c16b,c16n,g16,hns17]
       all_goals((repeat' apply And.intro)<;>rfl)
    ·replace h:=ze h b8
     obtain⟨r22,hr22,h⟩:=zl h
     try simp -implicitDefEqProofs only[go_sem,b4,b5,b6,c7,c7i,c7j,g7,b8]
     refine callfG 2184 (zi6 r3.1 r22 hr22) (by simp -implicitDefEqProofs only[go_sem,b4,b5,b6,c7,c7i,c7j,g7,b8]<;>rfl) (zb _) (by first | exact persF | exact flatF rfl | exact flatF (by simp[RV.flat,RV.flatL,PV.scalar,isVal,zm])) (by simp -implicitDefEqProofs only[go_sem,b4,b5,b6,c7,c7i,c7j,g7,b8]) ?_
     obtain⟨e23,c23a,c23b,g23,q23,h⟩:=zb9 zm h
     have c23n:=zbr c23a c23b
     obtain⟨fus24,h⟩:=zbm h
     unfold fuel at fus24
     try simp -implicitDefEqProofs only[go_sem,b4,b5,b6,c7,c7i,c7j,g7,b8,c23a,c23b,c23n,g23]
     refine zbe (fun x:(Nat×(Int))×(Unit)=>envL [(10,.row 2184 0),(11,.p (.val (.int .i64 x.1.2))),(82,.p (.lst (a2.map zm))),(83,.p (.val (.int .i64 ((a2.length:Nat):Int)))),(84,.p (.val (.int .i64 ((x.1.1:Nat):Int))))]) (fun x=>heapL [(2184,.row 0 52 4 (r22.map zm))]) () h (weakL (by simp -implicitDefEqProofs only[go_sem,b4,b5,b6,c7,c7i,c7j,g7,b8,c23a,c23b,c23n,g23]<;>((repeat' apply And.intro)<;>rfl))) ?_ ?_
     ·intro i24 s24 g24 nxts24 Rs24 his24 hNs24 h
      have hws24:=zt (k:=i24) his24 (by omega)
      try dsimp only at h
      obtain⟨e25,c25,g25,q25,h⟩:=zbu zm h
      obtain⟨r26,hr26,h⟩:=zl h
      try simp -implicitDefEqProofs only[go_sem,b4,b5,b6,c7,c7i,c7j,g7,b8,c23a,c23b,c23n,g23,his24,hws24,c25,g25]
      refine callG (zi7 r22 e25 r26 hr26) (by simp -implicitDefEqProofs only[go_sem,b4,b5,b6,c7,c7i,c7j,g7,b8,c23a,c23b,c23n,g23,his24,hws24,c25,g25]<;>rfl) (zb _) (by first | exact pers | exact scal rfl) ?_
      try simp -implicitDefEqProofs only[go_sem,b4,b5,b6,c7,c7i,c7j,g7,b8,c23a,c23b,c23n,g23,his24,hws24,c25,g25]
      refine zn (fun b27=>?_) (fun b27=>?_)
      ·replace h:=zd h b27
       try simp -implicitDefEqProofs only[go_sem,b4,b5,b6,c7,c7i,c7j,g7,b8,c23a,c23b,c23n,g23,his24,hws24,c25,g25,b27]
       refine zg (fun b28=>?_) (fun b28=>?_)
       ·replace h:=zd h b28
        try simp -implicitDefEqProofs only[go_sem,b4,b5,b6,c7,c7i,c7j,g7,b8,c23a,c23b,c23n,g23,his24,hws24,c25,g25,b27,b28]
        exact hNs24 e25.dst () h (weakL (by simp -implicitDefEqProofs only[go_sem,b4,b5,b6,c7,c7i,c7j,g7,b8,c23a,c23b,c23n,g23,his24,hws24,c25,g25,b27,b28]<;>((repeat' apply And.intro)<;>rfl)))
       ·replace h:=ze h b28
        cases h
        try simp -implicitDefEqProofs only[go_sem,b4,b5,b6,c7,c7i,c7j,g7,b8,c23a,c23b,c23n,g23,his24,hws24,c25,g25,b27,b28]
        all_goals((repeat' apply And.intro)<;>rfl)
      ·replace h:=ze h b27
       cases h
       try simp -implicitDefEqProofs only[go_sem,b4,b5,b6,c7,c7i,c7j,g7,b8,c23a,c23b,c23n,g23,his24,hws24,c25,g25,b27]
       all_goals((repeat' apply And.intro)<;>rfl)
     ·intro i24 s24 g24 Rs24 hes24 h
      have hns24:¬ (i24<a2.length):=by omega
      try dsimp only at h
      cases h
      try simp -implicitDefEqProofs only[go_sem,b4,b5,b6,c7,c7i,c7j,g7,b8,c23a,c23b,c23n,g23,hns24]
      all_goals((repeat' apply And.intro)<;>rfl)
 ·replace h:=ze h b4
  cases h
  try simp -implicitDefEqProofs only[go_sem,b4]
  all_goals((repeat' apply And.intro)<;>rfl)
end
end Go.Proofs.YthjgdkloabgcoaaGreat
set_option maxRecDepth 20000
namespace Go.Proofs.YthjgdkloabgcoaaGreat
open Go.Abs


noncomputable section
theorem zru (a0:zk) (a1:List zu) (r:(List zq)×Int) (h:zgx a0 a1=some r):zh Tryz.prog 10 [.agg [.lst (a0.nodes.map encNode),.lst (a0.edges.map encEdgeT)],.lst (a1.map zbn)] (fun v=>v = .tup [.lst (r.1.map zm),.val (.int .i64 r.2)]):=by
 refine zh.ple ?_
 refine zf [25] Ty.mixed Tryz.func10 rfl (by kernel_rfl) (by simp[Tryz.ntmps10]) ?_; rw[Tryz.ntmps10,Tryz.results10]
 unfold zgx at h
 obtain⟨r2,hr2,h⟩:=zl h
 try simp -implicitDefEqProofs only[go_sem]
 refine callfG 1208 (zj4 a0 a1 r2 hr2) (by simp -implicitDefEqProofs only[go_sem]<;>rfl) (zb _) (by first | exact persF | exact flatF rfl | exact flatF (by simp[RV.flat,RV.flatL,PV.scalar,isVal,zbd])) (by simp -implicitDefEqProofs only[go_sem]) ?_
 try simp -implicitDefEqProofs only[go_sem]
 refine zg (fun b3=>?_) (fun b3=>?_)
 ·replace h:=zd h b3
  obtain⟨r4,hr4,h⟩:=zl h
  try simp -implicitDefEqProofs only[go_sem,b3]
  refine callG (zg2 r2.1 (fun x5=>zf9 x5) 31 [] [] (fun x5 r h=>zqb x5 r h) r4 hr4) (by simp -implicitDefEqProofs only[go_sem,b3]<;>rfl) (zb _) (by first | exact pers | exact scal rfl) ?_
  try simp -implicitDefEqProofs only[go_sem,b3]
  refine zc (fun b6=>?_) (fun b6=>?_)
  ·replace h:=zd h b6
   cases h
   try simp -implicitDefEqProofs only[go_sem,b3,b6]
   all_goals((repeat' apply And.intro)<;>rfl)
  ·replace h:=ze h b6
   try simp -implicitDefEqProofs only[go_sem,b3,b6]
   refine zib 1208 0 85 2 (r2.1.map zbd) [6] (by simp -implicitDefEqProofs only[go_sem,b3,b6]<;>rfl) (by simp -implicitDefEqProofs only[go_sem,b3,b6]<;>((repeat' apply And.intro)<;>rfl)) (by decide) ?_
   refine zbl [.q,.q,.q,.q,.q,.q,.q,.q,.q,.q,.q] (by kernel_rfl) ?_
   obtain⟨r7,hr7,h⟩:=zl h
   try simp -implicitDefEqProofs only[go_sem,b3,b6]
   refine calldG (show zh _ _ _ (fun v=>v = .lst (r7.map zm)) from (zi6 r2.1 r7 hr7).toV1) (by simp -implicitDefEqProofs only[go_sem,b3,b6]<;>rfl) (zb _) (by first | exact pers | exact scal rfl) ?_
   obtain⟨r8,hr8,h⟩:=zl h
   try simp -implicitDefEqProofs only[go_sem,b3,b6]
   refine calldG (zrz r7 (IntKind.i64.wrap (((a0.nodes.length:Nat):Int)+((a0.edges.length:Nat):Int))) r8 hr8) (by simp -implicitDefEqProofs only[go_sem,b3,b6]<;>rfl) (zb _) (by first | exact pers | exact scal rfl) ?_
   try simp -implicitDefEqProofs only[go_sem,b3,b6]
   refine zc (fun b9=>?_) (fun b9=>?_)
   ·replace h:=zd h b9
    cases h
    try simp -implicitDefEqProofs only[go_sem,b3,b6,b9]
    all_goals((repeat' apply And.intro)<;>rfl)
   ·replace h:=ze h b9
    cases h
    try simp -implicitDefEqProofs only[go_sem,b3,b6,b9]
    all_goals((repeat' apply And.intro)<;>rfl)
 ·replace h:=ze h b3
  cases h
  try simp -implicitDefEqProofs only[go_sem,b3]
  all_goals((repeat' apply And.intro)<;>rfl)
theorem znh (a0:zk) (a1:List zu) (r:zd4×Int) (h:ze2 a0 a1=some r):zbt Tryz.prog 14 [.agg [.lst (a0.nodes.map encNode),.lst (a0.edges.map encEdgeT)],.lst (a1.map zbn)] (fun v=>v = .tup [.agg [.row 3 1 (r.1.rules.map encI),.p (.lst (r.1.nodes.map encI)),.p (.lst (r.1.edges.map encI))],.p (.val (.int .i64 r.2))]):=by
 refine zbt.rle ?_
 refine zbw [] Ty.mixed Tryz.func14 rfl (by kernel_rfl) (by simp[Tryz.ntmps14]) ?_; rw[Tryz.ntmps14,Tryz.results14]
 unfold ze2 at h
 obtain⟨r2,hr2,h⟩:=zl h
 try simp -implicitDefEqProofs only[go_sem]
 refine callfG 1240 (zj4 a0 a1 r2 hr2) (by simp -implicitDefEqProofs only[go_sem]<;>rfl) (zb _) (by first | exact persF | exact flatF rfl | exact flatF (by simp[RV.flat,RV.flatL,PV.scalar,isVal,zbd])) (by simp -implicitDefEqProofs only[go_sem]) ?_
 try simp -implicitDefEqProofs only[go_sem]
 refine zg (fun b3=>?_) (fun b3=>?_)
 ·replace h:=zd h b3
  obtain⟨r4,hr4,h⟩:=zl h
  try simp -implicitDefEqProofs only[go_sem,b3]
  refine callfG 1512 (zsl r2.1 (IntKind.i64.wrap (((a0.nodes.length:Nat):Int)+((a0.edges.length:Nat):Int))) r4 hr4) (by simp -implicitDefEqProofs only[go_sem,b3]<;>rfl) (zb _) (by first | exact persF | exact flatF rfl | exact flatF (by simp[RV.flat,RV.flatL,PV.scalar,isVal,encI,encI])) (by simp -implicitDefEqProofs only[go_sem,b3]) ?_
  try simp -implicitDefEqProofs only[go_sem,b3]
  refine zg (fun b5=>?_) (fun b5=>?_)
  ·replace h:=zd h b5
   try simp -implicitDefEqProofs only[go_sem,b3,b5]
   refine zib 1513 0 3 1 (r4.2.1.map encI) [10] (by simp -implicitDefEqProofs only[go_sem,b3,b5]<;>rfl) (by simp -implicitDefEqProofs only[go_sem,b3,b5]<;>((repeat' apply And.intro)<;>rfl)) (by decide) ?_
   refine zbl [.q,.q,.q,.q,.q,.q,.q,.q,.q,.w,.q] (by kernel_rfl) ?_
   obtain⟨⟨c6a,c6b,c6c,c6d⟩,h⟩:=zbm h
   have c6l:=eq_true (zmk (n:=1) (f:=encI) (fun _=>rfl) r4.2.1)
   obtain⟨⟨c7a,c7b,c7c⟩,h⟩:=zbm h
   have c7l:=eq_true (zmk (n:=1) (f:=encI) (fun _=>rfl) r4.2.1)
   cases h
   try simp -implicitDefEqProofs only[go_sem,b3,b5,c6a,c6b,c6c,c6d,c6l,c7a,c7b,c7c,c7l]
   refine⟨by decide,_,.refl _,?_⟩
   simp -implicitDefEqProofs only[go_sem,b3,b5,c6a,c6b,c6c,c6d,c6l,c7a,c7b,c7c,c7l]<;>((repeat' apply And.intro)<;>rfl)
  ·replace h:=ze h b5
   cases h
   try simp -implicitDefEqProofs only[go_sem,b3,b5]
   refine⟨by decide,_,.refl _,?_⟩
   simp -implicitDefEqProofs only[go_sem,b3,b5]<;>((repeat' apply And.intro)<;>rfl)
 ·replace h:=ze h b3
  cases h
  try simp -implicitDefEqProofs only[go_sem,b3]
  refine⟨by decide,_,.refl _,?_⟩
  simp -implicitDefEqProofs only[go_sem,b3]<;>((repeat' apply And.intro)<;>rfl)
end
end Go.Proofs.YthjgdkloabgcoaaGreat
set_option maxRecDepth 20000
namespace Go.Proofs.YthjgdkloabgcoaaGreat
open Go.Abs


noncomputable section
theorem zf5  (r:Bool) (h:zc0  = some r):zh Tryz.prog 8 [] (fun v=>v = .val (.bool r)):=by
 refine zh.ple ?_
 refine zf [] Ty.mixed Tryz.func8 rfl (by kernel_rfl) (by simp[Tryz.ntmps8]) ?_; rw[Tryz.ntmps8,Tryz.results8]
 unfold zc0 at h
 obtain⟨r1,hr1,h⟩:=zl h
 try simp -implicitDefEqProofs only[go_sem]
 refine callfG 1128 (zl6 r1 hr1) (by simp -implicitDefEqProofs only[go_sem]<;>rfl) (zb _) (by first | exact persF | exact flatF rfl | exact flatF (by simp[RV.flat,RV.flatL,PV.scalar,isVal,encNode,encEdgeT])) (by simp -implicitDefEqProofs only[go_sem]) ?_
 try simp -implicitDefEqProofs only[go_sem]
 refine zib 1128 0 113 4 (r1.nodes.map encNode) [] (by simp -implicitDefEqProofs only[go_sem]<;>rfl) (by simp -implicitDefEqProofs only[go_sem]<;>((repeat' apply And.intro)<;>rfl)) (by decide) ?_
 refine zib 1129 0 115 7 (r1.edges.map encEdgeT) [] (by simp -implicitDefEqProofs only[go_sem]<;>rfl) (by simp -implicitDefEqProofs only[go_sem]<;>((repeat' apply And.intro)<;>rfl)) (by decide) ?_
 refine zf2 [(1,.q),(2,.p),(0,.q),(3,.f),(4,.q),(5,.q),(6,.o),(7,.w),(8,.s),(9,.q)] (by kernel_rfl) ?_
 obtain⟨r2,hr2,h⟩:=zl h
 try simp -implicitDefEqProofs only[go_sem]
 refine calldG (zhq 0 r2 hr2) (by simp -implicitDefEqProofs only[go_sem]<;>rfl) (zb _) (by first | exact pers | exact scal rfl) ?_
 obtain⟨r3,hr3,h⟩:=zl h
 try simp -implicitDefEqProofs only[go_sem]
 refine calldfG 1208 (znh r1 [r2] r3 hr3) (by simp -implicitDefEqProofs only[go_sem]<;>rfl) (zb _) (by first | exact persF | exact flatF rfl | exact flatF (by simp[RV.flat,RV.flatL,PV.scalar,isVal,encI])) (by simp -implicitDefEqProofs only[go_sem]) (by simp -implicitDefEqProofs only[go_sem]) ?_
 try simp -implicitDefEqProofs only[go_sem]
 refine zf2 [(1,.q),(2,.p),(0,.q),(3,.q),(4,.q),(5,.q),(6,.o),(7,.w),(8,.s),(9,.q)] (by kernel_rfl) ?_
 obtain⟨r4,hr4,h⟩:=zl h
 try simp -implicitDefEqProofs only[go_sem]
 refine calldG (zhq 1 r4 hr4) (by simp -implicitDefEqProofs only[go_sem]<;>rfl) (zb _) (by first | exact pers | exact scal rfl) ?_
 obtain⟨r5,hr5,h⟩:=zl h
 try simp -implicitDefEqProofs only[go_sem]
 refine calldG (show zh _ _ _ (fun v=>v = .tup [.agg (zk1 r5.1),.val (.int .i64 r5.2)]) from (znh r1 [r4] r5 hr5).toV1) (by simp -implicitDefEqProofs only[go_sem]<;>rfl) (zb _) (by first | exact pers | exact scal rfl) ?_
 try simp -implicitDefEqProofs only[go_sem]
 refine zf2 [(1,.q),(2,.p),(0,.q),(3,.q),(4,.q),(5,.q),(6,.q),(7,.q),(8,.q)] (by kernel_rfl) ?_
 obtain⟨r6,hr6,h⟩:=zl h
 try simp -implicitDefEqProofs only[go_sem]
 refine calldG (zhq 2 r6 hr6) (by simp -implicitDefEqProofs only[go_sem]<;>rfl) (zb _) (by first | exact pers | exact scal rfl) ?_
 obtain⟨r7,hr7,h⟩:=zl h
 try simp -implicitDefEqProofs only[go_sem]
 refine calldG (zru r1 [r6] r7 hr7) (by simp -implicitDefEqProofs only[go_sem]<;>rfl) (zb _) (by first | exact pers | exact scal rfl) ?_
 try simp -implicitDefEqProofs only[go_sem]
 refine zn (fun b8=>?_) (fun b8=>?_)
 ·replace h:=zd h b8
  obtain⟨r9,hr9,h⟩:=zl h
  try simp -implicitDefEqProofs only[go_sem,b8]
  refine callG (zlc r3.1.rules [0] r9 hr9) (by simp -implicitDefEqProofs only[go_sem,b8]<;>rfl) (zb _) (by first | exact pers | exact scal rfl) ?_
  try simp -implicitDefEqProofs only[go_sem,b8]
  refine zn (fun b10=>?_) (fun b10=>?_)
  ·replace h:=zd h b10
   try simp -implicitDefEqProofs only[go_sem,b8,b10]
   refine zn (fun b11=>?_) (fun b11=>?_)
   ·replace h:=zd h b11
    obtain⟨r12,hr12,h⟩:=zl h
    try simp -implicitDefEqProofs only[go_sem,b8,b10,b11]
    refine callG (zlc r5.1.nodes [0,0,1,0] r12 hr12) (by simp -implicitDefEqProofs only[go_sem,b8,b10,b11]<;>rfl) (zb _) (by first | exact pers | exact scal rfl) ?_
    try simp -implicitDefEqProofs only[go_sem,b8,b10,b11]
    refine zn (fun b13=>?_) (fun b13=>?_)
    ·replace h:=zd h b13
     try simp -implicitDefEqProofs only[go_sem,b8,b10,b11,b13]
     refine zn (fun b14=>?_) (fun b14=>?_)
     ·replace h:=zd h b14
      obtain⟨r15,hr15,h⟩:=zl h
      try simp -implicitDefEqProofs only[go_sem,b8,b10,b11,b13,b14]
      refine callG (zot r7.1 [(⟨0,5,5,1⟩:zq)] r15 hr15) (by simp -implicitDefEqProofs only[go_sem,b8,b10,b11,b13,b14]<;>rfl) (zb _) (by first | exact pers | exact scal rfl) ?_
      cases h
      try simp -implicitDefEqProofs only[go_sem,b8,b10,b11,b13,b14]
      all_goals((repeat' apply And.intro)<;>rfl)
     ·replace h:=ze h b14
      cases h
      try simp -implicitDefEqProofs only[go_sem,b8,b10,b11,b13,b14]
      all_goals((repeat' apply And.intro)<;>rfl)
    ·replace h:=ze h b13
     cases h
     try simp -implicitDefEqProofs only[go_sem,b8,b10,b11,b13]
     all_goals((repeat' apply And.intro)<;>rfl)
   ·replace h:=ze h b11
    cases h
    try simp -implicitDefEqProofs only[go_sem,b8,b10,b11]
    all_goals((repeat' apply And.intro)<;>rfl)
  ·replace h:=ze h b10
   cases h
   try simp -implicitDefEqProofs only[go_sem,b8,b10]
   all_goals((repeat' apply And.intro)<;>rfl)
 ·replace h:=ze h b8
  cases h
  try simp -implicitDefEqProofs only[go_sem,b8]
  all_goals((repeat' apply And.intro)<;>rfl)
end
end Go.Proofs.YthjgdkloabgcoaaGreat
set_option maxRecDepth 20000
namespace Go.Proofs.YthjgdkloabgcoaaGreat
open Go.Abs


noncomputable section
end
end Go.Proofs.YthjgdkloabgcoaaGreat
set_option maxRecDepth 20000
namespace Go.Proofs.YthjgdkloabgcoaaGreat
open Go.Abs


noncomputable section
theorem zi5 (a0:zk) (a1:List zu) (a2:List zq) (r:Bool) (h:zcs a0 a1 a2=some r):zh Tryz.prog 4 [.agg [.lst (a0.nodes.map encNode),.lst (a0.edges.map encEdgeT)],.lst (a1.map zbn),.lst (a2.map zm)] (fun v=>v = .val (.bool r)):=by
 refine zh.ple ?_
 refine zf [] Ty.mixed Tryz.func4 rfl (by kernel_rfl) (by simp[Tryz.ntmps4]) ?_; rw[Tryz.ntmps4,Tryz.results4]
 unfold zcs at h
 obtain⟨r3,hr3,h⟩:=zl h
 try simp -implicitDefEqProofs only[go_sem]
 refine callG (zf5 r3 hr3) (by simp -implicitDefEqProofs only[go_sem]<;>rfl) (zb _) (by first | exact pers | exact scal rfl) ?_
 try simp -implicitDefEqProofs only[go_sem]
 refine zn (fun b4=>?_) (fun b4=>?_)
 ·replace h:=zd h b4
  obtain⟨r5,hr5,h⟩:=zl h
  try simp -implicitDefEqProofs only[go_sem,b4]
  refine callG (zom a0 a1 r5 hr5) (by simp -implicitDefEqProofs only[go_sem,b4]<;>rfl) (zb _) (by first | exact pers | exact scal rfl) ?_
  try simp -implicitDefEqProofs only[go_sem,b4]
  refine zn (fun b6=>?_) (fun b6=>?_)
  ·replace h:=zd h b6
   try simp -implicitDefEqProofs only[go_sem,b4,b6]
   refine zc (fun b7=>?_) (fun b7=>?_)
   ·replace h:=zd h b7
    obtain⟨r8,hr8,h⟩:=zl h
    try simp -implicitDefEqProofs only[go_sem,b4,b6,b7]
    refine callG (zf5 r8 hr8) (by simp -implicitDefEqProofs only[go_sem,b4,b6,b7]<;>rfl) (zb _) (by first | exact pers | exact scal rfl) ?_
    cases h
    try simp -implicitDefEqProofs only[go_sem,b4,b6,b7]
    all_goals((repeat' apply And.intro)<;>rfl)
   ·replace h:=ze h b7
    try simp -implicitDefEqProofs only[go_sem,b4,b6,b7]
    refine zbl [.q,.q,.q,.q,.q,.q,.q,.q,.q,.q,.q] (by kernel_rfl) ?_
    obtain⟨r9,hr9,h⟩:=zl h
    try simp -implicitDefEqProofs only[go_sem,b4,b6,b7]
    refine calldG (show zh _ _ _ (fun v=>v = .lst (r9.map zm)) from (zoe a2 r9 hr9).toV1) (by simp -implicitDefEqProofs only[go_sem,b4,b6,b7]<;>rfl) (zb _) (by first | exact pers | exact scal rfl) ?_
    obtain⟨r10,hr10,h⟩:=zl h
    try simp -implicitDefEqProofs only[go_sem,b4,b6,b7]
    refine calldG (zn7 (⟨a0.nodes,a0.edges⟩:zk) a1 r9 r10 hr10) (by simp -implicitDefEqProofs only[go_sem,b4,b6,b7]<;>rfl) (zb _) (by first | exact pers | exact scal rfl) ?_
    obtain⟨r11,hr11,h⟩:=zl h
    try simp -implicitDefEqProofs only[go_sem,b4,b6,b7]
    refine calldG (zkv a0 a1 a2 r11 hr11) (by simp -implicitDefEqProofs only[go_sem,b4,b6,b7]<;>rfl) (zb _) (by first | exact pers | exact scal rfl) ?_
    cases h
    try simp -implicitDefEqProofs only[go_sem,b4,b6,b7]
    all_goals((repeat' apply And.intro)<;>rfl)
  ·replace h:=ze h b6
   obtain⟨r12,hr12,h⟩:=zl h
   try simp -implicitDefEqProofs only[go_sem,b4,b6]
   refine callG (zf5 r12 hr12) (by simp -implicitDefEqProofs only[go_sem,b4,b6]<;>rfl) (zb _) (by first | exact pers | exact scal rfl) ?_
   cases h
   try simp -implicitDefEqProofs only[go_sem,b4,b6]
   all_goals((repeat' apply And.intro)<;>rfl)
 ·replace h:=ze h b4
  obtain⟨r13,hr13,h⟩:=zl h
  try simp -implicitDefEqProofs only[go_sem,b4]
  refine callG (zf5 r13 hr13) (by simp -implicitDefEqProofs only[go_sem,b4]<;>rfl) (zb _) (by first | exact pers | exact scal rfl) ?_
  cases h
  try simp -implicitDefEqProofs only[go_sem,b4]
  all_goals((repeat' apply And.intro)<;>rfl)
end
end Go.Proofs.YthjgdkloabgcoaaGreat
namespace Go.Proofs.YthjgdkloabgcoaaGreat
open Go.Abs


end Go.Proofs.YthjgdkloabgcoaaGreat
namespace Go.Proofs.YthjgdkloabgcoaaGreat
open Go.Abs
open Go.ChangeShapes Go.WideShapes Go.ChangeAt Go.RowKit
variable {w:World} {H:Type} {enc:TypeId×Value→H}

def G9 (_:ByteArray):Prop:=True
theorem d9:Dec Tryz.prog w enc 9 1 encS G9 :=
 .str Tryz.underlying9
def G3 (n:Int):Prop:=IntKind.i64.min≤n∧n≤IntKind.i64.max
theorem d3:Dec Tryz.prog w enc 3 1 (fun n:Int=>[.val (.int .i64 n)]) G3 :=
 .intk .i64 Tryz.underlying3
def G4 (_:Bool):Prop:=True
theorem d4:Dec Tryz.prog w enc 4 1 zko G4 :=
 .bool Tryz.underlying4
def G108 (l:List ByteArray):Prop:=(∀x∈l,G9 x)∧l.length≤reachBytes
theorem d108:Dec Tryz.prog w enc 108 1 (fun l:List ByteArray=>[.lst (l.map encS)]) G108 :=
 (Dec.slice Tryz.underlying108 (by kernel_rfl) (by decide) (of_decide_eq_true (by kernel_rfl)) d9).map id id (fun _=>rfl) (fun _=>rfl) (fun _ h=>h)
def G110 (x:Attr):Prop:=G9 x.name∧G3 x.low∧G3 x.high∧G108 x.names∧True
theorem d110:Dec Tryz.prog w enc 110 4 (fun x:Attr=>[.val (.string x.name),.val (.int .i64 x.low),.val (.int .i64 x.high),.lst (x.names.map encS)]) G110 :=
 (Dec.struct Tryz.underlying110 (by kernel_rfl) (.cons rfl (by kernel_rfl) d9 (.cons rfl (by kernel_rfl) d3 (.cons rfl (by kernel_rfl) d3 (.cons rfl (by kernel_rfl) d108 (.nil _)))))).map (fun x=>⟨x.1,x.2.1,x.2.2.1,x.2.2.2.1⟩) (fun a=>(a.name,a.low,a.high,a.names,())) (fun _=>rfl) (fun _=>rfl) (fun _ h=>h)
def G111 (l:List Attr):Prop:=(∀x∈l,G110 x)∧l.length≤reachBytes
theorem d111:Dec Tryz.prog w enc 111 1 (fun l:List Attr=>[.lst (l.map encAttr)]) G111 :=
 (Dec.slice Tryz.underlying111 (by kernel_rfl) (by decide) (of_decide_eq_true (by kernel_rfl)) d110).map id id (fun _=>rfl) (fun _=>rfl) (fun _ h=>h)
def G113 (x:zdn):Prop:=G9 x.name∧G3 x.parent∧G4 x.abs∧G111 x.attrs∧True
theorem d113:Dec Tryz.prog w enc 113 4 (fun x:zdn=>[.val (.string x.name),.val (.int .i64 x.parent),.val (.bool x.abs),.lst (x.attrs.map encAttr)]) G113 :=
 (Dec.struct Tryz.underlying113 (by kernel_rfl) (.cons rfl (by kernel_rfl) d9 (.cons rfl (by kernel_rfl) d3 (.cons rfl (by kernel_rfl) d4 (.cons rfl (by kernel_rfl) d111 (.nil _)))))).map (fun x=>⟨x.1,x.2.1,x.2.2.1,x.2.2.2.1⟩) (fun a=>(a.name,a.parent,a.abs,a.attrs,())) (fun _=>rfl) (fun _=>rfl) (fun _ h=>h)
def G22 (l:List zdn):Prop:=(∀x∈l,G113 x)∧l.length≤reachBytes
theorem d22:Dec Tryz.prog w enc 22 1 (fun l:List zdn=>[.lst (l.map encNode)]) G22 :=
 (Dec.slice Tryz.underlying22 (by kernel_rfl) (by decide) (of_decide_eq_true (by kernel_rfl)) d113).map id id (fun _=>rfl) (fun _=>rfl) (fun _ h=>h)
def G115 (x:zhv):Prop:=G9 x.name∧G3 x.src∧G3 x.dst∧G3 x.outLow∧G3 x.outHigh∧G3 x.inLow∧G3 x.inHigh∧True
theorem d115:Dec Tryz.prog w enc 115 7 (fun x:zhv=>[.val (.string x.name),.val (.int .i64 x.src),.val (.int .i64 x.dst),.val (.int .i64 x.outLow),.val (.int .i64 x.outHigh),.val (.int .i64 x.inLow),.val (.int .i64 x.inHigh)]) G115 :=
 (Dec.struct Tryz.underlying115 (by kernel_rfl) (.cons rfl (by kernel_rfl) d9 (.cons rfl (by kernel_rfl) d3 (.cons rfl (by kernel_rfl) d3 (.cons rfl (by kernel_rfl) d3 (.cons rfl (by kernel_rfl) d3 (.cons rfl (by kernel_rfl) d3 (.cons rfl (by kernel_rfl) d3 (.nil _))))))))).map (fun x=>⟨x.1,x.2.1,x.2.2.1,x.2.2.2.1,x.2.2.2.2.1,x.2.2.2.2.2.1,x.2.2.2.2.2.2.1⟩) (fun a=>(a.name,a.src,a.dst,a.outLow,a.outHigh,a.inLow,a.inHigh,())) (fun _=>rfl) (fun _=>rfl) (fun _ h=>h)
def G23 (l:List zhv):Prop:=(∀x∈l,G115 x)∧l.length≤reachBytes
theorem d23:Dec Tryz.prog w enc 23 1 (fun l:List zhv=>[.lst (l.map encEdgeT)]) G23 :=
 (Dec.slice Tryz.underlying23 (by kernel_rfl) (by decide) (of_decide_eq_true (by kernel_rfl)) d115).map id id (fun _=>rfl) (fun _=>rfl) (fun _ h=>h)
def G25 (x:zk):Prop:=G22 x.nodes∧G23 x.edges∧True
theorem d25:Dec Tryz.prog w enc 25 2 (fun x:zk=>[.lst (x.nodes.map encNode),.lst (x.edges.map encEdgeT)]) G25 :=
 (Dec.struct Tryz.underlying25 (by kernel_rfl) (.cons rfl (by kernel_rfl) d22 (.cons rfl (by kernel_rfl) d23 (.nil _)))).map (fun x=>⟨x.1,x.2.1⟩) (fun a=>(a.nodes,a.edges,())) (fun _=>rfl) (fun _=>rfl) (fun _ h=>h)
def G34 (l:List Int):Prop:=(∀x∈l,G3 x)∧l.length≤reachBytes
theorem d34:Dec Tryz.prog w enc 34 1 (fun l:List Int=>[.lst (l.map encI)]) G34 :=
 (Dec.slice Tryz.underlying34 (by kernel_rfl) (by decide) (of_decide_eq_true (by kernel_rfl)) d3).map id id (fun _=>rfl) (fun _=>rfl) (fun _ h=>h)
def G117 (x:Edge):Prop:=G3 x.type∧G3 x.src∧G3 x.dst∧True
theorem d117:Dec Tryz.prog w enc 117 3 (fun x:Edge=>[.val (.int .i64 x.type),.val (.int .i64 x.src),.val (.int .i64 x.dst)]) G117 :=
 (Dec.struct Tryz.underlying117 (by kernel_rfl) (.cons rfl (by kernel_rfl) d3 (.cons rfl (by kernel_rfl) d3 (.cons rfl (by kernel_rfl) d3 (.nil _))))).map (fun x=>⟨x.1,x.2.1,x.2.2.1⟩) (fun a=>(a.type,a.src,a.dst,())) (fun _=>rfl) (fun _=>rfl) (fun _ h=>h)
def G35 (l:List Edge):Prop:=(∀x∈l,G117 x)∧l.length≤reachBytes
theorem d35:Dec Tryz.prog w enc 35 1 (fun l:List Edge=>[.lst (l.map encEdge)]) G35 :=
 (Dec.slice Tryz.underlying35 (by kernel_rfl) (by decide) (of_decide_eq_true (by kernel_rfl)) d117).map id id (fun _=>rfl) (fun _=>rfl) (fun _ h=>h)
def G37 (x:z8):Prop:=G34 x.nodes∧G35 x.edges∧True
theorem d37:Dec Tryz.prog w enc 37 2 (fun x:z8=>[.lst (x.nodes.map encI),.lst (x.edges.map encEdge)]) G37 :=
 (Dec.struct Tryz.underlying37 (by kernel_rfl) (.cons rfl (by kernel_rfl) d34 (.cons rfl (by kernel_rfl) d35 (.nil _)))).map (fun x=>⟨x.1,x.2.1⟩) (fun a=>(a.nodes,a.edges,())) (fun _=>rfl) (fun _=>rfl) (fun _ h=>h)
def G199 (x:ziq):Prop:=G3 x.var∧G3 x.add∧True
theorem d199:Dec Tryz.prog w enc 199 2 (fun x:ziq=>[.val (.int .i64 x.var),.val (.int .i64 x.add)]) G199 :=
 (Dec.struct Tryz.underlying199 (by kernel_rfl) (.cons rfl (by kernel_rfl) d3 (.cons rfl (by kernel_rfl) d3 (.nil _)))).map (fun x=>⟨x.1,x.2.1⟩) (fun a=>(a.var,a.add,())) (fun _=>rfl) (fun _=>rfl) (fun _ h=>h)
def G201 (x:zb1):Prop:=G3 x.node∧G3 x.attr∧G199 x.term∧True
theorem d201:Dec Tryz.prog w enc 201 4 (fun x:zb1=>[.val (.int .i64 x.node),.val (.int .i64 x.attr),.val (.int .i64 x.term.var),.val (.int .i64 x.term.add)]) G201 :=
 (Dec.struct Tryz.underlying201 (by kernel_rfl) (.cons rfl (by kernel_rfl) d3 (.cons rfl (by kernel_rfl) d3 (.cons rfl (by kernel_rfl) d199 (.nil _))))).map (fun x=>⟨x.1,x.2.1,x.2.2.1⟩) (fun a=>(a.node,a.attr,a.term,())) (fun _=>rfl) (fun _=>rfl) (fun _ h=>h)
def G38 (l:List zb1):Prop:=(∀x∈l,G201 x)∧l.length≤reachBytes
theorem d38:Dec Tryz.prog w enc 38 1 (fun l:List zb1=>[.lst (l.map zbs)]) G38 :=
 (Dec.slice Tryz.underlying38 (by kernel_rfl) (by decide) (of_decide_eq_true (by kernel_rfl)) d201).map id id (fun _=>rfl) (fun _=>rfl) (fun _ h=>h)
def G203 (x:zc5):Prop:=G3 x.kind∧G199 x.left∧G199 x.right∧True
theorem d203:Dec Tryz.prog w enc 203 5 (fun x:zc5=>[.val (.int .i64 x.kind),.val (.int .i64 x.left.var),.val (.int .i64 x.left.add),.val (.int .i64 x.right.var),.val (.int .i64 x.right.add)]) G203 :=
 (Dec.struct Tryz.underlying203 (by kernel_rfl) (.cons rfl (by kernel_rfl) d3 (.cons rfl (by kernel_rfl) d199 (.cons rfl (by kernel_rfl) d199 (.nil _))))).map (fun x=>⟨x.1,x.2.1,x.2.2.1⟩) (fun a=>(a.kind,a.left,a.right,())) (fun _=>rfl) (fun _=>rfl) (fun _ h=>h)
def G39 (l:List zc5):Prop:=(∀x∈l,G203 x)∧l.length≤reachBytes
theorem d39:Dec Tryz.prog w enc 39 1 (fun l:List zc5=>[.lst (l.map zb5)]) G39 :=
 (Dec.slice Tryz.underlying39 (by kernel_rfl) (by decide) (of_decide_eq_true (by kernel_rfl)) d203).map id id (fun _=>rfl) (fun _=>rfl) (fun _ h=>h)
def G41 (x:zba):Prop:=G37 x.graph∧G38 x.slots∧G3 x.vars∧G39 x.tests∧True
theorem d41:Dec Tryz.prog w enc 41 5 (fun x:zba=>[.lst (x.graph.nodes.map encI),.lst (x.graph.edges.map encEdge),.lst (x.slots.map zbs),.val (.int .i64 x.vars),.lst (x.tests.map zb5)]) G41 :=
 (Dec.struct Tryz.underlying41 (by kernel_rfl) (.cons rfl (by kernel_rfl) d37 (.cons rfl (by kernel_rfl) d38 (.cons rfl (by kernel_rfl) d3 (.cons rfl (by kernel_rfl) d39 (.nil _)))))).map (fun x=>⟨x.1,x.2.1,x.2.2.1,x.2.2.2.1⟩) (fun a=>(a.graph,a.slots,a.vars,a.tests,())) (fun _=>rfl) (fun _=>rfl) (fun _ h=>h)
def G43 (x:zc4):Prop:=G34 x.nodes∧G34 x.edges∧True
theorem d43:Dec Tryz.prog w enc 43 2 (fun x:zc4=>[.lst (x.nodes.map encI),.lst (x.edges.map encI)]) G43 :=
 (Dec.struct Tryz.underlying43 (by kernel_rfl) (.cons rfl (by kernel_rfl) d34 (.cons rfl (by kernel_rfl) d34 (.nil _)))).map (fun x=>⟨x.1,x.2.1⟩) (fun a=>(a.nodes,a.edges,())) (fun _=>rfl) (fun _=>rfl) (fun _ h=>h)
def G44 (x:zby):Prop:=G34 x.nodes∧G34 x.edges∧True
theorem d44:Dec Tryz.prog w enc 44 2 (fun x:zby=>[.lst (x.nodes.map encI),.lst (x.edges.map encI)]) G44 :=
 (Dec.struct Tryz.underlying44 (by kernel_rfl) (.cons rfl (by kernel_rfl) d34 (.cons rfl (by kernel_rfl) d34 (.nil _)))).map (fun x=>⟨x.1,x.2.1⟩) (fun a=>(a.nodes,a.edges,())) (fun _=>rfl) (fun _=>rfl) (fun _ h=>h)
inductive G47:zp→Prop
 | mk (x:zp):G3 x.kind→(∀k∈x.kids,G47 k)→x.kids.length≤reachBytes→G44 x.map→G41 x.pattern→G47 x
theorem d47:Dec Tryz.prog w enc 47 9 (fun x:zp=>[.val (.int .i64 x.kind),.lst (x.kids.map zz),.lst (x.map.nodes.map encI),.lst (x.map.edges.map encI),.lst (x.pattern.graph.nodes.map encI),.lst (x.pattern.graph.edges.map encEdge),.lst (x.pattern.slots.map zbs),.val (.int .i64 x.pattern.vars),.lst (x.pattern.tests.map zb5)]) G47 :=
 Dec.ofN fun N=>by
  induction N with
  | zero=>exact DecN.zero (fun _=>rfl)
  | succ N ih =>
   have h0:=DecN.struct (w:=w) (enc:=enc) (N:=N) Tryz.underlying47 (by kernel_rfl) (.cons rfl (by kernel_rfl) (d3.toN N) (.cons rfl (by kernel_rfl) (DecN.slice Tryz.underlying45 (by kernel_rfl) (by decide) (of_decide_eq_true (by kernel_rfl)) (ih.map id id (fun b=>(zhl b).symm) (fun b=>zhl b) (fun _ h=>h))) (.cons rfl (by kernel_rfl) (d44.toN N) (.cons rfl (by kernel_rfl) (d41.toN N) (.nil _)))))
   exact DecN.map (fun x:Int×(List zp)×zby×zba×Unit=>⟨x.1,x.2.1,x.2.2.1,x.2.2.2.1⟩) (fun a=>(a.kind,a.kids,a.map,a.pattern,())) (fun _=>rfl) (fun _=>rfl) (fun x h=>.mk _ h.1 h.2.1.1 h.2.1.2 h.2.2.1 h.2.2.2.1) h0
def G49 (x:zu):Prop:=G9 x.name∧G41 x.left∧G41 x.right∧G43 x.keep∧G44 x.into∧G4 x.injective∧G47 x.condition∧True
theorem d49:Dec Tryz.prog w enc 49 25 (fun x:zu=>[.val (.string x.name),.lst (x.left.graph.nodes.map encI),.lst (x.left.graph.edges.map encEdge),.lst (x.left.slots.map zbs),.val (.int .i64 x.left.vars),.lst (x.left.tests.map zb5),.lst (x.right.graph.nodes.map encI),.lst (x.right.graph.edges.map encEdge),.lst (x.right.slots.map zbs),.val (.int .i64 x.right.vars),.lst (x.right.tests.map zb5),.lst (x.keep.nodes.map encI),.lst (x.keep.edges.map encI),.lst (x.into.nodes.map encI),.lst (x.into.edges.map encI),.val (.bool x.injective),.val (.int .i64 x.condition.kind),.lst (x.condition.kids.map zz),.lst (x.condition.map.nodes.map encI),.lst (x.condition.map.edges.map encI),.lst (x.condition.pattern.graph.nodes.map encI),.lst (x.condition.pattern.graph.edges.map encEdge),.lst (x.condition.pattern.slots.map zbs),.val (.int .i64 x.condition.pattern.vars),.lst (x.condition.pattern.tests.map zb5)]) G49 :=
 (Dec.struct Tryz.underlying49 (by kernel_rfl) (.cons rfl (by kernel_rfl) d9 (.cons rfl (by kernel_rfl) d41 (.cons rfl (by kernel_rfl) d41 (.cons rfl (by kernel_rfl) d43 (.cons rfl (by kernel_rfl) d44 (.cons rfl (by kernel_rfl) d4 (.cons rfl (by kernel_rfl) d47 (.nil _))))))))).map (fun x=>⟨x.1,x.2.1,x.2.2.1,x.2.2.2.1,x.2.2.2.2.1,x.2.2.2.2.2.1,x.2.2.2.2.2.2.1⟩) (fun a=>(a.name,a.left,a.right,a.keep,a.into,a.injective,a.condition,())) (fun _=>rfl) (fun _=>rfl) (fun _ h=>h)
def G26 (l:List zu):Prop:=(∀x∈l,G49 x)∧l.length≤reachBytes
theorem d26:Dec Tryz.prog w enc 26 1 (fun l:List zu=>[.lst (l.map zbn)]) G26 :=
 (Dec.slice Tryz.underlying26 (by kernel_rfl) (by decide) (of_decide_eq_true (by kernel_rfl)) d49).map id id (fun _=>rfl) (fun _=>rfl) (fun _ h=>h)
set_option maxRecDepth 100000 in
theorem zbel:laidOutB Tryz.checked.prog=true:=by kernel_rfl
def G52 (x:zq):Prop:=G3 x.rule∧G3 x.src∧G3 x.dst∧G3 x.strict∧True
theorem d52:Dec Tryz.prog w enc 52 4 (fun x:zq=>[.val (.int .i64 x.rule),.val (.int .i64 x.src),.val (.int .i64 x.dst),.val (.int .i64 x.strict)]) G52 :=
 (Dec.struct Tryz.underlying52 (by kernel_rfl) (.cons rfl (by kernel_rfl) d3 (.cons rfl (by kernel_rfl) d3 (.cons rfl (by kernel_rfl) d3 (.cons rfl (by kernel_rfl) d3 (.nil _)))))).map (fun x=>⟨x.1,x.2.1,x.2.2.1,x.2.2.2.1⟩) (fun a=>(a.rule,a.src,a.dst,a.strict,())) (fun _=>rfl) (fun _=>rfl) (fun _ h=>h)
def G29 (l:List zq):Prop:=(∀x∈l,G52 x)∧l.length≤reachBytes
theorem d29:Dec Tryz.prog w enc 29 1 (fun l:List zq=>[.lst (l.map zm)]) G29 :=
 (Dec.slice Tryz.underlying29 (by kernel_rfl) (by decide) (of_decide_eq_true (by kernel_rfl)) d52).map id id (fun _=>rfl) (fun _=>rfl) (fun _ h=>h)
end Go.Proofs.YthjgdkloabgcoaaGreat
namespace Go.Proofs.YthjgdkloabgcoaaGreat
open Go.Abs

theorem zj5:reachBytes≤1125899906842624:=by decide
theorem condFit {c:zp} (h:G47 c):CFit c:=by
 induction h with
 | mk x h1 h2 h3 h4 h5 ih=>exact .mk x ⟨Nat.le_trans h4.1.2 zj5,Nat.le_trans h4.2.1.2 zj5⟩ ih
theorem ruleFit {r:zu} (h:G49 r):FitR r:=by
 obtain⟨_,_,_,h4,h5,_,h7,_⟩:=h
 exact⟨⟨Nat.le_trans h4.1.2 zj5,Nat.le_trans h4.2.1.2 zj5⟩,⟨Nat.le_trans h5.1.2 zj5,Nat.le_trans h5.2.1.2 zj5⟩,condFit h7⟩
theorem typesFit {t:zk} (h:G25 t):FitT t:=⟨fun n hn=>Nat.le_trans (h.1.1 n hn).2.2.2.1.2 zj5⟩
end Go.Proofs.YthjgdkloabgcoaaGreat
namespace Go.Proofs.YthjgdkloabgcoaaGreat
open Go.Abs

def blockD (i:Nat) (e:zo):List zq:=e.deletes.flatMap fun q=>e.creates.map fun p=>⟨(i:Int),q,p,1⟩
def demandsL (es:List zo):List zq:=(List.range es.length).flatMap fun i=>blockD i (es.getD i ⟨[],[]⟩)
theorem zkm {α β:Type} (f:α→List β) (l:List α):∀s:List β,l.foldl (fun s a=>s++f a) s=s++l.flatMap f:=by
 induction l with
 | nil=>intro s; simp
 | cons a l ih=>intro s; rw[List.foldl_cons,ih]; simp
theorem zqi (i:Nat) (e:zo) (h:e.deletes.length≤32∧e.creates.length≤32):(blockD i e).length≤1024:=by
 unfold blockD
 have:∀l:List Int,(l.flatMap fun q=>e.creates.map fun p=>(⟨(i:Int),q,p,1⟩:zq)).length=l.length * e.creates.length:=by
  intro l
  induction l with
  | nil=>simp
  | cons a l ih=>rw[List.flatMap_cons,List.length_append,ih,List.length_map,List.length_cons,Nat.succ_mul]; omega
 rw[this]
 exact Nat.le_trans (Nat.mul_le_mul h.1 h.2) (by decide)
theorem z0s {es:List zo} {d:zq} : d∈demandsL es↔∃i,∃hi:i<es.length,∃q∈es[i].deletes,∃p∈es[i].creates,d=⟨(i:Int),q,p,1⟩:=by
 unfold demandsL blockD
 simp only[List.mem_flatMap,List.mem_range,List.mem_map]
 constructor
 ·rintro⟨i,hi,q,hq,p,hp,rfl⟩
  have e:es.getD i ⟨[],[]⟩=es[i]:=by simp[hi]
  rw[e] at hq hp
  exact⟨i,hi,q,hq,p,hp,rfl⟩
 ·rintro⟨i,hi,q,hq,p,hp,rfl⟩
  have e:es.getD i ⟨[],[]⟩=es[i]:=by simp[hi]
  exact⟨i,hi,q,by rw[e]; exact hq,p,by rw[e]; exact hp,rfl⟩
theorem zr3 {es:List zo} {n:Nat} (hE:EOk es n):(demandsL es).length≤10000:=by
 have h6:=hE.few
 unfold demandsL
 have:∀l:List Nat,(∀i∈l,i<es.length)→(l.flatMap fun i=>blockD i (es.getD i ⟨[],[]⟩)).length≤1024 * l.length:=by
  intro l
  induction l with
  | nil=>intro _; simp
  | cons a l ih =>
   intro h
   have h1:=ih fun i hi=>h i (List.mem_cons_of_mem _ hi)
   have ha:=h a List.mem_cons_self
   have he:=hE.each _ (List.getElem_mem ha)
   have h2:=zqi a (es.getD a ⟨[],[]⟩) (by rw[show es.getD a ⟨[],[]⟩=es[a] by simp[ha]]; exact he.2.2)
   rw[List.flatMap_cons,List.length_append,List.length_cons]
   omega
 have:=this (List.range es.length) (fun i hi=>List.mem_range.1 hi)
 rw[List.length_range] at this
 omega
theorem z6e {es:List zo} {n:Nat} (hE:EOk es n):zdi es=some (demandsL es):=by
 have h6:=hE.few
 unfold zdi
 rw[zbx (zbk (by omega))]
 have e:=zdx (K:=fun s:List zq=>some s) (s:=([]:List zq)) (List.range es.length) (fun s i=>s++blockD i (es.getD i ⟨[],[]⟩)) (fun i s=>s.length≤1024 * i) (by simp)
  (f:=fun i1486 (s1486:(List zq)) nxts1486 brks1486=>thn (es[i1486]?) fun e1539=>chk (e1539.deletes.length≤fuel) <| forN (fun i1558 (s1558:(List zq)) nxts1558 brks1558=>thn (e1539.deletes[i1558]?) fun e1575=>chk (e1539.creates.length≤fuel) <| forN (fun i1582 (s1582:(List zq)) nxts1582 brks1582=>thn (e1539.creates[i1582]?) fun e1587=>chk (s1582.length+1≤68719476736) <| nxts1582 (s1582++[(⟨((i1486:Nat):Int),e1575,e1587,1⟩:zq)])) (e1539.creates.length - 0) 0 s1558 fun s1582=>nxts1558 s1582) (e1539.deletes.length - 0) 0 s1486 fun s1558=>nxts1486 s1558)
  (fun i hi s hs=>by
   have hi':i<es.length:=by simpa using hi
   have hx:=hE.each _ (List.getElem_mem hi')
   rw[List.getElem_range]
   have eg:es.getD i ⟨[],[]⟩=es[i]:=by simp[hi']
   refine⟨fun nxt=>?_,by have:=zqi i _ (eg ▸ hx.2.2); rw[List.length_append]; omega⟩
   rw[zb4 hi',eg]
   generalize es[i]=a at hx
   rw[zbx (zbk (by omega))]
   rw[(zdx a.deletes (fun (s:List zq) q=>s++a.creates.map fun p=>(⟨(i:Int),q,p,1⟩:zq)) (fun j s=>s.length≤1024 * i+32 * j) (by omega) (fun j hj s hs=>⟨fun nxt=>by
    rw[zb4 hj,zbx (zbk (by omega))]
    rw[(zdx a.creates (fun (s:List zq) p=>s++[(⟨(i:Int),a.deletes[j],p,1⟩:zq)]) (fun k s=>s.length≤1024 * i+32 * j+k) (by omega) (fun k hk s hs=>⟨fun nxt=>by rw[zb4 hk,zbx (by omega)],by simp; omega⟩)).1]
    rw[zl8],by simp; omega⟩)).1]
   rw[zkm]
   rfl)
 rw[List.length_range] at e
 rw[e.1,zkm,List.nil_append]
 rfl
theorem z4h {t:zk} {rules:List zu} (hF:ziz t rules) (hG:zol t rules):zee t rules=some (demandsL (rules.map (effL t))):=by
 have hE:=zqn hG
 have h6:=hG.six
 unfold zee
 rw[zbx (zbk (by omega))]
 have e:=zdx (K:=fun s:List zq=>some s) (s:=([]:List zq)) (List.range rules.length) (fun s i=>s++blockD i ((rules.map (effL t)).getD i ⟨[],[]⟩)) (fun i s=>s.length≤1024 * i) (by simp)
  (f:=fun i4074 (s4074:(List zq)) nxts4074 brks4074=>thn (rules[i4074]?) fun e4180=>thn (zce t e4180) fun r4181=>thn (zcr t e4180) fun r4182=>chk (r4181.length≤fuel) <| forN (fun i4218 (s4218:(List zq)) nxts4218 brks4218=>chk (r4182.length≤fuel) <| forN (fun i4264 (s4264:(List zq)) nxts4264 brks4264=>thn (r4181[i4218]?) fun e4280=>thn (r4182[i4264]?) fun e4281=>chk (s4264.length+1≤68719476736) <| nxts4264 (s4264++[(⟨((i4074:Nat):Int),e4280,e4281,1⟩:zq)])) (r4182.length - 0) 0 s4218 fun s4264=>nxts4218 s4264) (r4181.length - 0) 0 s4074 fun s4218=>nxts4074 s4218)
  (fun i hi s hs=>by
   have hi':i<rules.length:=by simpa using hi
   have hm:=List.getElem_mem hi'
   have hx:=hE.each _ (List.mem_map.2 ⟨_,hm,rfl⟩)
   rw[List.getElem_range,zqh hi']
   refine⟨fun nxt=>?_,by have:=zqi i _ hx.2.2; rw[List.length_append]; omega⟩
   rw[zb4 hi',zj (zmc hF.types (hF.each _ hm) (hG.each _ hm)),zj (zs6 hF.types (hF.each _ hm) (hG.each _ hm))]
   generalize effL t rules[i]=a at hx
   rw[zbx (zbk (by omega))]
   rw[(zdx a.deletes (fun (s:List zq) q=>s++a.creates.map fun p=>(⟨(i:Int),q,p,1⟩:zq)) (fun j s=>s.length≤1024 * i+32 * j) (by omega) (fun j hj s hs=>⟨fun nxt=>by
    rw[zbx (zbk (by omega))]
    rw[(zdx a.creates (fun (s:List zq) p=>s++[(⟨(i:Int),a.deletes[j],p,1⟩:zq)]) (fun k s=>s.length≤1024 * i+32 * j+k) (by omega) (fun k hk s hs=>⟨fun nxt=>by rw[zb4 hj,zb4 hk,zbx (by omega)],by simp; omega⟩)).1]
    rw[zl8],by simp; omega⟩)).1]
   rw[zkm]
   rfl)
 rw[List.length_range] at e
 rw[e.1,zkm,List.nil_append]
 unfold demandsL
 rw[List.length_map]

def dEq (a b:zq):Bool:=decide (a.rule=b.rule)&&(decide (a.src=b.src)&&(decide (a.dst=b.dst)&&decide (a.strict=b.strict)))
theorem zro {a b:zq} : dEq a b=true↔a=b:=by
 unfold dEq
 simp only[Bool.and_eq_true,decide_eq_true_eq]
 constructor
 ·rintro⟨h1,h2,h3,h4⟩; cases a; cases b; simp_all
 ·rintro rfl; exact⟨rfl,rfl,rfl,rfl⟩
theorem zbc4 (a b:zq):dEq a b=dEq b a:=by
 rw[Bool.eq_iff_iff,zro,zro]; exact eq_comm
def hasD (known:List zq) (d:zq):Bool:=known.any fun k=>dEq d k
theorem zbdk {known:List zq} {d:zq} : hasD known d=true↔d∈known:=by
 unfold hasD
 rw[List.any_eq_true]
 constructor
 ·rintro⟨k,hk,h⟩; rw[zro.1 h]; exact hk
 ·intro h; exact⟨d,h,zro.2 rfl⟩
theorem zrw {l:List zq} (hl:l.length≤1000000) (d:zq):zc7 l d=some (hasD l d):=by
 have h:zfd l d=some (idxQ (fun k=>dEq d k) l):=by
  unfold zfd
  rw[zbx (zbk (by omega))]
  refine zhs l (fun k=>dEq d k) (fun i hi nxt=>?_) rfl
  rw[zb4 hi]; rfl
 unfold zc7
 rw[zj h,zjk]; rfl
def chainB (P:zq→Bool):Int→List zq→Bool
 | _,[]=>true
 | s,d :: r=>P d&&(decide (d.src=s)&&chainB P d.dst r)
theorem ztk {σ : Type} {f : Nat → σ → (σ → Option Bool) → (σ → Option Bool) → Option Bool} {K : σ → Option Bool} (P : zq → Bool) (l : List zq) (π : σ → Int) (ν : zq → σ) (hν : ∀ d, π (ν d) = d.dst)
  (h:∀i (hi:i<l.length) s nxt,f i s nxt K=cond (P l[i]) (cond (decide (l[i].src=π s)) (nxt (ν l[i])) (some false)) (some false)) (hK:∀s,K s=some true) (s:σ):forN f (l.length - 0) 0 s K=some (chainB P (π s) l):=by
 have key:∀ (k i:Nat),i+k=l.length→∀s,forN f k i s K=some (chainB P (π s) (l.drop i)):=by
  intro k
  induction k with
  | zero=>intro i hk s; rw[List.drop_eq_nil_of_le (by omega)]; exact hK s
  | succ k ih =>
   intro i hk s
   rw[forN,h i (by omega),List.drop_eq_getElem_cons (by omega),chainB,ih (i+1) (by omega),hν]
   cases P l[i] with
   | false=>rfl
   | true=>cases decide (l[i].src=π s)<;>rfl
 have:=key (l.length - 0) 0 (by omega) s
 simpa using this
def lastD (l:List zq):zq:=l.getD (l.length - 1) ⟨0,0,0,0⟩
def headB (es:List zo) (d:zq):Bool:=decide (0≤d.rule)&&(decide (d.rule<es.length)&&(decide (d.src = -1)&&(decide (d.dst = -1)&&decide ((((es.getD d.rule.toNat ⟨[],[]⟩).deletes.length:Nat):Int)=0))))
def reasonL (es:List zo):List zq→Bool
 | []=>false
 | d :: r=>if 40<(d :: r).length then false else if d.strict=0 then (decide (r=[])&&headB es d) else chainB (hasD (demandsL es)) (lastD (d :: r)).dst (d :: r)
theorem zrb (es:List zo) (d:zq) (r:List zq):reasonL es (d :: r)=if 40<(d :: r).length then false else if d.strict=0 then (decide (r=[])&&headB es d) else chainB (hasD (demandsL es)) (lastD (d :: r)).dst (d :: r):=rfl
noncomputable def reasonB (t:zk) (rules:List zu) (l:List zq):Bool:=decide (givenE t rules=0)&&reasonL (rules.map (effL t)) l
theorem z07 {l:List zq} (h:0<l.length) (h':l.length≤1000000):atZ l (IntKind.i64.wrap (((l.length:Nat):Int) - 1))=some (lastD l):=by
 rw[wrapI (by omega)]
 unfold atZ lastD
 rw[if_pos (by omega),show (((l.length:Nat):Int) - 1).toNat=l.length - 1 by omega,List.getElem?_eq_getElem (by omega)]
 simp[show l.length - 1<l.length by omega]
theorem zbft {es:List zo} {p:Int} (h0:0≤p) (h:p<es.length):atZ es p=some (es.getD p.toNat ⟨[],[]⟩):=by
 have hi:p.toNat<es.length:=by omega
 unfold atZ; rw[if_pos h0,List.getElem?_eq_getElem hi]; simp[hi]
theorem strict1 {es:List zo} {d:zq} (h:d.strict=0):hasD (demandsL es) d=false:=by
 refine Bool.eq_false_iff.2 fun hk=>?_
 obtain⟨i,hi,q,hq,p,hp,rfl⟩:=z0s.1 (zbdk.1 hk)
 cases h
theorem zwh {t:zk} {rules:List zu} (hF:ziz t rules) {l:List zq} (hl:l.length≤1000000):zd8 t rules l=some (reasonB t rules l):=by
 unfold zd8 reasonB
 rw[zj (zua hF)]
 by_cases h:¬ (givenE t rules=0)
 ·rw[if_neg h,zw (p:=givenE t rules=0),if_neg h,decide_eq_false h,Bool.false_and]
 have h:=Decidable.of_not_not h
 have hG:=zmr hF h
 have hE:=zqn hG
 rw[if_pos h,decide_eq_true rfl,cond_true,decide_eq_true h,Bool.true_and]
 dsimp only
 have hk:=zr3 hE
 generalize rules.map (effL t)=es at hE hk ⊢
 cases l with
 | nil=>rfl
 | cons d r =>
 rw[zrb]
 rw[decide_eq_false (show ¬ ((((d :: r).length:Nat):Int)=0) by rw[List.length_cons]; omega),cond_false,zw (p:=(40:Int)<(((d :: r).length:Nat):Int))]
 by_cases h40:40<(d :: r).length
 ·rw[if_pos (show (40:Int)<(((d :: r).length:Nat):Int) by omega),if_pos h40]
 rw[if_neg (show ¬ ((40:Int)<(((d :: r).length:Nat):Int)) by omega),if_neg h40]
 rw[List.getElem?_cons_zero,zph]
 have gen:(thn (zdi es) fun r3916=>thn (atZ (d :: r) (IntKind.i64.wrap ((((d :: r).length:Nat):Int) - 1))) fun e3917=>chk ((d :: r).length≤fuel) <| forN (fun i3923 (s3923:Int) nxts3923 brks3923=>thn ((d :: r)[i3923]?) fun e3928=>thn (zc7 r3916 e3928) fun r3929=>cond r3929 (cond (decide (e3928.src=s3923)) (nxts3923 e3928.dst) <| some false) <| some false) ((d :: r).length - 0) 0 e3917.dst fun s3923=>some true)=some (chainB (hasD (demandsL es)) (lastD (d :: r)).dst (d :: r)):=by
  rw[zj (z6e hE),zj (z07 (by simp) hl),zbx (zbk (by omega))]
  refine ztk (hasD (demandsL es)) (d :: r) (fun s:Int=>s) (fun d=>d.dst) (fun _=>rfl) (fun i hi s nxt=>?_) (fun _=>rfl) _
  rw[zb4 hi,zj (zrw (by omega) _)]
 have general0:d.strict=0→chainB (hasD (demandsL es)) (lastD (d :: r)).dst (d :: r)=false:=fun h=>by rw[chainB,strict1 h,Bool.false_and]
 rw[gen]
 by_cases hs:d.strict=0
 ·rw[if_pos hs,general0 hs]
  cases r with
  | cons d2 r2 =>
   rw[decide_eq_false (show ¬ ((((d :: d2 :: r2).length:Nat):Int)=1) by simp only[List.length_cons]; omega),cond_false]
   rfl
  | nil =>
   rw[decide_eq_true (show ((([d].length:Nat):Int)=1) by rfl),cond_true,decide_eq_true hs,cond_true]
   unfold headB
   by_cases c1:0≤d.rule
   ·by_cases c2:d.rule<(es.length:Nat)
    ·rw[zj (zbft c1 c2)]
     rw[decide_eq_true c1,decide_eq_true c2]
     cases decide (d.src = -1)<;>cases decide (d.dst = -1)<;>rfl
    ·rw[decide_eq_false c2]
     cases decide (d.src = -1)<;>cases decide (d.dst = -1)<;>cases decide (0≤d.rule)<;>rfl
   ·rw[decide_eq_false c1]
    cases decide (d.src = -1)<;>cases decide (d.dst = -1)<;>rfl
 ·rw[if_neg hs]
  rw[decide_eq_false hs,cond_false]
  cases decide ((((d :: r).length:Nat):Int)=1)<;>rfl
theorem zuv {t:zk} {rules:List zu} (hF:ziz t rules) {l:List zq} (hl:l.length≤1000000):zdp t rules l=some (reasonB t rules l):=by
 unfold zdp reasonB
 rw[zj (zbca hF),zw (p:=givenE t rules=0)]
 by_cases h:¬ (givenE t rules=0)
 ·rw[if_neg h,decide_eq_false h,Bool.false_and]
 have h:=Decidable.of_not_not h
 have hG:=zmr hF h
 have hE:=zqn hG
 have hk:=zr3 hE
 rw[if_pos h,decide_eq_true h,Bool.true_and]
 cases l with
 | nil=>rfl
 | cons d r =>
 rw[zrb]
 rw[decide_eq_false (show ¬ ((((d :: r).length:Nat):Int)=0) by rw[List.length_cons]; omega),cond_false,zw (p:=(40:Int)<(((d :: r).length:Nat):Int))]
 by_cases h40:40<(d :: r).length
 ·rw[if_pos (show (40:Int)<(((d :: r).length:Nat):Int) by omega),if_pos h40]
 rw[if_neg (show ¬ ((40:Int)<(((d :: r).length:Nat):Int)) by omega),if_neg h40]
 rw[List.getElem?_cons_zero,zph,zw (p:=d.strict=0)]
 by_cases hs:d.strict=0
 ·rw[if_pos hs,if_pos hs]
  cases r with
  | cons d2 r2 =>
   rw[decide_eq_false (show ¬ ((((d :: d2 :: r2).length:Nat):Int)=1) by simp only[List.length_cons]; omega),cond_false]
   rfl
  | nil =>
   rw[decide_eq_true (show ((([d].length:Nat):Int)=1) by rfl),cond_true]
   unfold headB
   rw[List.length_map]
   by_cases c1:0≤d.rule
   ·by_cases c2:d.rule<(rules.length:Nat)
    ·have hi:d.rule.toNat<rules.length:=by omega
     rw[show atZ rules d.rule=some rules[d.rule.toNat] by unfold atZ; rw[if_pos c1,List.getElem?_eq_getElem hi],zph]
     have hm:=List.getElem_mem hi
     rw[zj (zmc hF.types (hF.each _ hm) (hG.each _ hm)),zqh hi]
     rw[decide_eq_true c1,decide_eq_true c2]
     cases decide (d.src = -1)<;>cases decide (d.dst = -1)<;>rfl
    ·rw[decide_eq_false c2,decide_eq_true c1]; rfl
   ·rw[decide_eq_false c1]; rfl
 ·rw[if_neg hs,if_neg hs]
  rw[zj (z4h hF hG),zj (z07 (by simp) hl),zbx (zbk (by omega))]
  refine ztk (hasD (demandsL (rules.map (effL t)))) (d :: r) (fun s:Int×Int×Int×Int=>s.2.2.1) (fun d=>(d.rule,d.src,d.dst,d.strict)) (fun _=>rfl) (fun i hi s nxt=>?_) (fun _=>rfl) _
  rw[zbx (zbk (by omega))]
  have anyfold:∀ (q:zq→Bool) (l:List zq) (b:Bool),l.foldl (fun s a=>s||q a) b=(b||l.any q):=by
   intro q l
   induction l with
   | nil=>intro b; simp
   | cons a l ih=>intro b; rw[List.foldl_cons,ih,List.any_cons,Bool.or_assoc]
  rw[(zdx (demandsL (rules.map (effL t))) (fun (s:Bool) k=>s||dEq k (d :: r)[i]) (fun _ _=>True) trivial (fun j hj s _=>⟨fun nxt=>by
   cases s with
   | true=>rfl
   | false=>rw[cond_false,zb4 hj,zb4 hi,Bool.false_or]; rfl,trivial⟩)).1]
  rw[anyfold,Bool.false_or]
  have:((demandsL (rules.map (effL t))).any fun k=>dEq k (d :: r)[i])=hasD (demandsL (rules.map (effL t))) (d :: r)[i]:=by
   unfold hasD; congr 1; funext k; exact zbc4 _ _
  rw[this,zb4 hi]
theorem zuc {l:List zq} (h:l.length≤1000000):zh1 l=some l:=zhc h
theorem zoo (t:zk) (rules:List zu) (l:List zq) (h1:FitT t) (h2:∀r∈rules,FitR r):zcs t rules l=some true:=by
 unfold zcs
 rw[zj zpm,cond_true]
 obtain⟨b,hb,hf⟩:=zbgn h1 h2
 rw[zj hb]
 cases b with
 | false=>rw[cond_false,zj zpm]
 | true =>
 have hF:=hf rfl
 rw[cond_true,zw (p:=(50:Int)<((l.length:Nat):Int))]
 by_cases h:(50:Int)<((l.length:Nat):Int)
 ·rw[if_pos h,zj zpm]
 rw[if_neg h,zj (zuc (by omega)),zj (show zd8 ⟨t.nodes,t.edges⟩ rules l=_ from zwh hF (by omega)),zj (zuv hF (by omega)),beq_self_eq_true]
end Go.Proofs.YthjgdkloabgcoaaGreat
namespace Go.Proofs.YthjgdkloabgcoaaGreat
open Go.Abs
open Go.ChangeShapes Go.WideShapes Go.ChangeAt Go.RowKit
variable {w:World} {H:Type} {enc:TypeId×Value→H}

set_option maxRecDepth 100000 in
theorem zl0:Tryz.prog.funcNamed Rows.layeringCheckReasonRow.func=some 4:=by kernel_rfl
set_option maxRecDepth 100000 in
theorem zlx:joinedFacts Tryz.prog 4 Tryz.f4 Rows.layeringCheckReasonSpec Rows.layeringCheckReasonRow=true:=by kernel_rfl
set_option maxRecDepth 100000 in
theorem zmm (l:∀ (a0:zk) (a1:List zu) (a2:List zq),G25 a0→G26 a1→G29 a2→zcs a0 a1 a2=some true):Rows.LayeringCheckReasonSaid :=
 OpenClaim.holds_of_wide 4 Tryz.f4 rfl rfl rfl rfl rfl rfl rfl ⟨rfl,rfl,rfl,rfl,rfl⟩ rfl rfl rfl rfl rfl zl0 Tryz.func4 zlx
  (of_decide_eq_true (by kernel_rfl)) (by unfold Func.isWrapper; first | (rw[if_pos (by decide +kernel)]; kernel_rfl) | (rw[if_neg (by decide +kernel)]; exact⟨rfl,rfl⟩))
  (fun os started H enc _=>z9s (C:=Tryz.checked) (α:=zk×(List zu)×(List zq)×Unit) (e:=fun x=>[.agg [.lst (x.1.nodes.map encNode),.lst (x.1.edges.map encEdgeT)],.lst (x.2.1.map zbn),.lst (x.2.2.1.map zm)]) (G:=fun x=>G25 x.1∧G26 x.2.1∧G29 x.2.2.1∧True) (s:=Rows.layeringCheckReasonSpec) (conds:=Rows.layeringCheckReasonRow.domain) (by kernel_rfl) zbel started (by kernel_rfl) Tryz.func4
   (ChangeSpec.witness6 (enc:=enc) (C:=Tryz.checked) false ⟨#[],#[.agg #[.slice none 0 0,.slice none 0 0],.slice none 0 0,.slice none 0 0],[]⟩ 8 (by kernel_rfl) (by kernel_rfl) (by kernel_rfl) (by kernel_rfl))
   rfl Tryz.underlying4 rfl (fun ds hl=>by match ds,hl with | [d0,d1,d2],_=>exact⟨rfl,rfl,rfl⟩) (fun W=>by
   rw[Tryz.params4]
   exact (.cons (show DecV Tryz.prog W enc 25 (fun x:zk=>.agg [.lst (x.nodes.map encNode),.lst (x.edges.map encEdgeT)]) G25 from DecV.struct Tryz.underlying25 d25 (by kernel_rfl) (of_decide_eq_true (by kernel_rfl)))
   (.cons (show DecV Tryz.prog W enc 26 (fun x:List zu=>.lst (x.map zbn)) G26 from DecV.one (zr8 Tryz.underlying26) d26 (by kernel_rfl) (of_decide_eq_true (by kernel_rfl)))
   (.cons (show DecV Tryz.prog W enc 29 (fun x:List zq=>.lst (x.map zm)) G29 from DecV.one (zr8 Tryz.underlying29) d29 (by kernel_rfl) (of_decide_eq_true (by kernel_rfl)))
   .nil)))) (fun x h=>zi5 x.1 x.2.1 x.2.2.1 true (l x.1 x.2.1 x.2.2.1 h.1 h.2.1 h.2.2.1)))
end Go.Proofs.YthjgdkloabgcoaaGreat
