/- Joined texts, part 7: lemmas for the statement. No condition. -/
import Derived.Test.YthjgdkloabgcoaaGreatJ4
import Derived.Test.YthjgdkloabgcoaaGreatJ6
import Derived.Test.YthjgdkloabgcoaaGreatJ5
import Derived.Test.YthjgdkloabgcoaaGreatRows
import Derived.Test.YthjgdkloabgcoaaGreatJ3
set_option maxHeartbeats 4000000
set_option linter.unusedSimpArgs false
set_option linter.unusedVariables false
open Nat (reduceEqDiff reduceLT reduceLeDiff reduceMul reduceAdd reduceSub)
set_option maxRecDepth 20000
namespace Go.Proofs.YthjgdkloabgcoaaGreat
open Go.Abs


noncomputable section
theorem zj0 (a0:zl) (a1:zu) (r:Int) (h:zb5 a0 a1=some r):zh Tryz.prog 92 [.agg [.lst (a0.nodes.map encNode),.lst (a0.edges.map encEdgeT)],.agg (zbj a1)] (fun v=>v = .val (.int .i64 r)):=by
 refine zh.ple ?_
 refine zf [] Ty.mixed Tryz.func92 rfl (by kernel_rfl) (by simp[Tryz.ntmps92]) ?_; rw[Tryz.ntmps92,Tryz.results92]
 unfold zb5 at h
 obtain⟨r2,hr2,h⟩:=zm h
 try simp -implicitDefEqProofs only[go_sem]
 refine callG (zgh a0 r2 hr2) (by simp -implicitDefEqProofs only[go_sem]<;>rfl) (zb _) (by first | exact pers | exact scal rfl) ?_
 try simp -implicitDefEqProofs only[go_sem]
 refine zg (fun b3=>?_) (fun b3=>?_)
 ·replace h:=zd h b3
  obtain⟨r4,hr4,h⟩:=zm h
  try simp -implicitDefEqProofs only[go_sem,b3]
  refine callG (znl a1.name r4 hr4) (by simp -implicitDefEqProofs only[go_sem,b3]<;>rfl) (zb _) (by first | exact pers | exact scal rfl) ?_
  try simp -implicitDefEqProofs only[go_sem,b3]
  refine zg (fun b5=>?_) (fun b5=>?_)
  ·replace h:=zd h b5
   obtain⟨r6,hr6,h⟩:=zm h
   try simp -implicitDefEqProofs only[go_sem,b3,b5]
   refine callG (zho (⟨a0.nodes,a0.edges⟩:zl) a1.left r6 hr6) (by simp -implicitDefEqProofs only[go_sem,b3,b5]<;>rfl) (zb _) (by first | exact pers | exact scal rfl) ?_
   try simp -implicitDefEqProofs only[go_sem,b3,b5]
   refine zg (fun b7=>?_) (fun b7=>?_)
   ·replace h:=zd h b7
    obtain⟨r8,hr8,h⟩:=zm h
    try simp -implicitDefEqProofs only[go_sem,b3,b5,b7]
    refine callG (znw a0 (⟨a1.name,a1.left,a1.right,a1.keep,a1.into,a1.injective,a1.condition⟩:zu) r8 hr8) (by simp -implicitDefEqProofs only[go_sem,b3,b5,b7]<;>rfl) (zb _) (by first | exact pers | exact scal rfl) ?_
    try simp -implicitDefEqProofs only[go_sem,b3,b5,b7]
    refine zg (fun b9=>?_) (fun b9=>?_)
    ·replace h:=zd h b9
     obtain⟨r10,hr10,h⟩:=zm h
     try simp -implicitDefEqProofs only[go_sem,b3,b5,b7,b9]
     refine callG (zoy (⟨a1.name,a1.left,a1.right,a1.keep,a1.into,a1.injective,a1.condition⟩:zu) r10 hr10) (by simp -implicitDefEqProofs only[go_sem,b3,b5,b7,b9]<;>rfl) (zb _) (by first | exact pers | exact scal rfl) ?_
     try simp -implicitDefEqProofs only[go_sem,b3,b5,b7,b9]
     refine zg (fun b11=>?_) (fun b11=>?_)
     ·replace h:=zd h b11
      obtain⟨r12,hr12,h⟩:=zm h
      try simp -implicitDefEqProofs only[go_sem,b3,b5,b7,b9,b11]
      refine callG (zfl a1.into.nodes r12 hr12) (by simp -implicitDefEqProofs only[go_sem,b3,b5,b7,b9,b11]<;>rfl) (zb _) (by first | exact pers | exact scal rfl) ?_
      try simp -implicitDefEqProofs only[go_sem,b3,b5,b7,b9,b11]
      refine zq (fun b13=>?_) (fun b13=>?_)
      ·replace h:=zd h b13
       obtain⟨r14,hr14,h⟩:=zm h
       try simp -implicitDefEqProofs only[go_sem,b3,b5,b7,b9,b11,b13]
       refine callG (zfl a1.into.edges r14 hr14) (by simp -implicitDefEqProofs only[go_sem,b3,b5,b7,b9,b11,b13]<;>rfl) (zb _) (by first | exact pers | exact scal rfl) ?_
       try simp -implicitDefEqProofs only[go_sem,b3,b5,b7,b9,b11,b13]
       refine zg (fun b15=>?_) (fun b15=>?_)
       ·replace h:=zd h b15
        obtain⟨r16,hr16,h⟩:=zm h
        try simp -implicitDefEqProofs only[go_sem,b3,b5,b7,b9,b11,b13,b15]
        refine callfG 1896 (zje (⟨a1.name,a1.left,a1.right,a1.keep,a1.into,a1.injective,a1.condition⟩:zu) r16 hr16) (by simp -implicitDefEqProofs only[go_sem,b3,b5,b7,b9,b11,b13,b15]<;>rfl) (zb _) (by first | exact persF | exact flatF rfl | exact flatF (by simp[RV.flat,RV.flatL,PV.scalar,isVal,encI,encI])) (by simp -implicitDefEqProofs only[go_sem,b3,b5,b7,b9,b11,b13,b15]) ?_
        obtain⟨r17,hr17,h⟩:=zm h
        try simp -implicitDefEqProofs only[go_sem,b3,b5,b7,b9,b11,b13,b15]
        refine callG (znh a0 a1.right.graph r16.1 r16.2 r17 hr17) (by simp -implicitDefEqProofs only[go_sem,b3,b5,b7,b9,b11,b13,b15]<;>rfl) (zb _) (by first | exact pers | exact scal rfl) ?_
        try simp -implicitDefEqProofs only[go_sem,b3,b5,b7,b9,b11,b13,b15]
        refine zg (fun b18=>?_) (fun b18=>?_)
        ·replace h:=zd h b18
         obtain⟨r19,hr19,h⟩:=zm h
         try simp -implicitDefEqProofs only[go_sem,b3,b5,b7,b9,b11,b13,b15,b18]
         refine callG (znr a0 a1.left a1.condition r19 hr19) (by simp -implicitDefEqProofs only[go_sem,b3,b5,b7,b9,b11,b13,b15,b18]<;>rfl) (zb _) (by first | exact pers | exact scal rfl) ?_
         cases h
         try simp -implicitDefEqProofs only[go_sem,b3,b5,b7,b9,b11,b13,b15,b18]
         all_goals((repeat' apply And.intro)<;>rfl)
        ·replace h:=ze h b18
         cases h
         try simp -implicitDefEqProofs only[go_sem,b3,b5,b7,b9,b11,b13,b15,b18]
         all_goals((repeat' apply And.intro)<;>rfl)
       ·replace h:=ze h b15
        cases h
        try simp -implicitDefEqProofs only[go_sem,b3,b5,b7,b9,b11,b13,b15]
        all_goals((repeat' apply And.intro)<;>rfl)
      ·replace h:=ze h b13
       cases h
       try simp -implicitDefEqProofs only[go_sem,b3,b5,b7,b9,b11,b13]
       all_goals((repeat' apply And.intro)<;>rfl)
     ·replace h:=ze h b11
      cases h
      try simp -implicitDefEqProofs only[go_sem,b3,b5,b7,b9,b11]
      all_goals((repeat' apply And.intro)<;>rfl)
    ·replace h:=ze h b9
     cases h
     try simp -implicitDefEqProofs only[go_sem,b3,b5,b7,b9]
     all_goals((repeat' apply And.intro)<;>rfl)
   ·replace h:=ze h b7
    cases h
    try simp -implicitDefEqProofs only[go_sem,b3,b5,b7]
    all_goals((repeat' apply And.intro)<;>rfl)
  ·replace h:=ze h b5
   cases h
   try simp -implicitDefEqProofs only[go_sem,b3,b5]
   all_goals((repeat' apply And.intro)<;>rfl)
 ·replace h:=ze h b3
  cases h
  try simp -implicitDefEqProofs only[go_sem,b3]
  all_goals((repeat' apply And.intro)<;>rfl)
theorem z0d (a0:zu) (r:Int) (h:zi8 a0=some r):zh Tryz.prog 151 [.agg (zbj a0)] (fun v=>v = .val (.int .i64 r)):=by
 refine zh.ple ?_
 refine zf [] Ty.mixed Tryz.func151 rfl (by kernel_rfl) (by simp[Tryz.ntmps151]) ?_; rw[Tryz.ntmps151,Tryz.results151]
 unfold zi8 at h
 obtain⟨r1,hr1,h⟩:=zm h
 try simp -implicitDefEqProofs only[go_sem]
 refine callfG 1208 (zq5 a0.left.graph a0.keep r1 hr1) (by simp -implicitDefEqProofs only[go_sem]<;>rfl) (zb _) (by first | exact persF | exact flatF rfl | exact flatF (by simp[RV.flat,RV.flatL,PV.scalar,isVal,encI,encEdge,encI,encI])) (by simp -implicitDefEqProofs only[go_sem]) ?_
 try simp -implicitDefEqProofs only[go_sem]
 refine zg (fun b2=>?_) (fun b2=>?_)
 ·replace h:=zd h b2
  obtain⟨r3,hr3,h⟩:=zm h
  try simp -implicitDefEqProofs only[go_sem,b2]
  refine callG (zkh r1.1 a0.right.graph a0.into r3 hr3) (by simp -implicitDefEqProofs only[go_sem,b2]<;>rfl) (zb _) (by first | exact pers | exact scal rfl) ?_
  try simp -implicitDefEqProofs only[go_sem,b2]
  refine zg (fun b4=>?_) (fun b4=>?_)
  ·replace h:=zd h b4
   obtain⟨r5,hr5,h⟩:=zm h
   try simp -implicitDefEqProofs only[go_sem,b2,b4]
   refine callG (zk0 r1.1 a0.right.graph a0.into r5 hr5) (by simp -implicitDefEqProofs only[go_sem,b2,b4]<;>rfl) (zb _) (by first | exact pers | exact scal rfl) ?_
   try simp -implicitDefEqProofs only[go_sem,b2,b4]
   refine zg (fun b6=>?_) (fun b6=>?_)
   ·replace h:=zd h b6
    cases h
    try simp -implicitDefEqProofs only[go_sem,b2,b4,b6]
    all_goals((repeat' apply And.intro)<;>rfl)
   ·replace h:=ze h b6
    cases h
    try simp -implicitDefEqProofs only[go_sem,b2,b4,b6]
    all_goals((repeat' apply And.intro)<;>rfl)
  ·replace h:=ze h b4
   cases h
   try simp -implicitDefEqProofs only[go_sem,b2,b4]
   all_goals((repeat' apply And.intro)<;>rfl)
 ·replace h:=ze h b2
  cases h
  try simp -implicitDefEqProofs only[go_sem,b2]
  all_goals((repeat' apply And.intro)<;>rfl)
theorem zrd (a0:zl) (a1:zu) (r:Int) (h:zgv a0 a1=some r):zh Tryz.prog 116 [.agg [.lst (a0.nodes.map encNode),.lst (a0.edges.map encEdgeT)],.agg (zbj a1)] (fun v=>v = .val (.int .i64 r)):=by
 refine zh.ple ?_
 refine zf [] Ty.mixed Tryz.func116 rfl (by kernel_rfl) (by simp[Tryz.ntmps116]) ?_; rw[Tryz.ntmps116,Tryz.results116]
 unfold zgv at h
 obtain⟨r2,hr2,h⟩:=zm h
 try simp -implicitDefEqProofs only[go_sem]
 refine callG (zmk a0 r2 hr2) (by simp -implicitDefEqProofs only[go_sem]<;>rfl) (zb _) (by first | exact pers | exact scal rfl) ?_
 try simp -implicitDefEqProofs only[go_sem]
 refine zg (fun b3=>?_) (fun b3=>?_)
 ·replace h:=zd h b3
  obtain⟨r4,hr4,h⟩:=zm h
  try simp -implicitDefEqProofs only[go_sem,b3]
  refine callG (zus a1.name r4 hr4) (by simp -implicitDefEqProofs only[go_sem,b3]<;>rfl) (zb _) (by first | exact pers | exact scal rfl) ?_
  try simp -implicitDefEqProofs only[go_sem,b3]
  refine zg (fun b5=>?_) (fun b5=>?_)
  ·replace h:=zd h b5
   obtain⟨r6,hr6,h⟩:=zm h
   try simp -implicitDefEqProofs only[go_sem,b3,b5]
   refine callG (zj6 (⟨a0.nodes,a0.edges⟩:zl) a1.left r6 hr6) (by simp -implicitDefEqProofs only[go_sem,b3,b5]<;>rfl) (zb _) (by first | exact pers | exact scal rfl) ?_
   try simp -implicitDefEqProofs only[go_sem,b3,b5]
   refine zg (fun b7=>?_) (fun b7=>?_)
   ·replace h:=zd h b7
    obtain⟨r8,hr8,h⟩:=zm h
    try simp -implicitDefEqProofs only[go_sem,b3,b5,b7]
    refine callG (zxs (⟨a0.nodes,a0.edges⟩:zl) (⟨a1.name,a1.left,a1.right,a1.keep,a1.into,a1.injective,a1.condition⟩:zu) r8 hr8) (by simp -implicitDefEqProofs only[go_sem,b3,b5,b7]<;>rfl) (zb _) (by first | exact pers | exact scal rfl) ?_
    try simp -implicitDefEqProofs only[go_sem,b3,b5,b7]
    refine zg (fun b9=>?_) (fun b9=>?_)
    ·replace h:=zd h b9
     obtain⟨r10,hr10,h⟩:=zm h
     try simp -implicitDefEqProofs only[go_sem,b3,b5,b7,b9]
     refine callG (z0d (⟨a1.name,a1.left,a1.right,a1.keep,a1.into,a1.injective,a1.condition⟩:zu) r10 hr10) (by simp -implicitDefEqProofs only[go_sem,b3,b5,b7,b9]<;>rfl) (zb _) (by first | exact pers | exact scal rfl) ?_
     try simp -implicitDefEqProofs only[go_sem,b3,b5,b7,b9]
     refine zg (fun b11=>?_) (fun b11=>?_)
     ·replace h:=zd h b11
      obtain⟨r12,hr12,h⟩:=zm h
      try simp -implicitDefEqProofs only[go_sem,b3,b5,b7,b9,b11]
      refine callfG 1704 (zo4 (⟨a1.name,a1.left,a1.right,a1.keep,a1.into,a1.injective,a1.condition⟩:zu) r12 hr12) (by simp -implicitDefEqProofs only[go_sem,b3,b5,b7,b9,b11]<;>rfl) (zb _) (by first | exact persF | exact flatF rfl | exact flatF (by simp[RV.flat,RV.flatL,PV.scalar,isVal,encI,encI])) (by simp -implicitDefEqProofs only[go_sem,b3,b5,b7,b9,b11]) ?_
      obtain⟨r13,hr13,h⟩:=zm h
      try simp -implicitDefEqProofs only[go_sem,b3,b5,b7,b9,b11]
      refine callG (zvn (⟨a0.nodes,a0.edges⟩:zl) a1.right.graph r12.1 r12.2 r13 hr13) (by simp -implicitDefEqProofs only[go_sem,b3,b5,b7,b9,b11]<;>rfl) (zb _) (by first | exact pers | exact scal rfl) ?_
      try simp -implicitDefEqProofs only[go_sem,b3,b5,b7,b9,b11]
      refine zg (fun b14=>?_) (fun b14=>?_)
      ·replace h:=zd h b14
       obtain⟨r15,hr15,h⟩:=zm h
       try simp -implicitDefEqProofs only[go_sem,b3,b5,b7,b9,b11,b14]
       refine callG (zsi a0 a1.left a1.condition r15 hr15) (by simp -implicitDefEqProofs only[go_sem,b3,b5,b7,b9,b11,b14]<;>rfl) (zb _) (by first | exact pers | exact scal rfl) ?_
       cases h
       try simp -implicitDefEqProofs only[go_sem,b3,b5,b7,b9,b11,b14]
       all_goals((repeat' apply And.intro)<;>rfl)
      ·replace h:=ze h b14
       cases h
       try simp -implicitDefEqProofs only[go_sem,b3,b5,b7,b9,b11,b14]
       all_goals((repeat' apply And.intro)<;>rfl)
     ·replace h:=ze h b11
      cases h
      try simp -implicitDefEqProofs only[go_sem,b3,b5,b7,b9,b11]
      all_goals((repeat' apply And.intro)<;>rfl)
    ·replace h:=ze h b9
     cases h
     try simp -implicitDefEqProofs only[go_sem,b3,b5,b7,b9]
     all_goals((repeat' apply And.intro)<;>rfl)
   ·replace h:=ze h b7
    cases h
    try simp -implicitDefEqProofs only[go_sem,b3,b5,b7]
    all_goals((repeat' apply And.intro)<;>rfl)
  ·replace h:=ze h b5
   cases h
   try simp -implicitDefEqProofs only[go_sem,b3,b5]
   all_goals((repeat' apply And.intro)<;>rfl)
 ·replace h:=ze h b3
  cases h
  try simp -implicitDefEqProofs only[go_sem,b3]
  all_goals((repeat' apply And.intro)<;>rfl)
theorem zjc (a0:zl) (a1:zu) (r:(List Int)×(List Int)×Int) (h:zdz a0 a1=some r):zbt Tryz.prog 64 [.agg [.lst (a0.nodes.map encNode),.lst (a0.edges.map encEdgeT)],.agg (zbj a1)] (fun v=>v = .tup [.row 3 1 (r.1.map encI),.row 3 1 (r.2.1.map encI),.p (.val (.int .i64 r.2.2))]):=by
 refine zbt.rle ?_
 refine zbx [] Ty.mixed Tryz.func64 rfl (by kernel_rfl) (by simp[Tryz.ntmps64]) ?_; rw[Tryz.ntmps64,Tryz.results64]
 unfold zdz at h
 obtain⟨r2,hr2,h⟩:=zm h
 try simp -implicitDefEqProofs only[go_sem]
 refine callG (zj0 a0 (⟨a1.name,a1.left,a1.right,a1.keep,a1.into,a1.injective,a1.condition⟩:zu) r2 hr2) (by simp -implicitDefEqProofs only[go_sem]<;>rfl) (zb _) (by first | exact pers | exact scal rfl) ?_
 try simp -implicitDefEqProofs only[go_sem]
 refine zg (fun b3=>?_) (fun b3=>?_)
 ·replace h:=zd h b3
  obtain⟨r4,hr4,h⟩:=zm h
  try simp -implicitDefEqProofs only[go_sem,b3]
  refine callfG 1288 (zm2 (⟨a1.name,a1.left,a1.right,a1.keep,a1.into,a1.injective,a1.condition⟩:zu) r4 hr4) (by simp -implicitDefEqProofs only[go_sem,b3]<;>rfl) (zb _) (by first | exact persF | exact flatF rfl | exact flatF (by simp[RV.flat,RV.flatL,PV.scalar,isVal,encI,encI])) (by simp -implicitDefEqProofs only[go_sem,b3]) ?_
  cases h
  try simp -implicitDefEqProofs only[go_sem,b3]
  refine⟨by decide,_,.refl _,?_⟩
  simp -implicitDefEqProofs only[go_sem,b3]<;>((repeat' apply And.intro)<;>rfl)
 ·replace h:=ze h b3
  cases h
  try simp -implicitDefEqProofs only[go_sem,b3]
  refine⟨by decide,_,.refl _,?_⟩
  simp -implicitDefEqProofs only[go_sem,b3]<;>((repeat' apply And.intro)<;>rfl)
theorem zmz (a0:zl) (a1:zu) (r:(List Int)×(List Int)×Int) (h:zem a0 a1=some r):zbt Tryz.prog 75 [.agg [.lst (a0.nodes.map encNode),.lst (a0.edges.map encEdgeT)],.agg (zbj a1)] (fun v=>v = .tup [.row 3 1 (r.1.map encI),.row 3 1 (r.2.1.map encI),.p (.val (.int .i64 r.2.2))]):=by
 refine zbt.rle ?_
 refine zbx [] Ty.mixed Tryz.func75 rfl (by kernel_rfl) (by simp[Tryz.ntmps75]) ?_; rw[Tryz.ntmps75,Tryz.results75]
 unfold zem at h
 obtain⟨r2,hr2,h⟩:=zm h
 try simp -implicitDefEqProofs only[go_sem]
 refine callG (zj0 a0 a1 r2 hr2) (by simp -implicitDefEqProofs only[go_sem]<;>rfl) (zb _) (by first | exact pers | exact scal rfl) ?_
 try simp -implicitDefEqProofs only[go_sem]
 refine zg (fun b3=>?_) (fun b3=>?_)
 ·replace h:=zd h b3
  obtain⟨r4,hr4,h⟩:=zm h
  try simp -implicitDefEqProofs only[go_sem,b3]
  refine callfG 1288 (zje a1 r4 hr4) (by simp -implicitDefEqProofs only[go_sem,b3]<;>rfl) (zb _) (by first | exact persF | exact flatF rfl | exact flatF (by simp[RV.flat,RV.flatL,PV.scalar,isVal,encI,encI])) (by simp -implicitDefEqProofs only[go_sem,b3]) ?_
  cases h
  try simp -implicitDefEqProofs only[go_sem,b3]
  refine⟨by decide,_,.refl _,?_⟩
  simp -implicitDefEqProofs only[go_sem,b3]<;>((repeat' apply And.intro)<;>rfl)
 ·replace h:=ze h b3
  cases h
  try simp -implicitDefEqProofs only[go_sem,b3]
  refine⟨by decide,_,.refl _,?_⟩
  simp -implicitDefEqProofs only[go_sem,b3]<;>((repeat' apply And.intro)<;>rfl)
theorem zno (a0:zl) (a1:List zu) (r:Int) (h:ze9 a0 a1=some r):zh Tryz.prog 34 [.agg [.lst (a0.nodes.map encNode),.lst (a0.edges.map encEdgeT)],.lst (a1.map zbj)] (fun v=>v = .val (.int .i64 r)):=by
 refine zh.ple ?_
 refine zf [] Ty.mixed Tryz.func34 rfl (by kernel_rfl) (by simp[Tryz.ntmps34]) ?_; rw[Tryz.ntmps34,Tryz.results34]
 unfold ze9 at h
 obtain⟨r2,hr2,h⟩:=zm h
 try simp -implicitDefEqProofs only[go_sem]
 refine callG (zgh a0 r2 hr2) (by simp -implicitDefEqProofs only[go_sem]<;>rfl) (zb _) (by first | exact pers | exact scal rfl) ?_
 try simp -implicitDefEqProofs only[go_sem]
 refine zg (fun b3=>?_) (fun b3=>?_)
 ·replace h:=zd h b3
  try simp -implicitDefEqProofs only[go_sem,b3]
  refine zc (fun b4=>?_) (fun b4=>?_)
  ·replace h:=zd h b4
   cases h
   try simp -implicitDefEqProofs only[go_sem,b3,b4]
   all_goals((repeat' apply And.intro)<;>rfl)
  ·replace h:=ze h b4
   obtain⟨fus5,h⟩:=zbg h
   unfold fuel at fus5
   try simp -implicitDefEqProofs only[go_sem,b3,b4]
   refine zbe (fun x:(Nat×(Unit))×(Unit)=>envL [(1,.p (.lst (a1.map zbj))),(2,.ptr 2 0),(7,.p (.val (.int .i64 ((x.1.1:Nat):Int))))]) (fun x=>heapL [(2,.box [.p (.lst (a0.nodes.map encNode)),.p (.lst (a0.edges.map encEdgeT))])]) () h (weakL (by simp -implicitDefEqProofs only[go_sem,b3,b4]<;>((repeat' apply And.intro)<;>rfl))) ?_ ?_
   ·intro i5 s5 g5 nxts5 Rs5 his5 hNs5 h
    have hws5:=zt (k:=i5) his5 (by omega)
    try dsimp only at h
    try simp -implicitDefEqProofs only[go_sem,b3,b4,his5,hws5]
    refine zbn [.q,.q,.q,.q,.q,.q,.q,.q,.q,.q,.q,.q,.q] (by kernel_rfl) ?_
    obtain⟨e6,c6,g6,q6,h⟩:=zbu zbj h
    obtain⟨r7,hr7,h⟩:=zm h
    try simp -implicitDefEqProofs only[go_sem,b3,b4,his5,hws5,c6,g6]
    refine calldG (show zh _ _ _ (fun v=>v = .tup [.lst (r7.1.map encI),.lst (r7.2.1.map encI),.val (.int .i64 r7.2.2)]) from (zjc a0 e6 r7 hr7).toV1) (by simp -implicitDefEqProofs only[go_sem,b3,b4,his5,hws5,c6,g6]<;>rfl) (zb _) (by first | exact pers | exact scal rfl) ?_
    try simp -implicitDefEqProofs only[go_sem,b3,b4,his5,hws5,c6,g6]
    refine zg (fun b8=>?_) (fun b8=>?_)
    ·replace h:=zd h b8
     obtain⟨fus9,h⟩:=zbg h
     unfold fuel at fus9
     try simp -implicitDefEqProofs only[go_sem,b3,b4,his5,hws5,c6,g6,b8]
     refine zbe (fun x:(Nat×(Unit))×(Unit)=>envL [(1,.p (.lst (a1.map zbj))),(2,.ptr 2 0),(7,.p (.val (.int .i64 ((i5:Nat):Int)))),(8,.p (.lst (r7.1.map encI))),(11,.p (.val (.int .i64 ((x.1.1:Nat):Int))))]) (fun x=>heapL [(2,.box [.p (.lst (a0.nodes.map encNode)),.p (.lst (a0.edges.map encEdgeT))])]) () h (weakL (by simp -implicitDefEqProofs only[go_sem,b3,b4,his5,hws5,c6,g6,b8]<;>((repeat' apply And.intro)<;>rfl))) ?_ ?_
     ·intro i9 s9 g9 nxts9 Rs9 his9 hNs9 h
      have hws9:=zt (k:=i9) his9 (by omega)
      try dsimp only at h
      try simp -implicitDefEqProofs only[go_sem,b3,b4,his5,hws5,c6,g6,b8,his9,hws9]
      refine zbn [.q,.q,.q,.q,.q,.q,.q,.q,.q,.q,.q,.q,.q,.q,.q,.q,.q,.q,.q,.q] (by kernel_rfl) ?_
      obtain⟨e10,c10,g10,q10,h⟩:=zbu encI h
      obtain⟨e11,c11a,c11b,g11,q11,h⟩:=zce encI h
      have c11n:=zbv c11a c11b
      obtain⟨r12,hr12,h⟩:=zm h
      try simp -implicitDefEqProofs only[go_sem,b3,b4,his5,hws5,c6,g6,b8,his9,hws9,c10,g10,c11a,c11b,c11n,g11]
      refine calldG (show zh _ _ _ (fun v=>v = .tup [.lst (r12.1.map encI),.val (.int .i64 r12.2)]) from (znt a0 e11 r12 hr12).toV1) (by simp -implicitDefEqProofs only[go_sem,b3,b4,his5,hws5,c6,g6,b8,his9,hws9,c10,g10,c11a,c11b,c11n,g11]<;>rfl) (zb _) (by first | exact pers | exact scal rfl) ?_
      try simp -implicitDefEqProofs only[go_sem,b3,b4,his5,hws5,c6,g6,b8,his9,hws9,c10,g10,c11a,c11b,c11n,g11]
      refine zc (fun b13=>?_) (fun b13=>?_)
      ·replace h:=zd h b13
       cases h
       try simp -implicitDefEqProofs only[go_sem,b3,b4,his5,hws5,c6,g6,b8,his9,hws9,c10,g10,c11a,c11b,c11n,g11,b13]
       all_goals((repeat' apply And.intro)<;>rfl)
      ·replace h:=ze h b13
       try simp -implicitDefEqProofs only[go_sem,b3,b4,his5,hws5,c6,g6,b8,his9,hws9,c10,g10,c11a,c11b,c11n,g11,b13]
       exact hNs9 () () h (weakL (by simp -implicitDefEqProofs only[go_sem,b3,b4,his5,hws5,c6,g6,b8,his9,hws9,c10,g10,c11a,c11b,c11n,g11,b13]<;>((repeat' apply And.intro)<;>rfl)))
     ·intro i9 s9 g9 Rs9 hes9 h
      have hns9:¬ (i9<r7.1.length):=by omega
      try dsimp only at h
      try simp -implicitDefEqProofs only[go_sem,b3,b4,his5,hws5,c6,g6,b8,hns9]
      exact hNs5 () () h (weakL (by simp -implicitDefEqProofs only[go_sem,b3,b4,his5,hws5,c6,g6,b8,hns9]<;>((repeat' apply And.intro)<;>rfl)))
    ·replace h:=ze h b8
     cases h
     try simp -implicitDefEqProofs only[go_sem,b3,b4,his5,hws5,c6,g6,b8]
     all_goals((repeat' apply And.intro)<;>rfl)
   ·intro i5 s5 g5 Rs5 hes5 h
    have hns5:¬ (i5<a1.length):=by omega
    try dsimp only at h
    cases h
    try simp -implicitDefEqProofs only[go_sem,b3,b4,hns5]
    all_goals((repeat' apply And.intro)<;>rfl)
 ·replace h:=ze h b3
  cases h
  try simp -implicitDefEqProofs only[go_sem,b3]
  all_goals((repeat' apply And.intro)<;>rfl)
theorem zvc (a0:zl) (a1:zu) (r:(List Int)×(List Int)×Int) (h:zh9 a0 a1=some r):zbt Tryz.prog 84 [.agg [.lst (a0.nodes.map encNode),.lst (a0.edges.map encEdgeT)],.agg (zbj a1)] (fun v=>v = .tup [.row 3 1 (r.1.map encI),.row 3 1 (r.2.1.map encI),.p (.val (.int .i64 r.2.2))]):=by
 refine zbt.rle ?_
 refine zbx [] Ty.mixed Tryz.func84 rfl (by kernel_rfl) (by simp[Tryz.ntmps84]) ?_; rw[Tryz.ntmps84,Tryz.results84]
 unfold zh9 at h
 obtain⟨r2,hr2,h⟩:=zm h
 try simp -implicitDefEqProofs only[go_sem]
 refine callG (zrd a0 (⟨a1.name,a1.left,a1.right,a1.keep,a1.into,a1.injective,a1.condition⟩:zu) r2 hr2) (by simp -implicitDefEqProofs only[go_sem]<;>rfl) (zb _) (by first | exact pers | exact scal rfl) ?_
 try simp -implicitDefEqProofs only[go_sem]
 refine zg (fun b3=>?_) (fun b3=>?_)
 ·replace h:=zd h b3
  obtain⟨r4,hr4,h⟩:=zm h
  try simp -implicitDefEqProofs only[go_sem,b3]
  refine callfG 1288 (zu5 (⟨a1.name,a1.left,a1.right,a1.keep,a1.into,a1.injective,a1.condition⟩:zu) r4 hr4) (by simp -implicitDefEqProofs only[go_sem,b3]<;>rfl) (zb _) (by first | exact persF | exact flatF rfl | exact flatF (by simp[RV.flat,RV.flatL,PV.scalar,isVal,encI,encI])) (by simp -implicitDefEqProofs only[go_sem,b3]) ?_
  cases h
  try simp -implicitDefEqProofs only[go_sem,b3]
  refine⟨by decide,_,.refl _,?_⟩
  simp -implicitDefEqProofs only[go_sem,b3]<;>((repeat' apply And.intro)<;>rfl)
 ·replace h:=ze h b3
  cases h
  try simp -implicitDefEqProofs only[go_sem,b3]
  refine⟨by decide,_,.refl _,?_⟩
  simp -implicitDefEqProofs only[go_sem,b3]<;>((repeat' apply And.intro)<;>rfl)
theorem zvl (a0:zl) (a1:zu) (r:(List Int)×(List Int)×Int) (h:zhc a0 a1=some r):zbt Tryz.prog 87 [.agg [.lst (a0.nodes.map encNode),.lst (a0.edges.map encEdgeT)],.agg (zbj a1)] (fun v=>v = .tup [.row 3 1 (r.1.map encI),.row 3 1 (r.2.1.map encI),.p (.val (.int .i64 r.2.2))]):=by
 refine zbt.rle ?_
 refine zbx [] Ty.mixed Tryz.func87 rfl (by kernel_rfl) (by simp[Tryz.ntmps87]) ?_; rw[Tryz.ntmps87,Tryz.results87]
 unfold zhc at h
 obtain⟨r2,hr2,h⟩:=zm h
 try simp -implicitDefEqProofs only[go_sem]
 refine callG (zrd a0 a1 r2 hr2) (by simp -implicitDefEqProofs only[go_sem]<;>rfl) (zb _) (by first | exact pers | exact scal rfl) ?_
 try simp -implicitDefEqProofs only[go_sem]
 refine zg (fun b3=>?_) (fun b3=>?_)
 ·replace h:=zd h b3
  obtain⟨r4,hr4,h⟩:=zm h
  try simp -implicitDefEqProofs only[go_sem,b3]
  refine callfG 1288 (zo4 a1 r4 hr4) (by simp -implicitDefEqProofs only[go_sem,b3]<;>rfl) (zb _) (by first | exact persF | exact flatF rfl | exact flatF (by simp[RV.flat,RV.flatL,PV.scalar,isVal,encI,encI])) (by simp -implicitDefEqProofs only[go_sem,b3]) ?_
  cases h
  try simp -implicitDefEqProofs only[go_sem,b3]
  refine⟨by decide,_,.refl _,?_⟩
  simp -implicitDefEqProofs only[go_sem,b3]<;>((repeat' apply And.intro)<;>rfl)
 ·replace h:=ze h b3
  cases h
  try simp -implicitDefEqProofs only[go_sem,b3]
  refine⟨by decide,_,.refl _,?_⟩
  simp -implicitDefEqProofs only[go_sem,b3]<;>((repeat' apply And.intro)<;>rfl)
theorem zmw (a0:zl) (a1:zu) (r:(List Int)) (h:zcv a0 a1=some r):zbt Tryz.prog 49 [.agg [.lst (a0.nodes.map encNode),.lst (a0.edges.map encEdgeT)],.agg (zbj a1)] (fun v=>v = .row 3 1 (r.map encI)):=by
 refine zbt.rle ?_
 refine zbx [] Ty.mixed Tryz.func49 rfl (by kernel_rfl) (by simp[Tryz.ntmps49]) ?_; rw[Tryz.ntmps49,Tryz.results49]
 unfold zcv at h
 obtain⟨r2,hr2,h⟩:=zm h
 try simp -implicitDefEqProofs only[go_sem]
 refine callfG 1176 (zmz a0 a1 r2 hr2) (by simp -implicitDefEqProofs only[go_sem]<;>rfl) (zb _) (by first | exact persF | exact flatF rfl | exact flatF (by simp[RV.flat,RV.flatL,PV.scalar,isVal,encI,encI])) (by simp -implicitDefEqProofs only[go_sem]) ?_
 obtain⟨r3,hr3,h⟩:=zm h
 try simp -implicitDefEqProofs only[go_sem]
 refine callfG 1336 (zjl a0 a1.right.graph r2.1 r2.2.1 r3 hr3) (by simp -implicitDefEqProofs only[go_sem]<;>rfl) (zb _) (by first | exact persF | exact flatF rfl | exact flatF (by simp[RV.flat,RV.flatL,PV.scalar,isVal,encI])) (by simp -implicitDefEqProofs only[go_sem]) ?_
 cases h
 try simp -implicitDefEqProofs only[go_sem]
 refine⟨by decide,_,.refl _,?_⟩
 simp -implicitDefEqProofs only[go_sem]<;>((repeat' apply And.intro)<;>rfl)
theorem zjf (a0:zl) (a1:zu) (r:(List Int)) (h:zcg a0 a1=some r):zbt Tryz.prog 35 [.agg [.lst (a0.nodes.map encNode),.lst (a0.edges.map encEdgeT)],.agg (zbj a1)] (fun v=>v = .row 3 1 (r.map encI)):=by
 refine zbt.rle ?_
 refine zbx [] Ty.mixed Tryz.func35 rfl (by kernel_rfl) (by simp[Tryz.ntmps35]) ?_; rw[Tryz.ntmps35,Tryz.results35]
 unfold zcg at h
 obtain⟨r2,hr2,h⟩:=zm h
 try simp -implicitDefEqProofs only[go_sem]
 refine callfG 1176 (zjc a0 a1 r2 hr2) (by simp -implicitDefEqProofs only[go_sem]<;>rfl) (zb _) (by first | exact persF | exact flatF rfl | exact flatF (by simp[RV.flat,RV.flatL,PV.scalar,isVal,encI,encI])) (by simp -implicitDefEqProofs only[go_sem]) ?_
 obtain⟨r3,hr3,h⟩:=zm h
 try simp -implicitDefEqProofs only[go_sem]
 refine callfG 1336 (zjl a0 a1.left.graph r2.1 r2.2.1 r3 hr3) (by simp -implicitDefEqProofs only[go_sem]<;>rfl) (zb _) (by first | exact persF | exact flatF rfl | exact flatF (by simp[RV.flat,RV.flatL,PV.scalar,isVal,encI])) (by simp -implicitDefEqProofs only[go_sem]) ?_
 cases h
 try simp -implicitDefEqProofs only[go_sem]
 refine⟨by decide,_,.refl _,?_⟩
 simp -implicitDefEqProofs only[go_sem]<;>((repeat' apply And.intro)<;>rfl)
end
end Go.Proofs.YthjgdkloabgcoaaGreat
set_option maxRecDepth 20000
namespace Go.Proofs.YthjgdkloabgcoaaGreat
open Go.Abs


noncomputable section
theorem zm3 (a0:zl) (a1:List zu) (r:(List zi)) (h:zep a0 a1=some r):zbt Tryz.prog 36 [.agg [.lst (a0.nodes.map encNode),.lst (a0.edges.map encEdgeT)],.lst (a1.map zbj)] (fun v=>v = .row 52 4 (r.map zn)):=by
 refine zbt.rle ?_
 refine zbx [53] Ty.mixed Tryz.func36 rfl (by kernel_rfl) (by simp[Tryz.ntmps36]) ?_; rw[Tryz.ntmps36,Tryz.results36]
 unfold zep at h
 obtain⟨fus2,h⟩:=zbg h
 unfold fuel at fus2
 try simp -implicitDefEqProofs only[go_sem]
 refine zbe (fun x:(Nat×((List zi)))×(Nat)=>envL [(1,.p (.lst (a1.map zbj))),(2,.ptr 2 0),(5,.row 6072 x.2),(6,.p (.val (.int .i64 ((x.1.1:Nat):Int))))]) (fun x=>heapL [(2,.box [.p (.lst (a0.nodes.map encNode)),.p (.lst (a0.edges.map encEdgeT))]),(6072,.row x.2 52 4 (x.1.2.map zn))]) 0 h (by refine Weak.trans (zhi 5 6072 52 4 rfl rfl (by decide)) ?_; exact (weakL (by simp -implicitDefEqProofs only[go_sem]<;>((repeat' apply And.intro)<;>rfl)))) ?_ ?_
 ·intro i2 s2 g2 nxts2 Rs2 his2 hNs2 h
  have hws2:=zt (k:=i2) his2 (by omega)
  try dsimp only at h
  try simp -implicitDefEqProofs only[go_sem,his2,hws2]
  refine zbn [.q,.q,.q,.q,.q,.q,.q,.q,.q,.q,.q,.q,.q,.q] (by kernel_rfl) ?_
  obtain⟨e3,c3,g3,q3,h⟩:=zbu zbj h
  obtain⟨r4,hr4,h⟩:=zm h
  try simp -implicitDefEqProofs only[go_sem,his2,hws2,c3,g3]
  refine calldG (show zh _ _ _ (fun v=>v = .lst (r4.map encI)) from (zjf a0 e3 r4 hr4).toV1) (by simp -implicitDefEqProofs only[go_sem,his2,hws2,c3,g3]<;>rfl) (zb _) (by first | exact pers | exact scal rfl) ?_
  obtain⟨r5,hr5,h⟩:=zm h
  try simp -implicitDefEqProofs only[go_sem,his2,hws2,c3,g3]
  refine calldG (show zh _ _ _ (fun v=>v = .lst (r5.map encI)) from (zmw a0 e3 r5 hr5).toV1) (by simp -implicitDefEqProofs only[go_sem,his2,hws2,c3,g3]<;>rfl) (zb _) (by first | exact pers | exact scal rfl) ?_
  obtain⟨fus6,h⟩:=zbg h
  unfold fuel at fus6
  try simp -implicitDefEqProofs only[go_sem,his2,hws2,c3,g3]
  refine zbe (fun x:(Nat×((List zi)))×(Nat)=>envL [(1,.p (.lst (a1.map zbj))),(2,.ptr 2 0),(5,.row 6072 x.2),(6,.p (.val (.int .i64 ((i2:Nat):Int)))),(7,.p (.lst (r4.map encI))),(8,.p (.lst (r5.map encI))),(9,.p (.val (.int .i64 ((x.1.1:Nat):Int))))]) (fun x=>heapL [(2,.box [.p (.lst (a0.nodes.map encNode)),.p (.lst (a0.edges.map encEdgeT))]),(6072,.row x.2 52 4 (x.1.2.map zn))]) g2 h (weakL (by simp -implicitDefEqProofs only[go_sem,his2,hws2,c3,g3]<;>((repeat' apply And.intro)<;>rfl))) ?_ ?_
  ·intro i6 s6 g6 nxts6 Rs6 his6 hNs6 h
   have hws6:=zt (k:=i6) his6 (by omega)
   try dsimp only at h
   obtain⟨fus7,h⟩:=zbg h
   unfold fuel at fus7
   try simp -implicitDefEqProofs only[go_sem,his2,hws2,c3,g3,his6,hws6]
   refine zbe (fun x:(Nat×((List zi)))×(Nat)=>envL [(1,.p (.lst (a1.map zbj))),(2,.ptr 2 0),(5,.row 6072 x.2),(6,.p (.val (.int .i64 ((i2:Nat):Int)))),(7,.p (.lst (r4.map encI))),(8,.p (.lst (r5.map encI))),(9,.p (.val (.int .i64 ((i6:Nat):Int)))),(10,.p (.val (.int .i64 ((x.1.1:Nat):Int))))]) (fun x=>heapL [(2,.box [.p (.lst (a0.nodes.map encNode)),.p (.lst (a0.edges.map encEdgeT))]),(6072,.row x.2 52 4 (x.1.2.map zn))]) g6 h (weakL (by simp -implicitDefEqProofs only[go_sem,his2,hws2,c3,g3,his6,hws6]<;>((repeat' apply And.intro)<;>rfl))) ?_ ?_
   ·intro i7 s7 g7 nxts7 Rs7 his7 hNs7 h
    have hws7:=zt (k:=i7) his7 (by omega)
    try dsimp only at h
    try simp -implicitDefEqProofs only[go_sem,his2,hws2,c3,g3,his6,hws6,his7,hws7]
    refine zbn [.p,.q,.q,.q,.q,.q,.q,.q,.q,.q,.q,.p,.w,.q] (by kernel_rfl) ?_
    obtain⟨e8,c8,g8,q8,h⟩:=zbu encI h
    obtain⟨e9,c9,g9,q9,h⟩:=zbu encI h
    obtain⟨c10,h⟩:=zbg h
    have k11:=eq_true (show (s7.length+1) * 32≤140737488355328 by omega)
    have a12:=zfc zn s7 [(⟨((i2:Nat):Int),e8,e9,1⟩:zi)] (c:=[[.val (.int .i64 ((i2:Nat):Int)),.val (.int .i64 e8),.val (.int .i64 e9),.val (.int .i64 1)]]) rfl
    try simp -implicitDefEqProofs only[go_sem,his2,hws2,c3,g3,his6,hws6,his7,hws7,c8,g8,c9,g9,c10,k11,a12]
    exact hNs7 (s7++[(⟨((i2:Nat):Int),e8,e9,1⟩:zi)]) (g7+1) h (weakL (by simp -implicitDefEqProofs only[go_sem,his2,hws2,c3,g3,his6,hws6,his7,hws7,c8,g8,c9,g9,c10,k11,a12]<;>((repeat' apply And.intro)<;>rfl)))
   ·intro i7 s7 g7 Rs7 hes7 h
    have hns7:¬ (i7<r5.length):=by omega
    try dsimp only at h
    try simp -implicitDefEqProofs only[go_sem,his2,hws2,c3,g3,his6,hws6,hns7]
    exact hNs6 s7 g7 h (weakL (by simp -implicitDefEqProofs only[go_sem,his2,hws2,c3,g3,his6,hws6,hns7]<;>((repeat' apply And.intro)<;>rfl)))
  ·intro i6 s6 g6 Rs6 hes6 h
   have hns6:¬ (i6<r4.length):=by omega
   try dsimp only at h
   try simp -implicitDefEqProofs only[go_sem,his2,hws2,c3,g3,hns6]
   exact hNs2 s6 g6 h (weakL (by simp -implicitDefEqProofs only[go_sem,his2,hws2,c3,g3,hns6]<;>((repeat' apply And.intro)<;>rfl)))
 ·intro i2 s2 g2 Rs2 hes2 h
  have hns2:¬ (i2<a1.length):=by omega
  try dsimp only at h
  cases h
  try simp -implicitDefEqProofs only[go_sem,hns2]
  refine⟨by decide,_,.refl _,?_⟩
  simp -implicitDefEqProofs only[go_sem,hns2]<;>((repeat' apply And.intro)<;>rfl)
theorem zxk (a0:zl) (a1:zu) (r:zo×Int) (h:zi0 a0 a1=some r):zbt Tryz.prog 59 [.agg [.lst (a0.nodes.map encNode),.lst (a0.edges.map encEdgeT)],.agg (zbj a1)] (fun v=>v = .tup [.agg [.row 3 1 (r.1.deletes.map encI),.row 3 1 (r.1.creates.map encI)],.p (.val (.int .i64 r.2))]):=by
 refine zbt.rle ?_
 refine zbx [] Ty.mixed Tryz.func59 rfl (by kernel_rfl) (by simp[Tryz.ntmps59]) ?_; rw[Tryz.ntmps59,Tryz.results59]
 unfold zi0 at h
 obtain⟨r2,hr2,h⟩:=zm h
 try simp -implicitDefEqProofs only[go_sem]
 refine callfG 1272 (zvc a0 a1 r2 hr2) (by simp -implicitDefEqProofs only[go_sem]<;>rfl) (zb _) (by first | exact persF | exact flatF rfl | exact flatF (by simp[RV.flat,RV.flatL,PV.scalar,isVal,encI,encI])) (by simp -implicitDefEqProofs only[go_sem]) ?_
 try simp -implicitDefEqProofs only[go_sem]
 refine zg (fun b3=>?_) (fun b3=>?_)
 ·replace h:=zd h b3
  obtain⟨fus4,h⟩:=zbg h
  unfold fuel at fus4
  try simp -implicitDefEqProofs only[go_sem,b3]
  refine zbe (fun x:(Nat×(Unit))×(Unit)=>envL [(2,.ptr 2 0),(3,.ptr 3 0),(4,.ptr 4 0),(6,.row 1272 0),(7,.row 1273 0),(25,.row 1272 0),(26,.p (.val (.int .i64 ((r2.1.length:Nat):Int)))),(27,.p (.val (.int .i64 ((x.1.1:Nat):Int))))]) (fun x=>heapL [(2,.box [.p (.lst (a0.nodes.map encNode)),.p (.lst (a0.edges.map encEdgeT))]),(3,.box ((zbj a1).map .p)),(4,.box [.p (.val (.slice none 0 0)),.p (.val (.slice none 0 0))]),(1272,.row 0 3 1 (r2.1.map encI)),(1273,.row 0 3 1 (r2.2.1.map encI))]) () h (weakL (by simp -implicitDefEqProofs only[go_sem,b3]<;>((repeat' apply And.intro)<;>rfl))) ?_ ?_
  ·intro i4 s4 g4 nxts4 Rs4 his4 hNs4 h
   have hws4:=zt (k:=i4) his4 (by omega)
   try dsimp only at h
   obtain⟨e5,c5,g5,q5,h⟩:=zbu encI h
   obtain⟨r6,hr6,h⟩:=zm h
   try simp -implicitDefEqProofs only[go_sem,b3,his4,hws4,c5,g5]
   refine callG (zle a0.nodes (fun x7=>zhr x7 a1 e5) 86 [] [.eptr (zbj a1) 0,.eptr [.val (.int .i64 e5)] 0] (fun x7 r h=>zub x7 a1 e5 r h) r6 hr6) (by simp -implicitDefEqProofs only[go_sem,b3,his4,hws4,c5,g5]<;>rfl) (zb _) (by first | exact pers | exact scal rfl) ?_
   try simp -implicitDefEqProofs only[go_sem,b3,his4,hws4,c5,g5]
   refine zc (fun b8=>?_) (fun b8=>?_)
   ·replace h:=zd h b8
    cases h
    try simp -implicitDefEqProofs only[go_sem,b3,his4,hws4,c5,g5,b8]
    refine⟨by decide,_,.refl _,?_⟩
    simp -implicitDefEqProofs only[go_sem,b3,his4,hws4,c5,g5,b8]<;>((repeat' apply And.intro)<;>rfl)
   ·replace h:=ze h b8
    try simp -implicitDefEqProofs only[go_sem,b3,his4,hws4,c5,g5,b8]
    exact hNs4 () () h (weakL (by simp -implicitDefEqProofs only[go_sem,b3,his4,hws4,c5,g5,b8]<;>((repeat' apply And.intro)<;>rfl)))
  ·intro i4 s4 g4 Rs4 hes4 h
   have hns4:¬ (i4<r2.1.length):=by omega
   try dsimp only at h
   obtain⟨r9,hr9,h⟩:=zm h
   try simp -implicitDefEqProofs only[go_sem,b3,hns4]
   refine callfG 1640 (zvl a0 a1 r9 hr9) (by simp -implicitDefEqProofs only[go_sem,b3,hns4]<;>rfl) (zb _) (by first | exact persF | exact flatF rfl | exact flatF (by simp[RV.flat,RV.flatL,PV.scalar,isVal,encI,encI])) (by simp -implicitDefEqProofs only[go_sem,b3,hns4]) ?_
   try simp -implicitDefEqProofs only[go_sem,b3,hns4]
   refine zhv 1272 0 3 1 (r2.1.map encI) [6] (by simp -implicitDefEqProofs only[go_sem,b3,hns4]<;>rfl) (by simp -implicitDefEqProofs only[go_sem,b3,hns4]<;>((repeat' apply And.intro)<;>rfl)) (by decide) ?_
   refine zhv 1273 0 3 1 (r2.2.1.map encI) [7] (by simp -implicitDefEqProofs only[go_sem,b3,hns4]<;>rfl) (by simp -implicitDefEqProofs only[go_sem,b3,hns4]<;>((repeat' apply And.intro)<;>rfl)) (by decide) ?_
   refine zhv 1640 0 3 1 (r9.1.map encI) [11] (by simp -implicitDefEqProofs only[go_sem,b3,hns4]<;>rfl) (by simp -implicitDefEqProofs only[go_sem,b3,hns4]<;>((repeat' apply And.intro)<;>rfl)) (by decide) ?_
   refine zhv 1641 0 3 1 (r9.2.1.map encI) [12] (by simp -implicitDefEqProofs only[go_sem,b3,hns4]<;>rfl) (by simp -implicitDefEqProofs only[go_sem,b3,hns4]<;>((repeat' apply And.intro)<;>rfl)) (by decide) ?_
   refine zfg [(0,.q),(1,.q),(2,.q),(3,.q),(4,.q),(5,.q),(7,.q),(8,.q),(9,.q),(10,.q),(6,.f),(11,.q),(12,.q),(13,.f),(14,.q),(15,.w),(16,.q)] (by kernel_rfl) ?_
   obtain⟨r10,hr10,h⟩:=zm h
   try simp -implicitDefEqProofs only[go_sem,b3,hns4]
   refine calldfG 1800 (zmm a0 a1.left.graph r2.1 r2.2.1 r10 hr10) (by simp -implicitDefEqProofs only[go_sem,b3,hns4]<;>rfl) (zb _) (by first | exact persF | exact flatF rfl | exact flatF (by simp[RV.flat,RV.flatL,PV.scalar,isVal,encI])) (by simp -implicitDefEqProofs only[go_sem,b3,hns4]) (by simp -implicitDefEqProofs only[go_sem,b3,hns4]) ?_
   obtain⟨r11,hr11,h⟩:=zm h
   try simp -implicitDefEqProofs only[go_sem,b3,hns4]
   refine calldfG 1912 (zmm a0 a1.right.graph r9.1 r9.2.1 r11 hr11) (by simp -implicitDefEqProofs only[go_sem,b3,hns4]<;>rfl) (zb _) (by first | exact persF | exact flatF rfl | exact flatF (by simp[RV.flat,RV.flatL,PV.scalar,isVal,encI])) (by simp -implicitDefEqProofs only[go_sem,b3,hns4]) (by simp -implicitDefEqProofs only[go_sem,b3,hns4]) ?_
   cases h
   try simp -implicitDefEqProofs only[go_sem,b3,hns4]
   refine⟨by decide,_,.refl _,?_⟩
   simp -implicitDefEqProofs only[go_sem,b3,hns4]<;>((repeat' apply And.intro)<;>rfl)
 ·replace h:=ze h b3
  cases h
  try simp -implicitDefEqProofs only[go_sem,b3]
  refine⟨by decide,_,.refl _,?_⟩
  simp -implicitDefEqProofs only[go_sem,b3]<;>((repeat' apply And.intro)<;>rfl)
end
end Go.Proofs.YthjgdkloabgcoaaGreat
set_option maxRecDepth 20000
namespace Go.Proofs.YthjgdkloabgcoaaGreat
open Go.Abs


noncomputable section
theorem znb (a0:zl) (a1:List zu) (r:(List zi)×Int) (h:zez a0 a1=some r):zh Tryz.prog 12 [.agg [.lst (a0.nodes.map encNode),.lst (a0.edges.map encEdgeT)],.lst (a1.map zbj)] (fun v=>v = .tup [.lst (r.1.map zn),.val (.int .i64 r.2)]):=by
 refine zh.ple ?_
 refine zf [33,90] Ty.mixed Tryz.func12 rfl (by kernel_rfl) (by simp[Tryz.ntmps12]) ?_; rw[Tryz.ntmps12,Tryz.results12]
 unfold zez at h
 obtain⟨r2,hr2,h⟩:=zm h
 try simp -implicitDefEqProofs only[go_sem]
 refine callG (zno a0 a1 r2 hr2) (by simp -implicitDefEqProofs only[go_sem]<;>rfl) (zb _) (by first | exact pers | exact scal rfl) ?_
 try simp -implicitDefEqProofs only[go_sem]
 refine zg (fun b3=>?_) (fun b3=>?_)
 ·replace h:=zd h b3
  obtain⟨fus4,h⟩:=zbg h
  unfold fuel at fus4
  try simp -implicitDefEqProofs only[go_sem,b3]
  refine zbe (fun x:(Nat×(Unit))×(Unit)=>envL [(1,.p (.lst (a1.map zbj))),(2,.ptr 2 0),(7,.p (.val (.int .i64 ((x.1.1:Nat):Int))))]) (fun x=>heapL [(2,.box [.p (.lst (a0.nodes.map encNode)),.p (.lst (a0.edges.map encEdgeT))])]) () h (weakL (by simp -implicitDefEqProofs only[go_sem,b3]<;>((repeat' apply And.intro)<;>rfl))) ?_ ?_
  ·intro i4 s4 g4 nxts4 Rs4 his4 hNs4 h
   have hws4:=zt (k:=i4) his4 (by omega)
   try dsimp only at h
   try simp -implicitDefEqProofs only[go_sem,b3,his4,hws4]
   refine zbn [.q,.q,.q,.q,.q,.q,.q,.q] (by kernel_rfl) ?_
   obtain⟨e5,c5,g5,q5,h⟩:=zbu zbj h
   obtain⟨r6,hr6,h⟩:=zm h
   try simp -implicitDefEqProofs only[go_sem,b3,his4,hws4,c5,g5]
   refine calldG (show zh _ _ _ (fun v=>v = .lst (r6.map encI)) from (zjf a0 e5 r6 hr6).toV1) (by simp -implicitDefEqProofs only[go_sem,b3,his4,hws4,c5,g5]<;>rfl) (zb _) (by first | exact pers | exact scal rfl) ?_
   try simp -implicitDefEqProofs only[go_sem,b3,his4,hws4,c5,g5]
   refine zc (fun b7=>?_) (fun b7=>?_)
   ·replace h:=zd h b7
    cases h
    try simp -implicitDefEqProofs only[go_sem,b3,his4,hws4,c5,g5,b7]
    all_goals((repeat' apply And.intro)<;>rfl)
   ·replace h:=ze h b7
    try simp -implicitDefEqProofs only[go_sem,b3,his4,hws4,c5,g5,b7]
    exact hNs4 () () h (weakL (by simp -implicitDefEqProofs only[go_sem,b3,his4,hws4,c5,g5,b7]<;>((repeat' apply And.intro)<;>rfl)))
  ·intro i4 s4 g4 Rs4 hes4 h
   have hns4:¬ (i4<a1.length):=by omega
   try dsimp only at h
   obtain⟨r8,hr8,h⟩:=zm h
   try simp -implicitDefEqProofs only[go_sem,b3,hns4]
   refine callfG 1576 (zm3 a0 a1 r8 hr8) (by simp -implicitDefEqProofs only[go_sem,b3,hns4]<;>rfl) (zb _) (by first | exact persF | exact flatF rfl | exact flatF (by simp[RV.flat,RV.flatL,PV.scalar,isVal,zn])) (by simp -implicitDefEqProofs only[go_sem,b3,hns4]) ?_
   try simp -implicitDefEqProofs only[go_sem,b3,hns4]
   refine zkt (fun x:(Int)×(Unit)=>envL [(2,.ptr 2 0),(8,.row 1576 0),(9,.p (.val (.int .i64 x.1)))]) (fun x=>heapL [(2,.box [.p (.lst (a0.nodes.map encNode)),.p (.lst (a0.edges.map encEdgeT))]),(1576,.row 0 52 4 (r8.map zn))]) () h (weakL (by simp -implicitDefEqProofs only[go_sem,b3,hns4]<;>((repeat' apply And.intro)<;>rfl))) ?_
   intro s9 g9 nxts9 Rs9 hNs9 h
   try dsimp only at h
   try simp -implicitDefEqProofs only[go_sem,b3,hns4]
   refine zc (fun b10=>?_) (fun b10=>?_)
   ·replace h:=zd h b10
    obtain⟨fus11,h⟩:=zbg h
    unfold fuel at fus11
    try simp -implicitDefEqProofs only[go_sem,b3,hns4,b10]
    refine zbe (fun x:(Nat×(Unit))×(Unit)=>envL [(2,.ptr 2 0),(8,.row 1576 0),(9,.p (.val (.int .i64 s9))),(10,.p (.val (.int .i64 ((x.1.1:Nat):Int))))]) (fun x=>heapL [(2,.box [.p (.lst (a0.nodes.map encNode)),.p (.lst (a0.edges.map encEdgeT))]),(1576,.row 0 52 4 (r8.map zn))]) () h (weakL (by simp -implicitDefEqProofs only[go_sem,b3,hns4,b10]<;>((repeat' apply And.intro)<;>rfl))) ?_ ?_
    ·intro i11 s11 g11 nxts11 Rs11 his11 hNs11 h
     have hws11:=zt (k:=i11) his11 (by omega)
     try dsimp only at h
     try simp -implicitDefEqProofs only[go_sem,b3,hns4,b10,his11,hws11]
     refine zc (fun b12=>?_) (fun b12=>?_)
     ·replace h:=zd h b12
      try simp -implicitDefEqProofs only[go_sem,b3,hns4,b10,his11,hws11,b12]
      refine zbn [.q,.q,.q,.q,.q,.q,.q,.q,.q,.q,.q] (by kernel_rfl) ?_
      obtain⟨e13,c13,g13,q13,h⟩:=zbu zn h
      try simp -implicitDefEqProofs only[go_sem,b3,hns4,b10,his11,hws11,b12,c13,g13]
      refine zc (fun b14=>?_) (fun b14=>?_)
      ·replace h:=zd h b14
       obtain⟨⟨c15a,c15b,c15c⟩,h⟩:=zbg h
       have c15l:=eq_true (zjx (n:=4) (f:=zn) (fun _=>rfl) r8)
       try simp -implicitDefEqProofs only[go_sem,b3,hns4,b10,his11,hws11,b12,c13,g13,b14,c15a,c15b,c15c,c15l]
       refine zbg9 1576 0 52 4 (r8.map zn) [8,49,56,61,67] (by simp -implicitDefEqProofs only[go_sem,b3,hns4,b10,his11,hws11,b12,c13,g13,b14,c15a,c15b,c15c,c15l]<;>rfl) (by simp -implicitDefEqProofs only[go_sem,b3,hns4,b10,his11,hws11,b12,c13,g13,b14,c15a,c15b,c15c,c15l]<;>((repeat' apply And.intro)<;>rfl)) (by decide) (by simp -implicitDefEqProofs only[go_sem,b3,hns4,b10,his11,hws11,b12,c13,g13,b14,c15a,c15b,c15c,c15l]<;>rfl) (by first | trivial | (simp -implicitDefEqProofs only[go_sem,b3,hns4,b10,his11,hws11,b12,c13,g13,b14,c15a,c15b,c15c,c15l]<;>trivial) | omega) ?_
       cases h
       try simp -implicitDefEqProofs only[go_sem,b3,hns4,b10,his11,hws11,b12,c13,g13,b14,c15a,c15b,c15c,c15l]
       all_goals((repeat' apply And.intro)<;>rfl)
      ·replace h:=ze h b14
       try simp -implicitDefEqProofs only[go_sem,b3,hns4,b10,his11,hws11,b12,c13,g13,b14]
       exact hNs11 () () h (weakL (by simp -implicitDefEqProofs only[go_sem,b3,hns4,b10,his11,hws11,b12,c13,g13,b14]<;>((repeat' apply And.intro)<;>rfl)))
     ·replace h:=ze h b12
      try simp -implicitDefEqProofs only[go_sem,b3,hns4,b10,his11,hws11,b12]
      refine zbn [.q,.q,.q,.q,.q,.q,.q,.q,.q,.q,.q,.q,.q,.q] (by kernel_rfl) ?_
      obtain⟨e16,c16,g16,q16,h⟩:=zbu zn h
      obtain⟨r17,hr17,h⟩:=zm h
      try simp -implicitDefEqProofs only[go_sem,b3,hns4,b10,his11,hws11,b12,c16,g16]
      refine calldG (zjb r8 e16.dst e16.src (IntKind.i64.wrap (s9 - 1)) r17 hr17) (by simp -implicitDefEqProofs only[go_sem,b3,hns4,b10,his11,hws11,b12,c16,g16]<;>rfl) (zb _) (by first | exact pers | exact scal rfl) ?_
      try simp -implicitDefEqProofs only[go_sem,b3,hns4,b10,his11,hws11,b12,c16,g16]
      refine zc (fun b18=>?_) (fun b18=>?_)
      ·replace h:=zd h b18
       try simp -implicitDefEqProofs only[go_sem,b3,hns4,b10,his11,hws11,b12,c16,g16,b18]
       refine zhv 1576 0 52 4 (r8.map zn) [8] (by simp -implicitDefEqProofs only[go_sem,b3,hns4,b10,his11,hws11,b12,c16,g16,b18]<;>rfl) (by simp -implicitDefEqProofs only[go_sem,b3,hns4,b10,his11,hws11,b12,c16,g16,b18]<;>((repeat' apply And.intro)<;>rfl)) (by decide) ?_
       refine zfg [(0,.q),(1,.q),(2,.q),(3,.q),(5,.q),(6,.q),(7,.q),(8,.q),(9,.q),(10,.q),(11,.q),(12,.q),(13,.q),(14,.q),(15,.q),(16,.q),(17,.q),(18,.q),(4,.w),(19,.s),(20,.q),(21,.q)] (by kernel_rfl) ?_
       obtain⟨r19,hr19,h⟩:=zm h
       try simp -implicitDefEqProofs only[go_sem,b3,hns4,b10,his11,hws11,b12,c16,g16,b18]
       refine calldG (show zh _ _ _ (fun v=>v = .lst (r19.map zn)) from (znp fuel r8 e16.dst e16.src (IntKind.i64.wrap (s9 - 1)) r19 hr19).toV1) (by simp -implicitDefEqProofs only[go_sem,b3,hns4,b10,his11,hws11,b12,c16,g16,b18]<;>rfl) (zb _) (by first | exact pers | exact scal rfl) ?_
       obtain⟨c20,h⟩:=zbg h
       have k21:=eq_true (show (1+r19.length) * 32≤140737488355328 by omega)
       have k22:=eq_true (zjx (n:=4) (f:=zn) (fun _=>rfl) r19)
       have a23:=zyi zn [e16] r19 (c:=[[.val (.int .i64 e16.rule),.val (.int .i64 e16.src),.val (.int .i64 e16.dst),.val (.int .i64 e16.strict)]]) rfl
       cases h
       try simp -implicitDefEqProofs only[go_sem,b3,hns4,b10,his11,hws11,b12,c16,g16,b18,c20,k21,k22,a23]
       all_goals((repeat' apply And.intro)<;>rfl)
      ·replace h:=ze h b18
       try simp -implicitDefEqProofs only[go_sem,b3,hns4,b10,his11,hws11,b12,c16,g16,b18]
       exact hNs11 () () h (weakL (by simp -implicitDefEqProofs only[go_sem,b3,hns4,b10,his11,hws11,b12,c16,g16,b18]<;>((repeat' apply And.intro)<;>rfl)))
    ·intro i11 s11 g11 Rs11 hes11 h
     have hns11:¬ (i11<r8.length):=by omega
     try dsimp only at h
     try simp -implicitDefEqProofs only[go_sem,b3,hns4,b10,hns11]
     exact hNs9 (IntKind.i64.wrap (s9+1)) () h (weakL (by simp -implicitDefEqProofs only[go_sem,b3,hns4,b10,hns11]<;>((repeat' apply And.intro)<;>rfl)))
   ·replace h:=ze h b10
    try dsimp only at h
    cases h
    try simp -implicitDefEqProofs only[go_sem,b3,hns4,b10]
    all_goals((repeat' apply And.intro)<;>rfl)
 ·replace h:=ze h b3
  cases h
  try simp -implicitDefEqProofs only[go_sem,b3]
  all_goals((repeat' apply And.intro)<;>rfl)
end
end Go.Proofs.YthjgdkloabgcoaaGreat
set_option maxRecDepth 20000
namespace Go.Proofs.YthjgdkloabgcoaaGreat
open Go.Abs


noncomputable section
theorem zkm (a0:zl) (a1:List zu) (r:(List zo)×Int) (h:zfo a0 a1=some r):zbt Tryz.prog 29 [.agg [.lst (a0.nodes.map encNode),.lst (a0.edges.map encEdgeT)],.lst (a1.map zbj)] (fun v=>v = .tup [.row 85 2 (r.1.map zbd),.p (.val (.int .i64 r.2))]):=by
 refine zbt.rle ?_
 refine zbx [42] Ty.mixed Tryz.func29 rfl (by kernel_rfl) (by simp[Tryz.ntmps29]) ?_; rw[Tryz.ntmps29,Tryz.results29]
 unfold zfo at h
 obtain⟨r2,hr2,h⟩:=zm h
 try simp -implicitDefEqProofs only[go_sem]
 refine callG (zmk a0 r2 hr2) (by simp -implicitDefEqProofs only[go_sem]<;>rfl) (zb _) (by first | exact pers | exact scal rfl) ?_
 try simp -implicitDefEqProofs only[go_sem]
 refine zg (fun b3=>?_) (fun b3=>?_)
 ·replace h:=zd h b3
  try simp -implicitDefEqProofs only[go_sem,b3]
  refine zc (fun b4=>?_) (fun b4=>?_)
  ·replace h:=zd h b4
   cases h
   try simp -implicitDefEqProofs only[go_sem,b3,b4]
   refine⟨by decide,_,.refl _,?_⟩
   simp -implicitDefEqProofs only[go_sem,b3,b4]<;>((repeat' apply And.intro)<;>rfl)
  ·replace h:=ze h b4
   obtain⟨fus5,h⟩:=zbg h
   unfold fuel at fus5
   try simp -implicitDefEqProofs only[go_sem,b3,b4]
   refine zbe (fun x:(Nat×((List zo)))×(Nat)=>envL [(2,.ptr 2 0),(8,.row 2980 x.2),(24,.p (.lst (a1.map zbj))),(25,.p (.val (.int .i64 ((a1.length:Nat):Int)))),(26,.p (.val (.int .i64 ((x.1.1:Nat):Int))))]) (fun x=>heapL [(2,.box [.p (.lst (a0.nodes.map encNode)),.p (.lst (a0.edges.map encEdgeT))]),(2980,.row x.2 85 2 (x.1.2.map zbd))]) 0 h (by refine Weak.trans (zhi 8 2980 85 2 rfl rfl (by decide)) ?_; exact (weakL (by simp -implicitDefEqProofs only[go_sem,b3,b4]<;>((repeat' apply And.intro)<;>rfl)))) ?_ ?_
   ·intro i5 s5 g5 nxts5 Rs5 his5 hNs5 h
    have hws5:=zt (k:=i5) his5 (by omega)
    try dsimp only at h
    obtain⟨e6,c6,g6,q6,h⟩:=zbu zbj h
    obtain⟨r7,hr7,h⟩:=zm h
    try simp -implicitDefEqProofs only[go_sem,b3,b4,his5,hws5,c6,g6]
    refine callfG 1528 (zxk a0 e6 r7 hr7) (by simp -implicitDefEqProofs only[go_sem,b3,b4,his5,hws5,c6,g6]<;>rfl) (zb _) (by first | exact persF | exact flatF rfl | exact flatF (by simp[RV.flat,RV.flatL,PV.scalar,isVal,encI,encI])) (by simp -implicitDefEqProofs only[go_sem,b3,b4,his5,hws5,c6,g6]) ?_
    try simp -implicitDefEqProofs only[go_sem,b3,b4,his5,hws5,c6,g6]
    refine zg (fun b8=>?_) (fun b8=>?_)
    ·replace h:=zd h b8
     obtain⟨c9,h⟩:=zbg h
     have k10:=eq_true (show (s5.length+1) * 48≤140737488355328 by omega)
     have a11:=zfc zbd s5 [r7.1] (c:=[[.lst (r7.1.deletes.map encI),.lst (r7.1.creates.map encI)]]) rfl
     try simp -implicitDefEqProofs only[go_sem,b3,b4,his5,hws5,c6,g6,b8,c9,k10,a11]
     exact hNs5 (s5++[r7.1]) (g5+1) h (weakL (by simp -implicitDefEqProofs only[go_sem,b3,b4,his5,hws5,c6,g6,b8,c9,k10,a11]<;>((repeat' apply And.intro)<;>rfl)))
    ·replace h:=ze h b8
     cases h
     try simp -implicitDefEqProofs only[go_sem,b3,b4,his5,hws5,c6,g6,b8]
     refine⟨by decide,_,.refl _,?_⟩
     simp -implicitDefEqProofs only[go_sem,b3,b4,his5,hws5,c6,g6,b8]<;>((repeat' apply And.intro)<;>rfl)
   ·intro i5 s5 g5 Rs5 hes5 h
    have hns5:¬ (i5<a1.length):=by omega
    try dsimp only at h
    cases h
    try simp -implicitDefEqProofs only[go_sem,b3,b4,hns5]
    refine⟨by decide,_,.refl _,?_⟩
    simp -implicitDefEqProofs only[go_sem,b3,b4,hns5]<;>((repeat' apply And.intro)<;>rfl)
 ·replace h:=ze h b3
  cases h
  try simp -implicitDefEqProofs only[go_sem,b3]
  refine⟨by decide,_,.refl _,?_⟩
  simp -implicitDefEqProofs only[go_sem,b3]<;>((repeat' apply And.intro)<;>rfl)
theorem zol (a0:zl) (a1:List zu) (a2:List zi) (r:Bool) (h:zfh a0 a1 a2=some r):zh Tryz.prog 15 [.agg [.lst (a0.nodes.map encNode),.lst (a0.edges.map encEdgeT)],.lst (a1.map zbj),.lst (a2.map zn)] (fun v=>v = .val (.bool r)):=by
 refine zh.ple ?_
 refine zf [] Ty.mixed Tryz.func15 rfl (by kernel_rfl) (by simp[Tryz.ntmps15]) ?_; rw[Tryz.ntmps15,Tryz.results15]
 unfold zfh at h
 obtain⟨r3,hr3,h⟩:=zm h
 try simp -implicitDefEqProofs only[go_sem]
 refine callfG 1272 (zkm a0 a1 r3 hr3) (by simp -implicitDefEqProofs only[go_sem]<;>rfl) (zb _) (by first | exact persF | exact flatF rfl | exact flatF (by simp[RV.flat,RV.flatL,PV.scalar,isVal,zbd])) (by simp -implicitDefEqProofs only[go_sem]) ?_
 try simp -implicitDefEqProofs only[go_sem]
 refine zq (fun b4=>?_) (fun b4=>?_)
 ·replace h:=zd h b4
  try simp -implicitDefEqProofs only[go_sem,b4]
  refine zw (fun b5=>?_) (fun b5=>?_)
  ·replace h:=zd h b5
   cases h
   try simp -implicitDefEqProofs only[go_sem,b4,b5]
   all_goals((repeat' apply And.intro)<;>rfl)
  ·replace h:=ze h b5
   try simp -implicitDefEqProofs only[go_sem,b4,b5]
   refine zc (fun b6=>?_) (fun b6=>?_)
   ·replace h:=zd h b6
    cases h
    try simp -implicitDefEqProofs only[go_sem,b4,b5,b6]
    all_goals((repeat' apply And.intro)<;>rfl)
   ·replace h:=ze h b6
    obtain⟨e7,c7,g7,q7,h⟩:=zbu zn h
    have c7i:(0:Int)<((a2.length:Nat):Int):=by omega
    have c7j:(0:Int)≤0:=by decide
    try simp -implicitDefEqProofs only[go_sem,b4,b5,b6,c7,c7i,c7j,g7]
    refine zq (fun b8=>?_) (fun b8=>?_)
    ·replace h:=zd h b8
     try simp -implicitDefEqProofs only[go_sem,b4,b5,b6,c7,c7i,c7j,g7,b8]
     refine zc (fun b9=>?_) (fun b9=>?_)
     ·replace h:=zd h b9
      try simp -implicitDefEqProofs only[go_sem,b4,b5,b6,c7,c7i,c7j,g7,b8,b9]
      refine zq (fun b10=>?_) (fun b10=>?_)
      ·replace h:=zd h b10
       try simp -implicitDefEqProofs only[go_sem,b4,b5,b6,c7,c7i,c7j,g7,b8,b9,b10]
       refine zq (fun b11=>?_) (fun b11=>?_)
       ·replace h:=zd h b11
        try simp -implicitDefEqProofs only[go_sem,b4,b5,b6,c7,c7i,c7j,g7,b8,b9,b10,b11]
        refine zq (fun b12=>?_) (fun b12=>?_)
        ·replace h:=zd h b12
         try simp -implicitDefEqProofs only[go_sem,b4,b5,b6,c7,c7i,c7j,g7,b8,b9,b10,b11,b12]
         refine zq (fun b13=>?_) (fun b13=>?_)
         ·replace h:=zd h b13
          obtain⟨e14,c14a,c14b,g14,q14,h⟩:=zce zbd h
          have c14n:=zbv c14a c14b
          cases h
          try simp -implicitDefEqProofs only[go_sem,b4,b5,b6,c7,c7i,c7j,g7,b8,b9,b10,b11,b12,b13,c14a,c14b,c14n,g14]
          all_goals((repeat' apply And.intro)<;>rfl)
         ·replace h:=ze h b13
          cases h
          try simp -implicitDefEqProofs only[go_sem,b4,b5,b6,c7,c7i,c7j,g7,b8,b9,b10,b11,b12,b13]
          all_goals((repeat' apply And.intro)<;>rfl)
        ·replace h:=ze h b12
         cases h
         try simp -implicitDefEqProofs only[go_sem,b4,b5,b6,c7,c7i,c7j,g7,b8,b9,b10,b11,b12]
         all_goals((repeat' apply And.intro)<;>rfl)
       ·replace h:=ze h b11
        cases h
        try simp -implicitDefEqProofs only[go_sem,b4,b5,b6,c7,c7i,c7j,g7,b8,b9,b10,b11]
        all_goals((repeat' apply And.intro)<;>rfl)
      ·replace h:=ze h b10
       cases h
       try simp -implicitDefEqProofs only[go_sem,b4,b5,b6,c7,c7i,c7j,g7,b8,b9,b10]
       all_goals((repeat' apply And.intro)<;>rfl)
     ·replace h:=ze h b9
      obtain⟨r15,hr15,h⟩:=zm h
      try simp -implicitDefEqProofs only[go_sem,b4,b5,b6,c7,c7i,c7j,g7,b8,b9]
      refine callfG 2184 (zjt r3.1 r15 hr15) (by simp -implicitDefEqProofs only[go_sem,b4,b5,b6,c7,c7i,c7j,g7,b8,b9]<;>rfl) (zb _) (by first | exact persF | exact flatF rfl | exact flatF (by simp[RV.flat,RV.flatL,PV.scalar,isVal,zn])) (by simp -implicitDefEqProofs only[go_sem,b4,b5,b6,c7,c7i,c7j,g7,b8,b9]) ?_
      obtain⟨e16,c16a,c16b,g16,q16,h⟩:=zce zn h
      have c16n:=zbv c16a c16b
      obtain⟨fus17,h⟩:=zbg h
      unfold fuel at fus17
      try simp -implicitDefEqProofs only[go_sem,b4,b5,b6,c7,c7i,c7j,g7,b8,b9,c16a,c16b,c16n,g16]
      refine zbe (fun x:(Nat×(Int))×(Unit)=>envL [(10,.row 2184 0),(11,.p (.val (.int .i64 x.1.2))),(82,.p (.lst (a2.map zn))),(83,.p (.val (.int .i64 ((a2.length:Nat):Int)))),(84,.p (.val (.int .i64 ((x.1.1:Nat):Int))))]) (fun x=>heapL [(2184,.row 0 52 4 (r15.map zn))]) () h (weakL (by simp -implicitDefEqProofs only[go_sem,b4,b5,b6,c7,c7i,c7j,g7,b8,b9,c16a,c16b,c16n,g16]<;>((repeat' apply And.intro)<;>rfl))) ?_ ?_
      ·intro i17 s17 g17 nxts17 Rs17 his17 hNs17 h
       have hws17:=zt (k:=i17) his17 (by omega)
       try dsimp only at h
       obtain⟨e18,c18,g18,q18,h⟩:=zbu zn h
       obtain⟨r19,hr19,h⟩:=zm h
       try simp -implicitDefEqProofs only[go_sem,b4,b5,b6,c7,c7i,c7j,g7,b8,b9,c16a,c16b,c16n,g16,his17,hws17,c18,g18]
       refine callG (zjr r15 e18 r19 hr19) (by simp -implicitDefEqProofs only[go_sem,b4,b5,b6,c7,c7i,c7j,g7,b8,b9,c16a,c16b,c16n,g16,his17,hws17,c18,g18]<;>rfl) (zb _) (by first | exact pers | exact scal rfl) ?_
       try simp -implicitDefEqProofs only[go_sem,b4,b5,b6,c7,c7i,c7j,g7,b8,b9,c16a,c16b,c16n,g16,his17,hws17,c18,g18]
       refine zq (fun b20=>?_) (fun b20=>?_)
       ·replace h:=zd h b20
        try simp -implicitDefEqProofs only[go_sem,b4,b5,b6,c7,c7i,c7j,g7,b8,b9,c16a,c16b,c16n,g16,his17,hws17,c18,g18,b20]
        refine zg (fun b21=>?_) (fun b21=>?_)
        ·replace h:=zd h b21
         try simp -implicitDefEqProofs only[go_sem,b4,b5,b6,c7,c7i,c7j,g7,b8,b9,c16a,c16b,c16n,g16,his17,hws17,c18,g18,b20,b21]
         exact hNs17 e18.dst () h (weakL (by simp -implicitDefEqProofs only[go_sem,b4,b5,b6,c7,c7i,c7j,g7,b8,b9,c16a,c16b,c16n,g16,his17,hws17,c18,g18,b20,b21]<;>((repeat' apply And.intro)<;>rfl)))
        ·replace h:=ze h b21
         cases h
         try simp -implicitDefEqProofs only[go_sem,b4,b5,b6,c7,c7i,c7j,g7,b8,b9,c16a,c16b,c16n,g16,his17,hws17,c18,g18,b20,b21]
         all_goals((repeat' apply And.intro)<;>rfl)
       ·replace h:=ze h b20
        cases h
        try simp -implicitDefEqProofs only[go_sem,b4,b5,b6,c7,c7i,c7j,g7,b8,b9,c16a,c16b,c16n,g16,his17,hws17,c18,g18,b20]
        all_goals((repeat' apply And.intro)<;>rfl)
      ·intro i17 s17 g17 Rs17 hes17 h
       have hns17:¬ (i17<a2.length):=by omega
       try dsimp only at h
       cases h
       try simp -implicitDefEqProofs only[go_sem,b4,b5,b6,c7,c7i,c7j,g7,b8,b9,c16a,c16b,c16n,g16,hns17]
       all_goals((repeat' apply And.intro)<;>rfl)
    ·replace h:=ze h b8
     obtain⟨r22,hr22,h⟩:=zm h
     try simp -implicitDefEqProofs only[go_sem,b4,b5,b6,c7,c7i,c7j,g7,b8]
     refine callfG 2184 (zjt r3.1 r22 hr22) (by simp -implicitDefEqProofs only[go_sem,b4,b5,b6,c7,c7i,c7j,g7,b8]<;>rfl) (zb _) (by first | exact persF | exact flatF rfl | exact flatF (by simp[RV.flat,RV.flatL,PV.scalar,isVal,zn])) (by simp -implicitDefEqProofs only[go_sem,b4,b5,b6,c7,c7i,c7j,g7,b8]) ?_
     obtain⟨e23,c23a,c23b,g23,q23,h⟩:=zce zn h
     have c23n:=zbv c23a c23b
     obtain⟨fus24,h⟩:=zbg h
     unfold fuel at fus24
     try simp -implicitDefEqProofs only[go_sem,b4,b5,b6,c7,c7i,c7j,g7,b8,c23a,c23b,c23n,g23]
     refine zbe (fun x:(Nat×(Int))×(Unit)=>envL [(10,.row 2184 0),(11,.p (.val (.int .i64 x.1.2))),(82,.p (.lst (a2.map zn))),(83,.p (.val (.int .i64 ((a2.length:Nat):Int)))),(84,.p (.val (.int .i64 ((x.1.1:Nat):Int))))]) (fun x=>heapL [(2184,.row 0 52 4 (r22.map zn))]) () h (weakL (by simp -implicitDefEqProofs only[go_sem,b4,b5,b6,c7,c7i,c7j,g7,b8,c23a,c23b,c23n,g23]<;>((repeat' apply And.intro)<;>rfl))) ?_ ?_
     ·intro i24 s24 g24 nxts24 Rs24 his24 hNs24 h
      have hws24:=zt (k:=i24) his24 (by omega)
      try dsimp only at h
      obtain⟨e25,c25,g25,q25,h⟩:=zbu zn h
      obtain⟨r26,hr26,h⟩:=zm h
      try simp -implicitDefEqProofs only[go_sem,b4,b5,b6,c7,c7i,c7j,g7,b8,c23a,c23b,c23n,g23,his24,hws24,c25,g25]
      refine callG (zjr r22 e25 r26 hr26) (by simp -implicitDefEqProofs only[go_sem,b4,b5,b6,c7,c7i,c7j,g7,b8,c23a,c23b,c23n,g23,his24,hws24,c25,g25]<;>rfl) (zb _) (by first | exact pers | exact scal rfl) ?_
      try simp -implicitDefEqProofs only[go_sem,b4,b5,b6,c7,c7i,c7j,g7,b8,c23a,c23b,c23n,g23,his24,hws24,c25,g25]
      refine zq (fun b27=>?_) (fun b27=>?_)
      ·replace h:=zd h b27
       try simp -implicitDefEqProofs only[go_sem,b4,b5,b6,c7,c7i,c7j,g7,b8,c23a,c23b,c23n,g23,his24,hws24,c25,g25,b27]
       refine zg (fun b28=>?_) (fun b28=>?_)
       ·replace h:=zd h b28
        try simp -implicitDefEqProofs only[go_sem,b4,b5,b6,c7,c7i,c7j,g7,b8,c23a,c23b,c23n,g23,his24,hws24,c25,g25,b27,b28]
        exact hNs24 e25.dst () h (weakL (by simp -implicitDefEqProofs only[go_sem,b4,b5,b6,c7,c7i,c7j,g7,b8,c23a,c23b,c23n,g23,his24,hws24,c25,g25,b27,b28]<;>((repeat' apply And.intro)<;>rfl)))
       ·replace h:=ze h b28
        cases h
        try simp -implicitDefEqProofs only[go_sem,b4,b5,b6,c7,c7i,c7j,g7,b8,c23a,c23b,c23n,g23,his24,hws24,c25,g25,b27,b28]
        all_goals((repeat' apply And.intro)<;>rfl)
      ·replace h:=ze h b27
       cases h
       try simp -implicitDefEqProofs only[go_sem,b4,b5,b6,c7,c7i,c7j,g7,b8,c23a,c23b,c23n,g23,his24,hws24,c25,g25,b27]
       all_goals((repeat' apply And.intro)<;>rfl)
     ·intro i24 s24 g24 Rs24 hes24 h
      have hns24:¬ (i24<a2.length):=by omega
      try dsimp only at h
      cases h
      try simp -implicitDefEqProofs only[go_sem,b4,b5,b6,c7,c7i,c7j,g7,b8,c23a,c23b,c23n,g23,hns24]
      all_goals((repeat' apply And.intro)<;>rfl)
 ·replace h:=ze h b4
  cases h
  try simp -implicitDefEqProofs only[go_sem,b4]
  all_goals((repeat' apply And.intro)<;>rfl)
end
end Go.Proofs.YthjgdkloabgcoaaGreat
set_option maxRecDepth 20000
namespace Go.Proofs.YthjgdkloabgcoaaGreat
open Go.Abs


noncomputable section
theorem zml (a0:zl) (a1:List zu) (r:(List zi)×Int) (h:zel a0 a1=some r):zh Tryz.prog 10 [.agg [.lst (a0.nodes.map encNode),.lst (a0.edges.map encEdgeT)],.lst (a1.map zbj)] (fun v=>v = .tup [.lst (r.1.map zn),.val (.int .i64 r.2)]):=by
 refine zh.ple ?_
 refine zf [25] Ty.mixed Tryz.func10 rfl (by kernel_rfl) (by simp[Tryz.ntmps10]) ?_; rw[Tryz.ntmps10,Tryz.results10]
 unfold zel at h
 obtain⟨r2,hr2,h⟩:=zm h
 try simp -implicitDefEqProofs only[go_sem]
 refine callfG 1208 (zkm a0 a1 r2 hr2) (by simp -implicitDefEqProofs only[go_sem]<;>rfl) (zb _) (by first | exact persF | exact flatF rfl | exact flatF (by simp[RV.flat,RV.flatL,PV.scalar,isVal,zbd])) (by simp -implicitDefEqProofs only[go_sem]) ?_
 try simp -implicitDefEqProofs only[go_sem]
 refine zg (fun b3=>?_) (fun b3=>?_)
 ·replace h:=zd h b3
  obtain⟨r4,hr4,h⟩:=zm h
  try simp -implicitDefEqProofs only[go_sem,b3]
  refine callG (zg8 r2.1 (fun x5=>zff x5) 31 [] [] (fun x5 r h=>zq3 x5 r h) r4 hr4) (by simp -implicitDefEqProofs only[go_sem,b3]<;>rfl) (zb _) (by first | exact pers | exact scal rfl) ?_
  try simp -implicitDefEqProofs only[go_sem,b3]
  refine zc (fun b6=>?_) (fun b6=>?_)
  ·replace h:=zd h b6
   cases h
   try simp -implicitDefEqProofs only[go_sem,b3,b6]
   all_goals((repeat' apply And.intro)<;>rfl)
  ·replace h:=ze h b6
   try simp -implicitDefEqProofs only[go_sem,b3,b6]
   refine zhv 1208 0 85 2 (r2.1.map zbd) [6] (by simp -implicitDefEqProofs only[go_sem,b3,b6]<;>rfl) (by simp -implicitDefEqProofs only[go_sem,b3,b6]<;>((repeat' apply And.intro)<;>rfl)) (by decide) ?_
   refine zbn [.q,.q,.q,.q,.q,.q,.q,.q,.q,.q,.q] (by kernel_rfl) ?_
   obtain⟨r7,hr7,h⟩:=zm h
   try simp -implicitDefEqProofs only[go_sem,b3,b6]
   refine calldG (show zh _ _ _ (fun v=>v = .lst (r7.map zn)) from (zjt r2.1 r7 hr7).toV1) (by simp -implicitDefEqProofs only[go_sem,b3,b6]<;>rfl) (zb _) (by first | exact pers | exact scal rfl) ?_
   obtain⟨r8,hr8,h⟩:=zm h
   try simp -implicitDefEqProofs only[go_sem,b3,b6]
   refine calldG (zsl r7 (IntKind.i64.wrap (((a0.nodes.length:Nat):Int)+((a0.edges.length:Nat):Int))) r8 hr8) (by simp -implicitDefEqProofs only[go_sem,b3,b6]<;>rfl) (zb _) (by first | exact pers | exact scal rfl) ?_
   try simp -implicitDefEqProofs only[go_sem,b3,b6]
   refine zc (fun b9=>?_) (fun b9=>?_)
   ·replace h:=zd h b9
    cases h
    try simp -implicitDefEqProofs only[go_sem,b3,b6,b9]
    all_goals((repeat' apply And.intro)<;>rfl)
   ·replace h:=ze h b9
    cases h
    try simp -implicitDefEqProofs only[go_sem,b3,b6,b9]
    all_goals((repeat' apply And.intro)<;>rfl)
 ·replace h:=ze h b3
  cases h
  try simp -implicitDefEqProofs only[go_sem,b3]
  all_goals((repeat' apply And.intro)<;>rfl)
theorem zk5 (a0:zl) (a1:List zu) (r:zed×Int) (h:zeq a0 a1=some r):zbt Tryz.prog 14 [.agg [.lst (a0.nodes.map encNode),.lst (a0.edges.map encEdgeT)],.lst (a1.map zbj)] (fun v=>v = .tup [.agg [.row 3 1 (r.1.rules.map encI),.p (.lst (r.1.nodes.map encI)),.p (.lst (r.1.edges.map encI))],.p (.val (.int .i64 r.2))]):=by
 refine zbt.rle ?_
 refine zbx [] Ty.mixed Tryz.func14 rfl (by kernel_rfl) (by simp[Tryz.ntmps14]) ?_; rw[Tryz.ntmps14,Tryz.results14]
 unfold zeq at h
 obtain⟨r2,hr2,h⟩:=zm h
 try simp -implicitDefEqProofs only[go_sem]
 refine callfG 1240 (zkm a0 a1 r2 hr2) (by simp -implicitDefEqProofs only[go_sem]<;>rfl) (zb _) (by first | exact persF | exact flatF rfl | exact flatF (by simp[RV.flat,RV.flatL,PV.scalar,isVal,zbd])) (by simp -implicitDefEqProofs only[go_sem]) ?_
 try simp -implicitDefEqProofs only[go_sem]
 refine zg (fun b3=>?_) (fun b3=>?_)
 ·replace h:=zd h b3
  obtain⟨r4,hr4,h⟩:=zm h
  try simp -implicitDefEqProofs only[go_sem,b3]
  refine callfG 1512 (zs7 r2.1 (IntKind.i64.wrap (((a0.nodes.length:Nat):Int)+((a0.edges.length:Nat):Int))) r4 hr4) (by simp -implicitDefEqProofs only[go_sem,b3]<;>rfl) (zb _) (by first | exact persF | exact flatF rfl | exact flatF (by simp[RV.flat,RV.flatL,PV.scalar,isVal,encI,encI])) (by simp -implicitDefEqProofs only[go_sem,b3]) ?_
  try simp -implicitDefEqProofs only[go_sem,b3]
  refine zg (fun b5=>?_) (fun b5=>?_)
  ·replace h:=zd h b5
   try simp -implicitDefEqProofs only[go_sem,b3,b5]
   refine zhv 1513 0 3 1 (r4.2.1.map encI) [10] (by simp -implicitDefEqProofs only[go_sem,b3,b5]<;>rfl) (by simp -implicitDefEqProofs only[go_sem,b3,b5]<;>((repeat' apply And.intro)<;>rfl)) (by decide) ?_
   refine zbn [.q,.q,.q,.q,.q,.q,.q,.q,.q,.w,.q] (by kernel_rfl) ?_
   obtain⟨⟨c6a,c6b,c6c,c6d⟩,h⟩:=zbg h
   have c6l:=eq_true (zjx (n:=1) (f:=encI) (fun _=>rfl) r4.2.1)
   obtain⟨⟨c7a,c7b,c7c⟩,h⟩:=zbg h
   have c7l:=eq_true (zjx (n:=1) (f:=encI) (fun _=>rfl) r4.2.1)
   cases h
   try simp -implicitDefEqProofs only[go_sem,b3,b5,c6a,c6b,c6c,c6d,c6l,c7a,c7b,c7c,c7l]
   refine⟨by decide,_,.refl _,?_⟩
   simp -implicitDefEqProofs only[go_sem,b3,b5,c6a,c6b,c6c,c6d,c6l,c7a,c7b,c7c,c7l]<;>((repeat' apply And.intro)<;>rfl)
  ·replace h:=ze h b5
   cases h
   try simp -implicitDefEqProofs only[go_sem,b3,b5]
   refine⟨by decide,_,.refl _,?_⟩
   simp -implicitDefEqProofs only[go_sem,b3,b5]<;>((repeat' apply And.intro)<;>rfl)
 ·replace h:=ze h b3
  cases h
  try simp -implicitDefEqProofs only[go_sem,b3]
  refine⟨by decide,_,.refl _,?_⟩
  simp -implicitDefEqProofs only[go_sem,b3]<;>((repeat' apply And.intro)<;>rfl)
end
end Go.Proofs.YthjgdkloabgcoaaGreat
set_option maxRecDepth 20000
namespace Go.Proofs.YthjgdkloabgcoaaGreat
open Go.Abs


noncomputable section
theorem zhn  (r:Bool) (h:zdo  = some r):zh Tryz.prog 8 [] (fun v=>v = .val (.bool r)):=by
 refine zh.ple ?_
 refine zf [] Ty.mixed Tryz.func8 rfl (by kernel_rfl) (by simp[Tryz.ntmps8]) ?_; rw[Tryz.ntmps8,Tryz.results8]
 unfold zdo at h
 obtain⟨r1,hr1,h⟩:=zm h
 try simp -implicitDefEqProofs only[go_sem]
 refine callfG 1128 (zmt r1 hr1) (by simp -implicitDefEqProofs only[go_sem]<;>rfl) (zb _) (by first | exact persF | exact flatF rfl | exact flatF (by simp[RV.flat,RV.flatL,PV.scalar,isVal,encNode,encEdgeT])) (by simp -implicitDefEqProofs only[go_sem]) ?_
 try simp -implicitDefEqProofs only[go_sem]
 refine zhv 1128 0 113 4 (r1.nodes.map encNode) [] (by simp -implicitDefEqProofs only[go_sem]<;>rfl) (by simp -implicitDefEqProofs only[go_sem]<;>((repeat' apply And.intro)<;>rfl)) (by decide) ?_
 refine zhv 1129 0 115 7 (r1.edges.map encEdgeT) [] (by simp -implicitDefEqProofs only[go_sem]<;>rfl) (by simp -implicitDefEqProofs only[go_sem]<;>((repeat' apply And.intro)<;>rfl)) (by decide) ?_
 refine zfg [(1,.q),(2,.p),(0,.q),(3,.f),(4,.q),(5,.q),(6,.o),(7,.w),(8,.s),(9,.q)] (by kernel_rfl) ?_
 obtain⟨r2,hr2,h⟩:=zm h
 try simp -implicitDefEqProofs only[go_sem]
 refine calldG (zh0 0 r2 hr2) (by simp -implicitDefEqProofs only[go_sem]<;>rfl) (zb _) (by first | exact pers | exact scal rfl) ?_
 obtain⟨r3,hr3,h⟩:=zm h
 try simp -implicitDefEqProofs only[go_sem]
 refine calldfG 1208 (zk5 r1 [r2] r3 hr3) (by simp -implicitDefEqProofs only[go_sem]<;>rfl) (zb _) (by first | exact persF | exact flatF rfl | exact flatF (by simp[RV.flat,RV.flatL,PV.scalar,isVal,encI])) (by simp -implicitDefEqProofs only[go_sem]) (by simp -implicitDefEqProofs only[go_sem]) ?_
 try simp -implicitDefEqProofs only[go_sem]
 refine zfg [(1,.q),(2,.p),(0,.q),(3,.q),(4,.q),(5,.q),(6,.o),(7,.w),(8,.s),(9,.q)] (by kernel_rfl) ?_
 obtain⟨r4,hr4,h⟩:=zm h
 try simp -implicitDefEqProofs only[go_sem]
 refine calldG (zh0 1 r4 hr4) (by simp -implicitDefEqProofs only[go_sem]<;>rfl) (zb _) (by first | exact pers | exact scal rfl) ?_
 obtain⟨r5,hr5,h⟩:=zm h
 try simp -implicitDefEqProofs only[go_sem]
 refine calldG (show zh _ _ _ (fun v=>v = .tup [.agg (zll r5.1),.val (.int .i64 r5.2)]) from (zk5 r1 [r4] r5 hr5).toV1) (by simp -implicitDefEqProofs only[go_sem]<;>rfl) (zb _) (by first | exact pers | exact scal rfl) ?_
 try simp -implicitDefEqProofs only[go_sem]
 refine zfg [(1,.q),(2,.p),(0,.q),(3,.q),(4,.q),(5,.q),(6,.q),(7,.q),(8,.q)] (by kernel_rfl) ?_
 obtain⟨r6,hr6,h⟩:=zm h
 try simp -implicitDefEqProofs only[go_sem]
 refine calldG (zh0 2 r6 hr6) (by simp -implicitDefEqProofs only[go_sem]<;>rfl) (zb _) (by first | exact pers | exact scal rfl) ?_
 obtain⟨r7,hr7,h⟩:=zm h
 try simp -implicitDefEqProofs only[go_sem]
 refine calldG (zml r1 [r6] r7 hr7) (by simp -implicitDefEqProofs only[go_sem]<;>rfl) (zb _) (by first | exact pers | exact scal rfl) ?_
 try simp -implicitDefEqProofs only[go_sem]
 refine zq (fun b8=>?_) (fun b8=>?_)
 ·replace h:=zd h b8
  obtain⟨r9,hr9,h⟩:=zm h
  try simp -implicitDefEqProofs only[go_sem,b8]
  refine callG (zl1 r3.1.rules [0] r9 hr9) (by simp -implicitDefEqProofs only[go_sem,b8]<;>rfl) (zb _) (by first | exact pers | exact scal rfl) ?_
  try simp -implicitDefEqProofs only[go_sem,b8]
  refine zq (fun b10=>?_) (fun b10=>?_)
  ·replace h:=zd h b10
   try simp -implicitDefEqProofs only[go_sem,b8,b10]
   refine zq (fun b11=>?_) (fun b11=>?_)
   ·replace h:=zd h b11
    obtain⟨r12,hr12,h⟩:=zm h
    try simp -implicitDefEqProofs only[go_sem,b8,b10,b11]
    refine callG (zl1 r5.1.nodes [0,0,1,0] r12 hr12) (by simp -implicitDefEqProofs only[go_sem,b8,b10,b11]<;>rfl) (zb _) (by first | exact pers | exact scal rfl) ?_
    try simp -implicitDefEqProofs only[go_sem,b8,b10,b11]
    refine zq (fun b13=>?_) (fun b13=>?_)
    ·replace h:=zd h b13
     try simp -implicitDefEqProofs only[go_sem,b8,b10,b11,b13]
     refine zq (fun b14=>?_) (fun b14=>?_)
     ·replace h:=zd h b14
      obtain⟨r15,hr15,h⟩:=zm h
      try simp -implicitDefEqProofs only[go_sem,b8,b10,b11,b13,b14]
      refine callG (zkv r7.1 [(⟨0,5,5,1⟩:zi)] r15 hr15) (by simp -implicitDefEqProofs only[go_sem,b8,b10,b11,b13,b14]<;>rfl) (zb _) (by first | exact pers | exact scal rfl) ?_
      cases h
      try simp -implicitDefEqProofs only[go_sem,b8,b10,b11,b13,b14]
      all_goals((repeat' apply And.intro)<;>rfl)
     ·replace h:=ze h b14
      cases h
      try simp -implicitDefEqProofs only[go_sem,b8,b10,b11,b13,b14]
      all_goals((repeat' apply And.intro)<;>rfl)
    ·replace h:=ze h b13
     cases h
     try simp -implicitDefEqProofs only[go_sem,b8,b10,b11,b13]
     all_goals((repeat' apply And.intro)<;>rfl)
   ·replace h:=ze h b11
    cases h
    try simp -implicitDefEqProofs only[go_sem,b8,b10,b11]
    all_goals((repeat' apply And.intro)<;>rfl)
  ·replace h:=ze h b10
   cases h
   try simp -implicitDefEqProofs only[go_sem,b8,b10]
   all_goals((repeat' apply And.intro)<;>rfl)
 ·replace h:=ze h b8
  cases h
  try simp -implicitDefEqProofs only[go_sem,b8]
  all_goals((repeat' apply And.intro)<;>rfl)
theorem zkg (a0:zl) (a1:List zu) (r:Bool) (h:zdj a0 a1=some r):zh Tryz.prog 3 [.agg [.lst (a0.nodes.map encNode),.lst (a0.edges.map encEdgeT)],.lst (a1.map zbj)] (fun v=>v = .val (.bool r)):=by
 refine zh.ple ?_
 refine zf [] Ty.mixed Tryz.func3 rfl (by kernel_rfl) (by simp[Tryz.ntmps3]) ?_; rw[Tryz.ntmps3,Tryz.results3]
 unfold zdj at h
 obtain⟨r2,hr2,h⟩:=zm h
 try simp -implicitDefEqProofs only[go_sem]
 refine callG (zhn r2 hr2) (by simp -implicitDefEqProofs only[go_sem]<;>rfl) (zb _) (by first | exact pers | exact scal rfl) ?_
 try simp -implicitDefEqProofs only[go_sem]
 refine zq (fun b3=>?_) (fun b3=>?_)
 ·replace h:=zd h b3
  obtain⟨r4,hr4,h⟩:=zm h
  try simp -implicitDefEqProofs only[go_sem,b3]
  refine callG (zoz a0 a1 r4 hr4) (by simp -implicitDefEqProofs only[go_sem,b3]<;>rfl) (zb _) (by first | exact pers | exact scal rfl) ?_
  try simp -implicitDefEqProofs only[go_sem,b3]
  refine zg (fun b5=>?_) (fun b5=>?_)
  ·replace h:=zd h b5
   try simp -implicitDefEqProofs only[go_sem,b3,b5]
   refine zbn [.q,.q,.q,.q,.q,.q,.q,.q,.q] (by kernel_rfl) ?_
   obtain⟨r6,hr6,h⟩:=zm h
   try simp -implicitDefEqProofs only[go_sem,b3,b5]
   refine calldG (show zh _ _ _ (fun v=>v = .lst (r6.map zbj)) from (zqv a1 r6 hr6).toV1) (by simp -implicitDefEqProofs only[go_sem,b3,b5]<;>rfl) (zb _) (by first | exact pers | exact scal rfl) ?_
   obtain⟨r7,hr7,h⟩:=zm h
   try simp -implicitDefEqProofs only[go_sem,b3,b5]
   refine calldG (zml a0 r6 r7 hr7) (by simp -implicitDefEqProofs only[go_sem,b3,b5]<;>rfl) (zb _) (by first | exact pers | exact scal rfl) ?_
   obtain⟨r8,hr8,h⟩:=zm h
   try simp -implicitDefEqProofs only[go_sem,b3,b5]
   refine callG (znb a0 a1 r8 hr8) (by simp -implicitDefEqProofs only[go_sem,b3,b5]<;>rfl) (zb _) (by first | exact pers | exact scal rfl) ?_
   try simp -implicitDefEqProofs only[go_sem,b3,b5]
   refine zq (fun b9=>?_) (fun b9=>?_)
   ·replace h:=zd h b9
    obtain⟨r10,hr10,h⟩:=zm h
    try simp -implicitDefEqProofs only[go_sem,b3,b5,b9]
    refine callG (zkv r7.1 r8.1 r10 hr10) (by simp -implicitDefEqProofs only[go_sem,b3,b5,b9]<;>rfl) (zb _) (by first | exact pers | exact scal rfl) ?_
    try simp -implicitDefEqProofs only[go_sem,b3,b5,b9]
    refine zg (fun b11=>?_) (fun b11=>?_)
    ·replace h:=zd h b11
     obtain⟨r12,hr12,h⟩:=zm h
     try simp -implicitDefEqProofs only[go_sem,b3,b5,b9,b11]
     refine callfG 1720 (zk5 a0 a1 r12 hr12) (by simp -implicitDefEqProofs only[go_sem,b3,b5,b9,b11]<;>rfl) (zb _) (by first | exact persF | exact flatF rfl | exact flatF (by simp[RV.flat,RV.flatL,PV.scalar,isVal,encI])) (by simp -implicitDefEqProofs only[go_sem,b3,b5,b9,b11]) ?_
     try simp -implicitDefEqProofs only[go_sem,b3,b5,b9,b11]
     refine zc (fun b13=>?_) (fun b13=>?_)
     ·replace h:=zd h b13
      try simp -implicitDefEqProofs only[go_sem,b3,b5,b9,b11,b13]
      refine zq (fun b14=>?_) (fun b14=>?_)
      ·replace h:=zd h b14
       obtain⟨r15,hr15,h⟩:=zm h
       try simp -implicitDefEqProofs only[go_sem,b3,b5,b9,b11,b13,b14]
       refine callG (zol a0 a1 r7.1 r15 hr15) (by simp -implicitDefEqProofs only[go_sem,b3,b5,b9,b11,b13,b14]<;>rfl) (zb _) (by first | exact pers | exact scal rfl) ?_
       cases h
       try simp -implicitDefEqProofs only[go_sem,b3,b5,b9,b11,b13,b14]
       all_goals((repeat' apply And.intro)<;>rfl)
      ·replace h:=ze h b14
       cases h
       try simp -implicitDefEqProofs only[go_sem,b3,b5,b9,b11,b13,b14]
       all_goals((repeat' apply And.intro)<;>rfl)
     ·replace h:=ze h b13
      try simp -implicitDefEqProofs only[go_sem,b3,b5,b9,b11,b13]
      refine zc (fun b16=>?_) (fun b16=>?_)
      ·replace h:=zd h b16
       cases h
       try simp -implicitDefEqProofs only[go_sem,b3,b5,b9,b11,b13,b16]
       all_goals((repeat' apply And.intro)<;>rfl)
      ·replace h:=ze h b16
       cases h
       try simp -implicitDefEqProofs only[go_sem,b3,b5,b9,b11,b13,b16]
       all_goals((repeat' apply And.intro)<;>rfl)
    ·replace h:=ze h b11
     cases h
     try simp -implicitDefEqProofs only[go_sem,b3,b5,b9,b11]
     all_goals((repeat' apply And.intro)<;>rfl)
   ·replace h:=ze h b9
    cases h
    try simp -implicitDefEqProofs only[go_sem,b3,b5,b9]
    all_goals((repeat' apply And.intro)<;>rfl)
  ·replace h:=ze h b5
   obtain⟨r17,hr17,h⟩:=zm h
   try simp -implicitDefEqProofs only[go_sem,b3,b5]
   refine callG (zhn r17 hr17) (by simp -implicitDefEqProofs only[go_sem,b3,b5]<;>rfl) (zb _) (by first | exact pers | exact scal rfl) ?_
   cases h
   try simp -implicitDefEqProofs only[go_sem,b3,b5]
   all_goals((repeat' apply And.intro)<;>rfl)
 ·replace h:=ze h b3
  obtain⟨r18,hr18,h⟩:=zm h
  try simp -implicitDefEqProofs only[go_sem,b3]
  refine callG (zhn r18 hr18) (by simp -implicitDefEqProofs only[go_sem,b3]<;>rfl) (zb _) (by first | exact pers | exact scal rfl) ?_
  cases h
  try simp -implicitDefEqProofs only[go_sem,b3]
  all_goals((repeat' apply And.intro)<;>rfl)
end
end Go.Proofs.YthjgdkloabgcoaaGreat
set_option maxRecDepth 20000
namespace Go.Proofs.YthjgdkloabgcoaaGreat
open Go.Abs


noncomputable section
end
end Go.Proofs.YthjgdkloabgcoaaGreat
namespace Go.Proofs.YthjgdkloabgcoaaGreat
open Go.Abs


end Go.Proofs.YthjgdkloabgcoaaGreat
namespace Go.Proofs.YthjgdkloabgcoaaGreat
open Go.Abs
open Go.ChangeShapes Go.WideShapes Go.ChangeAt Go.RowKit
variable {w:World} {H:Type} {enc:TypeId×Value→H}

def G9 (_:ByteArray):Prop:=True
theorem d9:Dec Tryz.prog w enc 9 1 encS G9 :=
 .str Tryz.underlying9
def G3 (n:Int):Prop:=IntKind.i64.min≤n∧n≤IntKind.i64.max
theorem d3:Dec Tryz.prog w enc 3 1 (fun n:Int=>[.val (.int .i64 n)]) G3 :=
 .intk .i64 Tryz.underlying3
def G4 (_:Bool):Prop:=True
theorem d4:Dec Tryz.prog w enc 4 1 zk2 G4 :=
 .bool Tryz.underlying4
def G108 (l:List ByteArray):Prop:=(∀x∈l,G9 x)∧l.length≤reachBytes
theorem d108:Dec Tryz.prog w enc 108 1 (fun l:List ByteArray=>[.lst (l.map encS)]) G108 :=
 (Dec.slice Tryz.underlying108 (by kernel_rfl) (by decide) (of_decide_eq_true (by kernel_rfl)) d9).map id id (fun _=>rfl) (fun _=>rfl) (fun _ h=>h)
def G110 (x:Attr):Prop:=G9 x.name∧G3 x.low∧G3 x.high∧G108 x.names∧True
theorem d110:Dec Tryz.prog w enc 110 4 (fun x:Attr=>[.val (.string x.name),.val (.int .i64 x.low),.val (.int .i64 x.high),.lst (x.names.map encS)]) G110 :=
 (Dec.struct Tryz.underlying110 (by kernel_rfl) (.cons rfl (by kernel_rfl) d9 (.cons rfl (by kernel_rfl) d3 (.cons rfl (by kernel_rfl) d3 (.cons rfl (by kernel_rfl) d108 (.nil _)))))).map (fun x=>⟨x.1,x.2.1,x.2.2.1,x.2.2.2.1⟩) (fun a=>(a.name,a.low,a.high,a.names,())) (fun _=>rfl) (fun _=>rfl) (fun _ h=>h)
def G111 (l:List Attr):Prop:=(∀x∈l,G110 x)∧l.length≤reachBytes
theorem d111:Dec Tryz.prog w enc 111 1 (fun l:List Attr=>[.lst (l.map encAttr)]) G111 :=
 (Dec.slice Tryz.underlying111 (by kernel_rfl) (by decide) (of_decide_eq_true (by kernel_rfl)) d110).map id id (fun _=>rfl) (fun _=>rfl) (fun _ h=>h)
def G113 (x:zd0):Prop:=G9 x.name∧G3 x.parent∧G4 x.abs∧G111 x.attrs∧True
theorem d113:Dec Tryz.prog w enc 113 4 (fun x:zd0=>[.val (.string x.name),.val (.int .i64 x.parent),.val (.bool x.abs),.lst (x.attrs.map encAttr)]) G113 :=
 (Dec.struct Tryz.underlying113 (by kernel_rfl) (.cons rfl (by kernel_rfl) d9 (.cons rfl (by kernel_rfl) d3 (.cons rfl (by kernel_rfl) d4 (.cons rfl (by kernel_rfl) d111 (.nil _)))))).map (fun x=>⟨x.1,x.2.1,x.2.2.1,x.2.2.2.1⟩) (fun a=>(a.name,a.parent,a.abs,a.attrs,())) (fun _=>rfl) (fun _=>rfl) (fun _ h=>h)
def G22 (l:List zd0):Prop:=(∀x∈l,G113 x)∧l.length≤reachBytes
theorem d22:Dec Tryz.prog w enc 22 1 (fun l:List zd0=>[.lst (l.map encNode)]) G22 :=
 (Dec.slice Tryz.underlying22 (by kernel_rfl) (by decide) (of_decide_eq_true (by kernel_rfl)) d113).map id id (fun _=>rfl) (fun _=>rfl) (fun _ h=>h)
def G115 (x:zh2):Prop:=G9 x.name∧G3 x.src∧G3 x.dst∧G3 x.outLow∧G3 x.outHigh∧G3 x.inLow∧G3 x.inHigh∧True
theorem d115:Dec Tryz.prog w enc 115 7 (fun x:zh2=>[.val (.string x.name),.val (.int .i64 x.src),.val (.int .i64 x.dst),.val (.int .i64 x.outLow),.val (.int .i64 x.outHigh),.val (.int .i64 x.inLow),.val (.int .i64 x.inHigh)]) G115 :=
 (Dec.struct Tryz.underlying115 (by kernel_rfl) (.cons rfl (by kernel_rfl) d9 (.cons rfl (by kernel_rfl) d3 (.cons rfl (by kernel_rfl) d3 (.cons rfl (by kernel_rfl) d3 (.cons rfl (by kernel_rfl) d3 (.cons rfl (by kernel_rfl) d3 (.cons rfl (by kernel_rfl) d3 (.nil _))))))))).map (fun x=>⟨x.1,x.2.1,x.2.2.1,x.2.2.2.1,x.2.2.2.2.1,x.2.2.2.2.2.1,x.2.2.2.2.2.2.1⟩) (fun a=>(a.name,a.src,a.dst,a.outLow,a.outHigh,a.inLow,a.inHigh,())) (fun _=>rfl) (fun _=>rfl) (fun _ h=>h)
def G23 (l:List zh2):Prop:=(∀x∈l,G115 x)∧l.length≤reachBytes
theorem d23:Dec Tryz.prog w enc 23 1 (fun l:List zh2=>[.lst (l.map encEdgeT)]) G23 :=
 (Dec.slice Tryz.underlying23 (by kernel_rfl) (by decide) (of_decide_eq_true (by kernel_rfl)) d115).map id id (fun _=>rfl) (fun _=>rfl) (fun _ h=>h)
def G25 (x:zl):Prop:=G22 x.nodes∧G23 x.edges∧True
theorem d25:Dec Tryz.prog w enc 25 2 (fun x:zl=>[.lst (x.nodes.map encNode),.lst (x.edges.map encEdgeT)]) G25 :=
 (Dec.struct Tryz.underlying25 (by kernel_rfl) (.cons rfl (by kernel_rfl) d22 (.cons rfl (by kernel_rfl) d23 (.nil _)))).map (fun x=>⟨x.1,x.2.1⟩) (fun a=>(a.nodes,a.edges,())) (fun _=>rfl) (fun _=>rfl) (fun _ h=>h)
def G34 (l:List Int):Prop:=(∀x∈l,G3 x)∧l.length≤reachBytes
theorem d34:Dec Tryz.prog w enc 34 1 (fun l:List Int=>[.lst (l.map encI)]) G34 :=
 (Dec.slice Tryz.underlying34 (by kernel_rfl) (by decide) (of_decide_eq_true (by kernel_rfl)) d3).map id id (fun _=>rfl) (fun _=>rfl) (fun _ h=>h)
def G117 (x:Edge):Prop:=G3 x.type∧G3 x.src∧G3 x.dst∧True
theorem d117:Dec Tryz.prog w enc 117 3 (fun x:Edge=>[.val (.int .i64 x.type),.val (.int .i64 x.src),.val (.int .i64 x.dst)]) G117 :=
 (Dec.struct Tryz.underlying117 (by kernel_rfl) (.cons rfl (by kernel_rfl) d3 (.cons rfl (by kernel_rfl) d3 (.cons rfl (by kernel_rfl) d3 (.nil _))))).map (fun x=>⟨x.1,x.2.1,x.2.2.1⟩) (fun a=>(a.type,a.src,a.dst,())) (fun _=>rfl) (fun _=>rfl) (fun _ h=>h)
def G35 (l:List Edge):Prop:=(∀x∈l,G117 x)∧l.length≤reachBytes
theorem d35:Dec Tryz.prog w enc 35 1 (fun l:List Edge=>[.lst (l.map encEdge)]) G35 :=
 (Dec.slice Tryz.underlying35 (by kernel_rfl) (by decide) (of_decide_eq_true (by kernel_rfl)) d117).map id id (fun _=>rfl) (fun _=>rfl) (fun _ h=>h)
def G37 (x:z8):Prop:=G34 x.nodes∧G35 x.edges∧True
theorem d37:Dec Tryz.prog w enc 37 2 (fun x:z8=>[.lst (x.nodes.map encI),.lst (x.edges.map encEdge)]) G37 :=
 (Dec.struct Tryz.underlying37 (by kernel_rfl) (.cons rfl (by kernel_rfl) d34 (.cons rfl (by kernel_rfl) d35 (.nil _)))).map (fun x=>⟨x.1,x.2.1⟩) (fun a=>(a.nodes,a.edges,())) (fun _=>rfl) (fun _=>rfl) (fun _ h=>h)
def G199 (x:zie):Prop:=G3 x.var∧G3 x.add∧True
theorem d199:Dec Tryz.prog w enc 199 2 (fun x:zie=>[.val (.int .i64 x.var),.val (.int .i64 x.add)]) G199 :=
 (Dec.struct Tryz.underlying199 (by kernel_rfl) (.cons rfl (by kernel_rfl) d3 (.cons rfl (by kernel_rfl) d3 (.nil _)))).map (fun x=>⟨x.1,x.2.1⟩) (fun a=>(a.var,a.add,())) (fun _=>rfl) (fun _=>rfl) (fun _ h=>h)
def G201 (x:zb4):Prop:=G3 x.node∧G3 x.attr∧G199 x.term∧True
theorem d201:Dec Tryz.prog w enc 201 4 (fun x:zb4=>[.val (.int .i64 x.node),.val (.int .i64 x.attr),.val (.int .i64 x.term.var),.val (.int .i64 x.term.add)]) G201 :=
 (Dec.struct Tryz.underlying201 (by kernel_rfl) (.cons rfl (by kernel_rfl) d3 (.cons rfl (by kernel_rfl) d3 (.cons rfl (by kernel_rfl) d199 (.nil _))))).map (fun x=>⟨x.1,x.2.1,x.2.2.1⟩) (fun a=>(a.node,a.attr,a.term,())) (fun _=>rfl) (fun _=>rfl) (fun _ h=>h)
def G38 (l:List zb4):Prop:=(∀x∈l,G201 x)∧l.length≤reachBytes
theorem d38:Dec Tryz.prog w enc 38 1 (fun l:List zb4=>[.lst (l.map zbs)]) G38 :=
 (Dec.slice Tryz.underlying38 (by kernel_rfl) (by decide) (of_decide_eq_true (by kernel_rfl)) d201).map id id (fun _=>rfl) (fun _=>rfl) (fun _ h=>h)
def G203 (x:zc3):Prop:=G3 x.kind∧G199 x.left∧G199 x.right∧True
theorem d203:Dec Tryz.prog w enc 203 5 (fun x:zc3=>[.val (.int .i64 x.kind),.val (.int .i64 x.left.var),.val (.int .i64 x.left.add),.val (.int .i64 x.right.var),.val (.int .i64 x.right.add)]) G203 :=
 (Dec.struct Tryz.underlying203 (by kernel_rfl) (.cons rfl (by kernel_rfl) d3 (.cons rfl (by kernel_rfl) d199 (.cons rfl (by kernel_rfl) d199 (.nil _))))).map (fun x=>⟨x.1,x.2.1,x.2.2.1⟩) (fun a=>(a.kind,a.left,a.right,())) (fun _=>rfl) (fun _=>rfl) (fun _ h=>h)
def G39 (l:List zc3):Prop:=(∀x∈l,G203 x)∧l.length≤reachBytes
theorem d39:Dec Tryz.prog w enc 39 1 (fun l:List zc3=>[.lst (l.map zb7)]) G39 :=
 (Dec.slice Tryz.underlying39 (by kernel_rfl) (by decide) (of_decide_eq_true (by kernel_rfl)) d203).map id id (fun _=>rfl) (fun _=>rfl) (fun _ h=>h)
def G41 (x:z7):Prop:=G37 x.graph∧G38 x.slots∧G3 x.vars∧G39 x.tests∧True
theorem d41:Dec Tryz.prog w enc 41 5 (fun x:z7=>[.lst (x.graph.nodes.map encI),.lst (x.graph.edges.map encEdge),.lst (x.slots.map zbs),.val (.int .i64 x.vars),.lst (x.tests.map zb7)]) G41 :=
 (Dec.struct Tryz.underlying41 (by kernel_rfl) (.cons rfl (by kernel_rfl) d37 (.cons rfl (by kernel_rfl) d38 (.cons rfl (by kernel_rfl) d3 (.cons rfl (by kernel_rfl) d39 (.nil _)))))).map (fun x=>⟨x.1,x.2.1,x.2.2.1,x.2.2.2.1⟩) (fun a=>(a.graph,a.slots,a.vars,a.tests,())) (fun _=>rfl) (fun _=>rfl) (fun _ h=>h)
def G43 (x:zdb):Prop:=G34 x.nodes∧G34 x.edges∧True
theorem d43:Dec Tryz.prog w enc 43 2 (fun x:zdb=>[.lst (x.nodes.map encI),.lst (x.edges.map encI)]) G43 :=
 (Dec.struct Tryz.underlying43 (by kernel_rfl) (.cons rfl (by kernel_rfl) d34 (.cons rfl (by kernel_rfl) d34 (.nil _)))).map (fun x=>⟨x.1,x.2.1⟩) (fun a=>(a.nodes,a.edges,())) (fun _=>rfl) (fun _=>rfl) (fun _ h=>h)
def G44 (x:zby):Prop:=G34 x.nodes∧G34 x.edges∧True
theorem d44:Dec Tryz.prog w enc 44 2 (fun x:zby=>[.lst (x.nodes.map encI),.lst (x.edges.map encI)]) G44 :=
 (Dec.struct Tryz.underlying44 (by kernel_rfl) (.cons rfl (by kernel_rfl) d34 (.cons rfl (by kernel_rfl) d34 (.nil _)))).map (fun x=>⟨x.1,x.2.1⟩) (fun a=>(a.nodes,a.edges,())) (fun _=>rfl) (fun _=>rfl) (fun _ h=>h)
inductive G47:zp→Prop
 | mk (x:zp):G3 x.kind→(∀k∈x.kids,G47 k)→x.kids.length≤reachBytes→G44 x.map→G41 x.pattern→G47 x
theorem d47:Dec Tryz.prog w enc 47 9 (fun x:zp=>[.val (.int .i64 x.kind),.lst (x.kids.map zz),.lst (x.map.nodes.map encI),.lst (x.map.edges.map encI),.lst (x.pattern.graph.nodes.map encI),.lst (x.pattern.graph.edges.map encEdge),.lst (x.pattern.slots.map zbs),.val (.int .i64 x.pattern.vars),.lst (x.pattern.tests.map zb7)]) G47 :=
 Dec.ofN fun N=>by
  induction N with
  | zero=>exact DecN.zero (fun _=>rfl)
  | succ N ih =>
   have h0:=DecN.struct (w:=w) (enc:=enc) (N:=N) Tryz.underlying47 (by kernel_rfl) (.cons rfl (by kernel_rfl) (d3.toN N) (.cons rfl (by kernel_rfl) (DecN.slice Tryz.underlying45 (by kernel_rfl) (by decide) (of_decide_eq_true (by kernel_rfl)) (ih.map id id (fun b=>(zht b).symm) (fun b=>zht b) (fun _ h=>h))) (.cons rfl (by kernel_rfl) (d44.toN N) (.cons rfl (by kernel_rfl) (d41.toN N) (.nil _)))))
   exact DecN.map (fun x:Int×(List zp)×zby×z7×Unit=>⟨x.1,x.2.1,x.2.2.1,x.2.2.2.1⟩) (fun a=>(a.kind,a.kids,a.map,a.pattern,())) (fun _=>rfl) (fun _=>rfl) (fun x h=>.mk _ h.1 h.2.1.1 h.2.1.2 h.2.2.1 h.2.2.2.1) h0
def G49 (x:zu):Prop:=G9 x.name∧G41 x.left∧G41 x.right∧G43 x.keep∧G44 x.into∧G4 x.injective∧G47 x.condition∧True
theorem d49:Dec Tryz.prog w enc 49 25 (fun x:zu=>[.val (.string x.name),.lst (x.left.graph.nodes.map encI),.lst (x.left.graph.edges.map encEdge),.lst (x.left.slots.map zbs),.val (.int .i64 x.left.vars),.lst (x.left.tests.map zb7),.lst (x.right.graph.nodes.map encI),.lst (x.right.graph.edges.map encEdge),.lst (x.right.slots.map zbs),.val (.int .i64 x.right.vars),.lst (x.right.tests.map zb7),.lst (x.keep.nodes.map encI),.lst (x.keep.edges.map encI),.lst (x.into.nodes.map encI),.lst (x.into.edges.map encI),.val (.bool x.injective),.val (.int .i64 x.condition.kind),.lst (x.condition.kids.map zz),.lst (x.condition.map.nodes.map encI),.lst (x.condition.map.edges.map encI),.lst (x.condition.pattern.graph.nodes.map encI),.lst (x.condition.pattern.graph.edges.map encEdge),.lst (x.condition.pattern.slots.map zbs),.val (.int .i64 x.condition.pattern.vars),.lst (x.condition.pattern.tests.map zb7)]) G49 :=
 (Dec.struct Tryz.underlying49 (by kernel_rfl) (.cons rfl (by kernel_rfl) d9 (.cons rfl (by kernel_rfl) d41 (.cons rfl (by kernel_rfl) d41 (.cons rfl (by kernel_rfl) d43 (.cons rfl (by kernel_rfl) d44 (.cons rfl (by kernel_rfl) d4 (.cons rfl (by kernel_rfl) d47 (.nil _))))))))).map (fun x=>⟨x.1,x.2.1,x.2.2.1,x.2.2.2.1,x.2.2.2.2.1,x.2.2.2.2.2.1,x.2.2.2.2.2.2.1⟩) (fun a=>(a.name,a.left,a.right,a.keep,a.into,a.injective,a.condition,())) (fun _=>rfl) (fun _=>rfl) (fun _ h=>h)
def G26 (l:List zu):Prop:=(∀x∈l,G49 x)∧l.length≤reachBytes
theorem d26:Dec Tryz.prog w enc 26 1 (fun l:List zu=>[.lst (l.map zbj)]) G26 :=
 (Dec.slice Tryz.underlying26 (by kernel_rfl) (by decide) (of_decide_eq_true (by kernel_rfl)) d49).map id id (fun _=>rfl) (fun _=>rfl) (fun _ h=>h)
set_option maxRecDepth 100000 in
theorem zbgt:laidOutB Tryz.checked.prog=true:=by kernel_rfl
end Go.Proofs.YthjgdkloabgcoaaGreat
namespace Go.Proofs.YthjgdkloabgcoaaGreat
open Go.Abs

theorem zkj:reachBytes≤1125899906842624:=by decide
theorem condFit {c:zp} (h:G47 c):CFit c:=by
 induction h with
 | mk x h1 h2 h3 h4 h5 ih=>exact .mk x ⟨Nat.le_trans h4.1.2 zkj,Nat.le_trans h4.2.1.2 zkj⟩ ih
theorem ruleFit {r:zu} (h:G49 r):FitR r:=by
 obtain⟨_,_,_,h4,h5,_,h7,_⟩:=h
 exact⟨⟨Nat.le_trans h4.1.2 zkj,Nat.le_trans h4.2.1.2 zkj⟩,⟨Nat.le_trans h5.1.2 zkj,Nat.le_trans h5.2.1.2 zkj⟩,condFit h7⟩
theorem typesFit {t:zl} (h:G25 t):FitT t:=⟨fun n hn=>Nat.le_trans (h.1.1 n hn).2.2.2.1.2 zkj⟩
end Go.Proofs.YthjgdkloabgcoaaGreat
namespace Go.Proofs.YthjgdkloabgcoaaGreat
open Go.Abs

def blockD (i:Nat) (e:zo):List zi:=e.deletes.flatMap fun q=>e.creates.map fun p=>⟨(i:Int),q,p,1⟩
def demandsL (es:List zo):List zi:=(List.range es.length).flatMap fun i=>blockD i (es.getD i ⟨[],[]⟩)
theorem zld {α β:Type} (f:α→List β) (l:List α):∀s:List β,l.foldl (fun s a=>s++f a) s=s++l.flatMap f:=by
 induction l with
 | nil=>intro s; simp
 | cons a l ih=>intro s; rw[List.foldl_cons,ih]; simp
theorem zrt (i:Nat) (e:zo) (h:e.deletes.length≤32∧e.creates.length≤32):(blockD i e).length≤1024:=by
 unfold blockD
 have:∀l:List Int,(l.flatMap fun q=>e.creates.map fun p=>(⟨(i:Int),q,p,1⟩:zi)).length=l.length * e.creates.length:=by
  intro l
  induction l with
  | nil=>simp
  | cons a l ih=>rw[List.flatMap_cons,List.length_append,ih,List.length_map,List.length_cons,Nat.succ_mul]; omega
 rw[this]
 exact Nat.le_trans (Nat.mul_le_mul h.1 h.2) (by decide)
theorem zi7 {es:List zo} {d:zi} : d∈demandsL es↔∃i,∃hi:i<es.length,∃q∈es[i].deletes,∃p∈es[i].creates,d=⟨(i:Int),q,p,1⟩:=by
 unfold demandsL blockD
 simp only[List.mem_flatMap,List.mem_range,List.mem_map]
 constructor
 ·rintro⟨i,hi,q,hq,p,hp,rfl⟩
  have e:es.getD i ⟨[],[]⟩=es[i]:=by simp[hi]
  rw[e] at hq hp
  exact⟨i,hi,q,hq,p,hp,rfl⟩
 ·rintro⟨i,hi,q,hq,p,hp,rfl⟩
  have e:es.getD i ⟨[],[]⟩=es[i]:=by simp[hi]
  exact⟨i,hi,q,by rw[e]; exact hq,p,by rw[e]; exact hp,rfl⟩
theorem zsy {es:List zo} {n:Nat} (hE:EOk es n):(demandsL es).length≤10000:=by
 have h6:=hE.few
 unfold demandsL
 have:∀l:List Nat,(∀i∈l,i<es.length)→(l.flatMap fun i=>blockD i (es.getD i ⟨[],[]⟩)).length≤1024 * l.length:=by
  intro l
  induction l with
  | nil=>intro _; simp
  | cons a l ih =>
   intro h
   have h1:=ih fun i hi=>h i (List.mem_cons_of_mem _ hi)
   have ha:=h a List.mem_cons_self
   have he:=hE.each _ (List.getElem_mem ha)
   have h2:=zrt a (es.getD a ⟨[],[]⟩) (by rw[show es.getD a ⟨[],[]⟩=es[a] by simp[ha]]; exact he.2.2)
   rw[List.flatMap_cons,List.length_append,List.length_cons]
   omega
 have:=this (List.range es.length) (fun i hi=>List.mem_range.1 hi)
 rw[List.length_range] at this
 omega
theorem zwj {es:List zo} {n:Nat} (hE:EOk es n):zdt es=some (demandsL es):=by
 have h6:=hE.few
 unfold zdt
 rw[zbw (zbf (by omega))]
 have e:=zd3 (K:=fun s:List zi=>some s) (s:=([]:List zi)) (List.range es.length) (fun s i=>s++blockD i (es.getD i ⟨[],[]⟩)) (fun i s=>s.length≤1024 * i) (by simp)
  (f:=fun i1486 (s1486:(List zi)) nxts1486 brks1486=>thn (es[i1486]?) fun e1539=>chk (e1539.deletes.length≤fuel) <| forN (fun i1558 (s1558:(List zi)) nxts1558 brks1558=>thn (e1539.deletes[i1558]?) fun e1575=>chk (e1539.creates.length≤fuel) <| forN (fun i1582 (s1582:(List zi)) nxts1582 brks1582=>thn (e1539.creates[i1582]?) fun e1587=>chk (s1582.length+1≤68719476736) <| nxts1582 (s1582++[(⟨((i1486:Nat):Int),e1575,e1587,1⟩:zi)])) (e1539.creates.length - 0) 0 s1558 fun s1582=>nxts1558 s1582) (e1539.deletes.length - 0) 0 s1486 fun s1558=>nxts1486 s1558)
  (fun i hi s hs=>by
   have hi':i<es.length:=by simpa using hi
   have hx:=hE.each _ (List.getElem_mem hi')
   rw[List.getElem_range]
   have eg:es.getD i ⟨[],[]⟩=es[i]:=by simp[hi']
   refine⟨fun nxt=>?_,by have:=zrt i _ (eg ▸ hx.2.2); rw[List.length_append]; omega⟩
   rw[zbz hi',eg]
   generalize es[i]=a at hx
   rw[zbw (zbf (by omega))]
   rw[(zd3 a.deletes (fun (s:List zi) q=>s++a.creates.map fun p=>(⟨(i:Int),q,p,1⟩:zi)) (fun j s=>s.length≤1024 * i+32 * j) (by omega) (fun j hj s hs=>⟨fun nxt=>by
    rw[zbz hj,zbw (zbf (by omega))]
    rw[(zd3 a.creates (fun (s:List zi) p=>s++[(⟨(i:Int),a.deletes[j],p,1⟩:zi)]) (fun k s=>s.length≤1024 * i+32 * j+k) (by omega) (fun k hk s hs=>⟨fun nxt=>by rw[zbz hk,zbw (by omega)],by simp; omega⟩)).1]
    rw[zmr],by simp; omega⟩)).1]
   rw[zld]
   rfl)
 rw[List.length_range] at e
 rw[e.1,zld,List.nil_append]
 rfl
theorem z4o {t:zl} {rules:List zu} (hF:zhs t rules) (hG:zpk t rules):zep t rules=some (demandsL (rules.map (effL t))):=by
 have hE:=zl3 hG
 have h6:=hG.six
 unfold zep
 rw[zbw (zbf (by omega))]
 have e:=zd3 (K:=fun s:List zi=>some s) (s:=([]:List zi)) (List.range rules.length) (fun s i=>s++blockD i ((rules.map (effL t)).getD i ⟨[],[]⟩)) (fun i s=>s.length≤1024 * i) (by simp)
  (f:=fun i4074 (s4074:(List zi)) nxts4074 brks4074=>thn (rules[i4074]?) fun e4180=>thn (zcg t e4180) fun r4181=>thn (zcv t e4180) fun r4182=>chk (r4181.length≤fuel) <| forN (fun i4218 (s4218:(List zi)) nxts4218 brks4218=>chk (r4182.length≤fuel) <| forN (fun i4264 (s4264:(List zi)) nxts4264 brks4264=>thn (r4181[i4218]?) fun e4280=>thn (r4182[i4264]?) fun e4281=>chk (s4264.length+1≤68719476736) <| nxts4264 (s4264++[(⟨((i4074:Nat):Int),e4280,e4281,1⟩:zi)])) (r4182.length - 0) 0 s4218 fun s4264=>nxts4218 s4264) (r4181.length - 0) 0 s4074 fun s4218=>nxts4074 s4218)
  (fun i hi s hs=>by
   have hi':i<rules.length:=by simpa using hi
   have hm:=List.getElem_mem hi'
   have hx:=hE.each _ (List.mem_map.2 ⟨_,hm,rfl⟩)
   rw[List.getElem_range,zzz hi']
   refine⟨fun nxt=>?_,by have:=zrt i _ hx.2.2; rw[List.length_append]; omega⟩
   rw[zbz hi',zk (zmu hF.types (hF.each _ hm) (hG.each _ hm)),zk (zt0 hF.types (hF.each _ hm) (hG.each _ hm))]
   generalize effL t rules[i]=a at hx
   rw[zbw (zbf (by omega))]
   rw[(zd3 a.deletes (fun (s:List zi) q=>s++a.creates.map fun p=>(⟨(i:Int),q,p,1⟩:zi)) (fun j s=>s.length≤1024 * i+32 * j) (by omega) (fun j hj s hs=>⟨fun nxt=>by
    rw[zbw (zbf (by omega))]
    rw[(zd3 a.creates (fun (s:List zi) p=>s++[(⟨(i:Int),a.deletes[j],p,1⟩:zi)]) (fun k s=>s.length≤1024 * i+32 * j+k) (by omega) (fun k hk s hs=>⟨fun nxt=>by rw[zbz hj,zbz hk,zbw (by omega)],by simp; omega⟩)).1]
    rw[zmr],by simp; omega⟩)).1]
   rw[zld]
   rfl)
 rw[List.length_range] at e
 rw[e.1,zld,List.nil_append]
 unfold demandsL
 rw[List.length_map]

def dEq (a b:zi):Bool:=decide (a.rule=b.rule)&&(decide (a.src=b.src)&&(decide (a.dst=b.dst)&&decide (a.strict=b.strict)))
theorem z2m {a b:zi} : dEq a b=true↔a=b:=by
 unfold dEq
 simp only[Bool.and_eq_true,decide_eq_true_eq]
 constructor
 ·rintro⟨h1,h2,h3,h4⟩; cases a; cases b; simp_all
 ·rintro rfl; exact⟨rfl,rfl,rfl,rfl⟩
def hasD (known:List zi) (d:zi):Bool:=known.any fun k=>dEq d k
theorem ztn {known:List zi} {d:zi} : hasD known d=true↔d∈known:=by
 unfold hasD
 rw[List.any_eq_true]
 constructor
 ·rintro⟨k,hk,h⟩; rw[z2m.1 h]; exact hk
 ·intro h; exact⟨d,h,z2m.2 rfl⟩
theorem zsm {l:List zi} (hl:l.length≤1000000) (d:zi):zdh l d=some (hasD l d):=by
 have h:zfs l d=some (idxQ (fun k=>dEq d k) l):=by
  unfold zfs
  rw[zbw (zbf (by omega))]
  refine zhf l (fun k=>dEq d k) (fun i hi nxt=>?_) rfl
  rw[zbz hi]; rfl
 unfold zdh
 rw[zk h,zi6]; rfl
def chainB (P:zi→Bool):Int→List zi→Bool
 | _,[]=>true
 | s,d :: r=>P d&&(decide (d.src=s)&&chainB P d.dst r)
theorem z5o {σ : Type} {f : Nat → σ → (σ → Option Bool) → (σ → Option Bool) → Option Bool} {K : σ → Option Bool} (P : zi → Bool) (l : List zi) (π : σ → Int) (ν : zi → σ) (hν : ∀ d, π (ν d) = d.dst)
  (h:∀i (hi:i<l.length) s nxt,f i s nxt K=cond (P l[i]) (cond (decide (l[i].src=π s)) (nxt (ν l[i])) (some false)) (some false)) (hK:∀s,K s=some true) (s:σ):forN f (l.length - 0) 0 s K=some (chainB P (π s) l):=by
 have key:∀ (k i:Nat),i+k=l.length→∀s,forN f k i s K=some (chainB P (π s) (l.drop i)):=by
  intro k
  induction k with
  | zero=>intro i hk s; rw[List.drop_eq_nil_of_le (by omega)]; exact hK s
  | succ k ih =>
   intro i hk s
   rw[forN,h i (by omega),List.drop_eq_getElem_cons (by omega),chainB,ih (i+1) (by omega),hν]
   cases P l[i] with
   | false=>rfl
   | true=>cases decide (l[i].src=π s)<;>rfl
 have:=key (l.length - 0) 0 (by omega) s
 simpa using this
def lastD (l:List zi):zi:=l.getD (l.length - 1) ⟨0,0,0,0⟩
def headB (es:List zo) (d:zi):Bool:=decide (0≤d.rule)&&(decide (d.rule<es.length)&&(decide (d.src = -1)&&(decide (d.dst = -1)&&decide ((((es.getD d.rule.toNat ⟨[],[]⟩).deletes.length:Nat):Int)=0))))
def reasonL (es:List zo):List zi→Bool
 | []=>false
 | d :: r=>if 40<(d :: r).length then false else if d.strict=0 then (decide (r=[])&&headB es d) else chainB (hasD (demandsL es)) (lastD (d :: r)).dst (d :: r)
theorem znc (es:List zo) (d:zi) (r:List zi):reasonL es (d :: r)=if 40<(d :: r).length then false else if d.strict=0 then (decide (r=[])&&headB es d) else chainB (hasD (demandsL es)) (lastD (d :: r)).dst (d :: r):=rfl
noncomputable def reasonB (t:zl) (rules:List zu) (l:List zi):Bool:=decide (givenE t rules=0)&&reasonL (rules.map (effL t)) l
theorem zbfu {l:List zi} (h:0<l.length) (h':l.length≤1000000):atZ l (IntKind.i64.wrap (((l.length:Nat):Int) - 1))=some (lastD l):=by
 rw[wrapI (by omega)]
 unfold atZ lastD
 rw[if_pos (by omega),show (((l.length:Nat):Int) - 1).toNat=l.length - 1 by omega,List.getElem?_eq_getElem (by omega)]
 simp[show l.length - 1<l.length by omega]
theorem zbh8 {es:List zo} {p:Int} (h0:0≤p) (h:p<es.length):atZ es p=some (es.getD p.toNat ⟨[],[]⟩):=by
 have hi:p.toNat<es.length:=by omega
 unfold atZ; rw[if_pos h0,List.getElem?_eq_getElem hi]; simp[hi]
theorem strict1 {es:List zo} {d:zi} (h:d.strict=0):hasD (demandsL es) d=false:=by
 refine Bool.eq_false_iff.2 fun hk=>?_
 obtain⟨i,hi,q,hq,p,hp,rfl⟩:=zi7.1 (ztn.1 hk)
 cases h
theorem zxd {t:zl} {rules:List zu} (hF:zhs t rules) {l:List zi} (hl:l.length≤1000000):zfh t rules l=some (reasonB t rules l):=by
 unfold zfh reasonB
 rw[zk (zr8 hF)]
 by_cases h:¬ (givenE t rules=0)
 ·rw[if_neg h,zv (p:=givenE t rules=0),if_neg h,decide_eq_false h,Bool.false_and]
 have h:=Decidable.of_not_not h
 have hG:=zic hF h
 have hE:=zl3 hG
 rw[if_pos h,decide_eq_true rfl,cond_true,decide_eq_true h,Bool.true_and]
 dsimp only
 have hk:=zsy hE
 generalize rules.map (effL t)=es at hE hk ⊢
 cases l with
 | nil=>rfl
 | cons d r =>
 rw[znc]
 rw[decide_eq_false (show ¬ ((((d :: r).length:Nat):Int)=0) by rw[List.length_cons]; omega),cond_false,zv (p:=(40:Int)<(((d :: r).length:Nat):Int))]
 by_cases h40:40<(d :: r).length
 ·rw[if_pos (show (40:Int)<(((d :: r).length:Nat):Int) by omega),if_pos h40]
 rw[if_neg (show ¬ ((40:Int)<(((d :: r).length:Nat):Int)) by omega),if_neg h40]
 rw[List.getElem?_cons_zero,ztq]
 have gen:(thn (zdt es) fun r3916=>thn (atZ (d :: r) (IntKind.i64.wrap ((((d :: r).length:Nat):Int) - 1))) fun e3917=>chk ((d :: r).length≤fuel) <| forN (fun i3923 (s3923:Int) nxts3923 brks3923=>thn ((d :: r)[i3923]?) fun e3928=>thn (zdh r3916 e3928) fun r3929=>cond r3929 (cond (decide (e3928.src=s3923)) (nxts3923 e3928.dst) <| some false) <| some false) ((d :: r).length - 0) 0 e3917.dst fun s3923=>some true)=some (chainB (hasD (demandsL es)) (lastD (d :: r)).dst (d :: r)):=by
  rw[zk (zwj hE),zk (zbfu (by simp) hl),zbw (zbf (by omega))]
  refine z5o (hasD (demandsL es)) (d :: r) (fun s:Int=>s) (fun d=>d.dst) (fun _=>rfl) (fun i hi s nxt=>?_) (fun _=>rfl) _
  rw[zbz hi,zk (zsm (by omega) _)]
 have general0:d.strict=0→chainB (hasD (demandsL es)) (lastD (d :: r)).dst (d :: r)=false:=fun h=>by rw[chainB,strict1 h,Bool.false_and]
 rw[gen]
 by_cases hs:d.strict=0
 ·rw[if_pos hs,general0 hs]
  cases r with
  | cons d2 r2 =>
   rw[decide_eq_false (show ¬ ((((d :: d2 :: r2).length:Nat):Int)=1) by simp only[List.length_cons]; omega),cond_false]
   rfl
  | nil =>
   rw[decide_eq_true (show ((([d].length:Nat):Int)=1) by rfl),cond_true,decide_eq_true hs,cond_true]
   unfold headB
   by_cases c1:0≤d.rule
   ·by_cases c2:d.rule<(es.length:Nat)
    ·rw[zk (zbh8 c1 c2)]
     rw[decide_eq_true c1,decide_eq_true c2]
     cases decide (d.src = -1)<;>cases decide (d.dst = -1)<;>rfl
    ·rw[decide_eq_false c2]
     cases decide (d.src = -1)<;>cases decide (d.dst = -1)<;>cases decide (0≤d.rule)<;>rfl
   ·rw[decide_eq_false c1]
    cases decide (d.src = -1)<;>cases decide (d.dst = -1)<;>rfl
 ·rw[if_neg hs]
  rw[decide_eq_false hs,cond_false]
  cases decide ((((d :: r).length:Nat):Int)=1)<;>rfl
end Go.Proofs.YthjgdkloabgcoaaGreat
namespace Go.Proofs.YthjgdkloabgcoaaGreat
open Go.Abs

def Wk (D:List zi):Nat→Int→Int→Prop
 | 0,a,b=>a=b
 | k+1,a,b=>∃d∈D,d.src=a∧Wk D k d.dst b
theorem Wk.snoc {D:List zi} : ∀ {k:Nat} {a b:Int} {d:zi},Wk D k a b→d∈D→d.src=b→Wk D (k+1) a d.dst
 | 0,a,b,d,h,hd,e=>⟨d,hd,by rw[e]; exact h.symm,rfl⟩
 | k+1,a,b,d,⟨c,hc,h1,h2⟩,hd,e=>⟨c,hc,h1,h2.snoc hd e⟩
structure DOk (D:List zi) (n:Nat):Prop where
 n32:n≤32
 len:D.length≤10000
 ends:∀d∈D,Lay.In n d.src∧Lay.In n d.dst
structure Bfs (D:List zi) (n:Nat) (b:Int) (out q:List Int):Prop where
 len:out.length=n
 low:∀x,Lay.In n x→-1≤Lay.g out x
 walk:∀x,Lay.In n x→0≤Lay.g out x→Wk D (Lay.g out x).toNat x b
 at0:Lay.g out b=0
 inq:∀x∈q,Lay.In n x∧0≤Lay.g out x
 done:∀y,Lay.In n y→0≤Lay.g out y→y ∉ q→∀d∈D,d.dst=y→0≤Lay.g out d.src∧Lay.g out d.src≤Lay.g out y+1
 asc:q.Pairwise fun x y=>Lay.g out x≤Lay.g out y
 near:∀h r,q=h :: r→∀x,Lay.In n x→Lay.g out x≤Lay.g out h+1
def negs (out:List Int):Nat:=out.countP fun v=>decide (v<0)
theorem zbb1 {out:List Int} {n:Nat} (hl:out.length=n) {x:Int} (hx:Lay.In n x) (h:Lay.g out x<0) {v:Int} (hv:0≤v):negs (out.set x.toNat v)+1=negs out:=by
 obtain⟨h1,h2⟩:=hx
 have hi:x.toNat<out.length:=by omega
 unfold negs
 rw[List.countP_set hi]
 have e:out[x.toNat]<0:=by unfold Lay.g at h; simpa[hi] using h
 have hp:0<out.countP fun v=>decide (v<0):=List.countP_pos_iff.2 ⟨_,List.getElem_mem hi,decide_eq_true e⟩
 simp only[decide_eq_true e,if_true,decide_eq_true_eq]
 rw[if_neg (by omega)]
 omega
structure Mid (D:List zi) (n:Nat) (b h:Int) (r:List Int) (out q:List Int) (seen:List zi):Prop where
 len:out.length=n
 low:∀x,Lay.In n x→-1≤Lay.g out x
 walk:∀x,Lay.In n x→0≤Lay.g out x→Wk D (Lay.g out x).toNat x b
 at0:Lay.g out b=0
 inq:∀x∈q,Lay.In n x∧0≤Lay.g out x
 head:∃s,q=h :: r++s∧∀x∈s,Lay.g out x=Lay.g out h+1
 old:∀y,Lay.In n y→0≤Lay.g out y→y ∉ q→∀d∈D,d.dst=y→0≤Lay.g out d.src∧Lay.g out d.src≤Lay.g out y+1
 now:∀d∈seen,d.dst=h→0≤Lay.g out d.src
 asc:(h :: r).Pairwise fun x y=>Lay.g out x≤Lay.g out y
 near:∀x,Lay.In n x→Lay.g out x≤Lay.g out h+1
theorem zbds {D : List zi} {n : Nat} {b h : Int} {r out q : List Int} {seen : List zi} (hD : DOk D n) (hb : Lay.In n b) (hm : Mid D n b h r out q seen) {d : zi} (hd : d ∈ D) :
  Mid D n b h r (distStep h (out,q) d).1 (distStep h (out,q) d).2 (seen++[d])∧negs (distStep h (out,q) d).1+(distStep h (out,q) d).2.length=negs out+q.length:=by
 obtain⟨hsrc,hdst⟩:=hD.ends d hd
 unfold distStep
 by_cases c:d.dst=h∧out.getD d.src.toNat 0<0
 ·obtain⟨c1,c2⟩:=c
  rw[if_pos ⟨c1,c2⟩]
  have c2':Lay.g out d.src<0:=c2
  have hh:Lay.In n h:=c1 ▸ hdst
  obtain⟨s,hs1,hs2⟩:=hm.head
  have hhq:0≤Lay.g out h:=(hm.inq h (by rw[hs1]; simp)).2
  have hset:=fun x (hx:Lay.In n x)=>Lay.g_set (x:=out) hm.len hsrc hx (out.getD h.toNat 0+1)
  have ev:out.getD h.toNat 0+1=Lay.g out h+1:=rfl
  rw[ev] at hset ⊢
  have hne:∀x,0≤Lay.g out x→x≠d.src:=fun x hx e=>by rw[e] at hx; omega
  have hkeep:∀x,Lay.In n x→0≤Lay.g out x→Lay.g (out.set d.src.toNat (Lay.g out h+1)) x=Lay.g out x:=fun x hx h0=>by
   rw[hset x hx,if_neg (hne x h0)]
  have hnew:Lay.g (out.set d.src.toNat (Lay.g out h+1)) d.src=Lay.g out h+1:=by rw[hset _ hsrc,if_pos rfl]
  have hkh:=hkeep h hh hhq
  refine⟨⟨by simp[hm.len],fun x hx=>?_,fun x hx h0=>?_,?_,fun x hx=>?_,⟨s++[d.src],by rw[hs1]; simp,fun x hx=>?_⟩,fun y hy h0 hq e he hey=>?_,fun e he hey=>?_,?_,fun x hx=>?_⟩,?_⟩
  ·rw[hset x hx]; split
   ·omega
   ·exact hm.low x hx
  ·by_cases hxe:x=d.src
   ·subst hxe
    rw[hnew,show (Lay.g out h+1).toNat=(Lay.g out h).toNat+1 by omega]
    exact⟨d,hd,rfl,by rw[c1]; exact hm.walk h hh hhq⟩
   ·rw[hset x hx,if_neg hxe] at h0 ⊢
    exact hm.walk x hx h0
  ·rw[hkeep b hb (by rw[hm.at0]; omega)]; exact hm.at0
  ·rcases List.mem_append.1 hx with hx | hx
   ·obtain⟨k1,k2⟩:=hm.inq x hx
    exact⟨k1,by rw[hkeep x k1 k2]; exact k2⟩
   ·rw[List.mem_singleton.1 hx]
    exact⟨hsrc,by rw[hnew]; omega⟩
  ·rw[hkh]
   rcases List.mem_append.1 hx with hx | hx
   ·obtain⟨k1,k2⟩:=hm.inq x (by rw[hs1]; exact List.mem_append_right _ hx)
    rw[hkeep x k1 k2]; exact hs2 x hx
   ·rw[List.mem_singleton.1 hx]; exact hnew
  ·have hy':y ∉ q:=fun h=>hq (List.mem_append_left _ h)
   have hyd:y≠d.src:=fun h=>hq (List.mem_append_right _ (by simp[h]))
   have h0':0≤Lay.g out y:=by rwa [hset y hy,if_neg hyd] at h0
   obtain⟨k1,k2⟩:=hm.old y hy h0' hy' e he hey
   rw[hkeep _ (hD.ends e he).1 k1,hkeep y hy h0']
   exact⟨k1,k2⟩
  ·rcases List.mem_append.1 he with he | he
   ·have k:=hm.now e he hey
    by_cases hx:Lay.In n e.src
    ·rw[hkeep _ hx k]; exact k
    ·unfold Lay.g at k ⊢
     have:¬ e.src.toNat=d.src.toNat∨e.src.toNat=d.src.toNat:=by omega
     rcases this with h1 | h1
     ·rw[List.getD_eq_getElem?_getD,List.getElem?_set_ne (by omega),←List.getD_eq_getElem?_getD]; exact k
     ·rw[h1]
      have:=hnew
      unfold Lay.g at this
      rw[this]
      have:=hhq
      unfold Lay.g at this
      omega
   ·rw[List.mem_singleton.1 he,hnew]; omega
  ·have hin:∀x∈h :: r,Lay.g (out.set d.src.toNat (Lay.g out h+1)) x=Lay.g out x:=fun x hx=>by
    obtain⟨k1,k2⟩:=hm.inq x (by rw[hs1]; exact List.mem_append_left _ hx)
    exact hkeep x k1 k2
   exact hm.asc.imp_of_mem fun {a b} ha hb hab=>by rw[hin a ha,hin b hb]; exact hab
  ·rw[hkh,hset x hx]; split
   ·omega
   ·exact hm.near x hx
  ·have:=zbb1 hm.len hsrc c2' (v:=Lay.g out h+1) (by omega)
   simp only[List.length_append,List.length_singleton]
   omega
 ·rw[if_neg c]
  refine⟨⟨hm.len,hm.low,hm.walk,hm.at0,hm.inq,hm.head,hm.old,fun e he hey=>?_,hm.asc,hm.near⟩,rfl⟩
  rcases List.mem_append.1 he with he | he
  ·exact hm.now e he hey
  ·rw[List.mem_singleton.1 he] at hey ⊢
   exact Int.not_lt.1 fun h=>c ⟨hey,h⟩
theorem zbba {D : List zi} {n : Nat} {b h : Int} {r : List Int} (hD : DOk D n) (hb : Lay.In n b) : ∀ (l seen : List zi) (out q : List Int), (∀ d ∈ l, d ∈ D) → Mid D n b h r out q seen →
  Mid D n b h r (l.foldl (distStep h) (out,q)).1 (l.foldl (distStep h) (out,q)).2 (seen++l)∧negs (l.foldl (distStep h) (out,q)).1+(l.foldl (distStep h) (out,q)).2.length=negs out+q.length:=by
 intro l
 induction l with
 | nil=>intro seen out q _ hm; rw[List.append_nil]; exact⟨hm,rfl⟩
 | cons d l ih =>
  intro seen out q hl hm
  obtain⟨k1,k2⟩:=zbds hD hb hm (hl d List.mem_cons_self)
  obtain⟨k3,k4⟩:=ih (seen++[d]) _ _ (fun e he=>hl e (List.mem_cons_of_mem _ he)) k1
  rw[List.foldl_cons]
  rw[List.append_assoc,List.singleton_append] at k3
  exact⟨k3,by rw[←k2]; exact k4⟩
theorem zbhs {D:List zi} {n:Nat} {b:Int} (hD:DOk D n) (hb:Lay.In n b):∀ (k:Nat) (out q:List Int),Bfs D n b out q→negs out+q.length≤k→∃o,distGo D k (out,q)=some o∧Bfs D n b o []:=by
 intro k
 induction k with
 | zero =>
  intro out q h hk
  cases q with
  | nil=>exact⟨out,by unfold distGo; rfl,h⟩
  | cons a q=>simp at hk
 | succ k ih =>
  intro out q h hk
  cases q with
  | nil=>exact⟨out,by unfold distGo; rfl,h⟩
  | cons a q =>
   have hm:Mid D n b a q out (a :: q) []:=⟨h.len,h.low,h.walk,h.at0,h.inq,⟨[],by simp,by simp⟩,h.done,by simp,h.asc,h.near a q rfl⟩
   obtain⟨k1,k2⟩:=zbba hD hb D [] out (a :: q) (fun _ h=>h) hm
   rw[distGo]
   generalize hs:D.foldl (distStep a) (out,a :: q)=s at k1 k2
   obtain⟨s,hs1,hs2⟩:=k1.head
   rename_i s0
   obtain⟨o1,q1⟩:=s0
   dsimp only at k1 k2 hs1 hs2 ⊢
   have hq1:q1.drop 1=q++s:=by rw[hs1]; rfl
   have ha:=k1.inq a (by rw[hs1]; simp)
   rw[hq1]
   refine ih o1 (q++s) ⟨k1.len,k1.low,k1.walk,k1.at0,fun x hx=>k1.inq x (by rw[hs1]; simp only[List.cons_append,List.mem_cons]; exact .inr hx),fun y hy h0 hny d hd hdy=>?_,?_,fun h' r' he x hx=>?_⟩ ?_
   ·by_cases hya:y=a
    ·subst hya
     exact⟨k1.now d (by simpa using hd) hdy,k1.near _ (hD.ends d hd).1⟩
    ·exact k1.old y hy h0 (by rw[hs1]; simp only[List.cons_append,List.mem_cons]; exact fun h=>h.elim hya hny) d hd hdy
   ·rw[List.pairwise_append]
    have hasc:=List.pairwise_cons.1 k1.asc
    refine⟨hasc.2,?_,fun x hx y hy=>?_⟩
    ·exact List.pairwise_of_forall_mem_list fun x hx y hy=>by rw[hs2 x hx,hs2 y hy]; exact Int.le_refl _
    ·rw[hs2 y hy]
     exact k1.near x (k1.inq x (by rw[hs1]; simp only[List.cons_append,List.mem_cons,List.mem_append]; exact .inr (.inl hx))).1
   ·have h1:=k1.near x hx
    have h2:Lay.g o1 a≤Lay.g o1 h':=by
     have hin:h'∈q++s:=by rw[he]; exact List.mem_cons_self
     rcases List.mem_append.1 hin with hin | hin
     ·exact (List.pairwise_cons.1 k1.asc).1 h' hin
     ·rw[hs2 h' hin]; omega
    omega
   ·have:q1.length=(q++s).length+1:=by rw[hs1]; simp
    simp only[List.length_cons] at hk k2
    omega
structure Dist (D:List zi) (n:Nat) (b:Int) (o:List Int):Prop where
 len:o.length=n
 low:∀x,Lay.In n x→-1≤Lay.g o x
 walk:∀x,Lay.In n x→0≤Lay.g o x→Wk D (Lay.g o x).toNat x b
 least:∀ (k:Nat) x,Lay.In n x→Wk D k x b→0≤Lay.g o x∧Lay.g o x≤k
theorem z01 {D:List zi} {n:Nat} {b:Int} (hD:DOk D n) (hb:Lay.In n b):∃o,zdd D b (n:Int)=some o∧Dist D n b o:=by
 have h32:=hD.n32
 have hlen:=hD.len
 have hz:∀x,Lay.In n x→Lay.g (List.replicate n (-1)) x = -1:=fun x hx=>by
  obtain⟨h1,h2⟩:=hx
  unfold Lay.g
  rw[List.getD_eq_getElem?_getD,List.getElem?_replicate,if_pos (by omega)]; rfl
 have hset:=fun x (hx:Lay.In n x)=>Lay.g_set (x:=List.replicate n (-1)) (n:=n) (by simp) hb hx 0
 have h0:Bfs D n b ((List.replicate n (-1)).set b.toNat 0) [b]:=by
  refine⟨by simp,fun x hx=>?_,fun x hx h0=>?_,by rw[hset b hb,if_pos rfl],fun x hx=>?_,fun y hy h0 hny=>?_,by simp,fun h r he x hx=>?_⟩
  ·rw[hset x hx,hz x hx]; split<;>omega
  ·rw[hset x hx,hz x hx] at h0 ⊢
   split at h0
   ·rename_i e; rw[if_pos e]; exact e
   ·omega
  ·rw[List.mem_singleton.1 hx,hset b hb,if_pos rfl]; exact⟨hb,by omega⟩
  ·rw[hset y hy,hz y hy,if_neg (fun e=>hny (by simp[e]))] at h0; omega
  ·injection he with he1 he2
   subst he1
   rw[hset x hx,hset b hb,if_pos rfl,hz x hx]; split<;>omega
 have hneg:negs ((List.replicate n (-1)).set b.toNat 0)+[b].length≤n+1:=by
  have:negs ((List.replicate n (-1)).set b.toNat 0)≤((List.replicate n (-1)).set b.toNat 0).length:=List.countP_le_length
  simp at this ⊢
  omega
 obtain⟨o,ho,hB⟩:=zbhs hD hb (n+1) _ _ h0 hneg
 refine⟨o,?_,hB.len,hB.low,hB.walk,?_⟩
 ·unfold zdd
  rw[zk (zha ⟨hb.1,hb.2,by omega,by omega,fun d hd=>(hD.ends d hd).1⟩)]
  simp only[Int.toNat_natCast]
  exact ho
 ·intro k
  induction k with
  | zero =>
   intro x hx hw
   have:x=b:=hw
   subst this
   rw[hB.at0]; exact⟨Int.le_refl _,Int.le_refl _⟩
  | succ k ih =>
   rintro x hx ⟨d,hd,rfl,hw⟩
   have hdst:=(hD.ends d hd).2
   obtain⟨k1,k2⟩:=ih d.dst hdst hw
   obtain⟨k3,k4⟩:=hB.done d.dst hdst k1 (by simp) d hd rfl
   exact⟨k3,by omega⟩
end Go.Proofs.YthjgdkloabgcoaaGreat
namespace Go.Proofs.YthjgdkloabgcoaaGreat
open Go.Abs

theorem Wk.last {D:List zi} : ∀ {k:Nat} {a b:Int},Wk D (k+1) a b→∃d∈D,Wk D k a d.src∧d.dst=b
 | 0,a,b,⟨d,hd,h1,h2⟩=>⟨d,hd,h1.symm,h2⟩
 | k+1,a,b,⟨d,hd,h1,h2⟩=>by
  obtain⟨e,he,h3,h4⟩:=Wk.last h2
  exact⟨e,he,⟨d,hd,h1,h3⟩,h4⟩
theorem zuz {l:List Int} (hl:l.length≤1000000) (x:Int):zc4 l x=some (decide (x∈l)):=by
 unfold zc4
 rw[zbw (zbf (by omega))]
 rw[zco l (fun y=>!decide (y=x)) (fun _=>some true) (fun i hi nxt=>by rw[zbz hi,zij])]
 rw[zee,←List.not_any_eq_all_not,zsg]
 cases decide (x∈l)<;>rfl
theorem zbaa (now:List Int):∀ (D:List zi) (s:List Int),(D.foldl (fun next d=>if d.src∈now then (if d.dst∈next then next else next++[d.dst]) else next) s).length≤s.length+D.length∧∀x,x∈D.foldl (fun next d=>if d.src∈now then (if d.dst∈next then next else next++[d.dst]) else next) s↔x∈s∨∃d∈D,d.src∈now∧d.dst=x:=by
 intro D
 induction D with
 | nil=>intro s; exact⟨by simp,fun x=>by simp⟩
 | cons d D ih =>
  intro s
  rw[List.foldl_cons]
  by_cases h1:d.src∈now
  ·by_cases h2:d.dst∈s
   ·rw[if_pos h1,if_pos h2]
    obtain⟨k1,k2⟩:=ih s
    refine⟨by rw[List.length_cons]; omega,fun x=>?_⟩
    rw[k2]
    constructor
    ·rintro (h | ⟨e,he,h⟩)
     ·exact .inl h
     ·exact .inr ⟨e,List.mem_cons_of_mem _ he,h⟩
    ·rintro (h | ⟨e,he,h3,h4⟩)
     ·exact .inl h
     ·rcases List.mem_cons.1 he with rfl | he
      ·exact .inl (h4 ▸ h2)
      ·exact .inr ⟨e,he,h3,h4⟩
   ·rw[if_pos h1,if_neg h2]
    obtain⟨k1,k2⟩:=ih (s++[d.dst])
    rw[List.length_append,List.length_singleton] at k1
    refine⟨by rw[List.length_cons]; omega,fun x=>?_⟩
    rw[k2,List.mem_append,List.mem_singleton]
    constructor
    ·rintro ((h | h) | ⟨e,he,h⟩)
     ·exact .inl h
     ·exact .inr ⟨d,List.mem_cons_self,h1,h.symm⟩
     ·exact .inr ⟨e,List.mem_cons_of_mem _ he,h⟩
    ·rintro (h | ⟨e,he,h3,h4⟩)
     ·exact .inl (.inl h)
     ·rcases List.mem_cons.1 he with rfl | he
      ·exact .inl (.inr h4.symm)
      ·exact .inr ⟨e,he,h3,h4⟩
  ·rw[if_neg h1]
   obtain⟨k1,k2⟩:=ih s
   refine⟨by rw[List.length_cons]; omega,fun x=>?_⟩
   rw[k2]
   constructor
   ·rintro (h | ⟨e,he,h⟩)
    ·exact .inl h
    ·exact .inr ⟨e,List.mem_cons_of_mem _ he,h⟩
   ·rintro (h | ⟨e,he,h3,h4⟩)
    ·exact .inl h
    ·rcases List.mem_cons.1 he with rfl | he
     ·exact absurd h3 h1
     ·exact .inr ⟨e,he,h3,h4⟩
theorem zws {D:List zi} {n:Nat} (hD:DOk D n) (a b:Int) (k:Nat) (hk:k≤1000):∃r:Bool,zcw D a b (k:Int)=some r∧(r=true↔Wk D k a b):=by
 have hlen:=hD.len
 have key:Ok (zcw D a b (k:Int)) (fun r=>r=true↔Wk D k a b):=by
  unfold zcw
  rw[Int.toNat_natCast]
  refine zdv (zbf (by omega)) ?_
  refine zgl (fun j (now:List Int)=>now.length≤10001∧∀x,x∈now↔Wk D j a x) (Nat.zero_le _) ⟨by simp,fun x=>by rw[List.mem_singleton]; exact eq_comm⟩ ?_ ?_
  ·rintro j now nxt _ hj ⟨hl,hw⟩ hn
   refine zdv (zbf (by omega)) ?_
   have e:=(zd3 (K:=nxt) (s:=([]:List Int)) D (fun next d=>if d.src∈now then (if d.dst∈next then next else next++[d.dst]) else next) (fun i s=>s.length≤i) (Nat.le_refl _)
    (f:=fun i4526 (s4526:(List Int)) nxts4526 brks4526=>thn (D[i4526]?) fun e4535=>thn (zc4 now e4535.src) fun r4536=>cond r4536 (thn (zc4 s4526 e4535.dst) fun r4538=>cond r4538 (nxts4526 s4526) <| chk (s4526.length+1≤68719476736) <| nxts4526 (s4526++[e4535.dst])) <| nxts4526 s4526)
    (fun i hi s hs=>by
     refine⟨fun nx=>?_,?_⟩
     ·rw[zbz hi,zk (zuz (by omega) _),zv (p:=D[i].src∈now)]
      by_cases h1:D[i].src∈now
      ·rw[if_pos h1,if_pos h1,zk (zuz (by omega) _),zv (p:=D[i].dst∈s)]
       by_cases h2:D[i].dst∈s
       ·rw[if_pos h2,if_pos h2]
       ·rw[if_neg h2,if_neg h2,zbw (by omega)]
      ·rw[if_neg h1,if_neg h1]
     ·split
      ·split
       ·omega
       ·simp; omega
      ·omega)).1
   rw[show (fun s=>nxt s)=nxt from rfl] at *
   refine (show Ok (forN _ (D.length - 0) 0 [] nxt) _ from ?_)
   rw[e]
   obtain⟨k1,k2⟩:=zbaa now D []
   refine hn _ ⟨by simp at k1; omega,fun x=>?_⟩
   rw[k2]
   constructor
   ·rintro (h | ⟨d,hd,h1,rfl⟩)
    ·cases h
    ·exact ((hw _).1 h1).snoc hd rfl
   ·intro h
    obtain⟨d,hd,h1,h2⟩:=h.last
    exact .inr ⟨d,hd,(hw _).2 h1,h2⟩
  ·rintro now ⟨hl,hw⟩
   refine zef (zuz (by omega) _) (Ok.mk ?_)
   rw[decide_eq_true_eq]; exact hw b
 obtain⟨r,h1,h2⟩:=key
 exact⟨r,h1,h2⟩
def chainF (D:List zi) (o:List Int):Nat→Int→List zi
 | 0,_=>[]
 | k+1,a=>match D.find? (fun d=>decide (d.src=a)&&decide (Lay.g o d.dst=(k:Int))) with
  | some d=>d :: chainF D o k d.dst
  | none=>[]
section
variable {D:List zi} {n:Nat} {b:Int} {o:List Int} (hD:DOk D n) (ho:Dist D n b o)
include hD ho
theorem zw0 {d:zi} (hd:d∈D) (h:0≤Lay.g o d.dst):0≤Lay.g o d.src∧Lay.g o d.src≤Lay.g o d.dst+1:=by
 obtain⟨h1,h2⟩:=hD.ends d hd
 have:=ho.least ((Lay.g o d.dst).toNat+1) d.src h1 ⟨d,hd,rfl,ho.walk _ h2 h⟩
 omega
theorem zwo {k:Nat} {a:Int} (ha:Lay.In n a) (hg:Lay.g o a=(k:Int)+1):∃d∈D,d.src=a∧Lay.g o d.dst=(k:Int):=by
 have hw:=ho.walk a ha (by omega)
 rw[hg,show ((k:Int)+1).toNat=k+1 by omega] at hw
 obtain⟨d,hd,rfl,h2⟩:=hw
 have h3:=ho.least k d.dst (hD.ends d hd).2 h2
 have h4:=zw0 hD ho hd h3.1
 exact⟨d,hd,rfl,by omega⟩
theorem z8w {k:Nat} {d:zi} (hd:d∈D) (hg:Lay.g o d.src=(k:Int)+1):Wk D k d.dst b↔Lay.g o d.dst=(k:Int):=by
 have h2:=(hD.ends d hd).2
 constructor
 ·intro h
  have h3:=ho.least k d.dst h2 h
  have h4:=zw0 hD ho hd h3.1
  omega
 ·intro h
  have:=ho.walk _ h2 (by omega)
  rwa [h,Int.toNat_natCast] at this
theorem zjy {k:Nat} {a:Int} (ha:Lay.In n a) (hg:Lay.g o a=(k:Int)+1):∃d,D.find? (fun d=>decide (d.src=a)&&decide (Lay.g o d.dst=(k:Int)))=some d∧d∈D∧d.src=a∧Lay.g o d.dst=(k:Int):=by
 obtain⟨d,hd,h1,h2⟩:=zwo hD ho ha hg
 cases hf:D.find? (fun d=>decide (d.src=a)&&decide (Lay.g o d.dst=(k:Int))) with
 | none =>
  have:=List.find?_eq_none.1 hf d hd
  simp[h1,h2] at this
 | some e =>
  have h3:=List.find?_some hf
  rw[Bool.and_eq_true,decide_eq_true_eq,decide_eq_true_eq] at h3
  exact⟨e,rfl,List.mem_of_find?_eq_some hf,h3.1,h3.2⟩
theorem zl9:∀ (k:Nat) (a:Int),Lay.In n a→Lay.g o a=(k:Int)→(chainF D o k a).length=k:=by
 intro k
 induction k with
 | zero=>intro a _ _; rfl
 | succ k ih =>
  intro a ha hg
  obtain⟨d,hf,hd,h1,h2⟩:=zjy hD ho ha (show Lay.g o a=(k:Int)+1 by omega)
  rw[chainF,hf]
  simp only[List.length_cons]
  rw[ih d.dst (hD.ends d hd).2 h2]
theorem zbf3 (hk1000:n≤1000):∀ (m k:Nat) (a:Int),k+1≤m→k<1000→Lay.In n a→Lay.g o a=(k:Int)+1→zc7 m D a b ((k:Int)+1)=some (chainF D o (k+1) a):=by
 have hlen:=hD.len
 intro m
 induction m with
 | zero=>intro k a h; omega
 | succ m ih =>
  intro k a hm hk ha hg
  rw[zc7,zbw (zbf (by omega))]
  obtain⟨d0,hf,hd0,e1,e2⟩:=zjy hD ho ha hg
  rw[zco D (fun d=>!(decide (d.src=a)&&decide (Lay.g o d.dst=(k:Int)))) (fun d=>some (d :: chainF D o k d.dst)) (fun i hi nxt=>by
   have hd:=List.getElem_mem hi
   rw[zbz hi,zv (p:=D[i].src=a)]
   generalize D[i]=d at hd
   by_cases h1:¬ (d.src=a)
   ·rw[if_neg h1,decide_eq_false h1]; rfl
   have h1:=Decidable.of_not_not h1
   subst h1
   have hr:=z8w hD ho hd hg
   rw[if_pos rfl,decide_eq_true rfl,Bool.true_and,zv (p:=(k:Int)+1=1)]
   by_cases h2:(k:Int)+1=1
   ·rw[if_pos h2]
    have hk0:k=0:=by omega
    subst hk0
    have hr:d.dst=b↔Lay.g o d.dst=((0:Nat):Int):=hr
    rw[zij,zv (p:=d.dst=b),zv (p:=Lay.g o d.dst=((0:Nat):Int))]
    by_cases h3:d.dst=b
    ·rw[if_pos h3,if_pos (hr.1 h3)]; rfl
    ·rw[if_neg h3,if_neg (fun h=>h3 (hr.2 h))]
   ·rw[if_neg h2,wrapI (by omega),show (k:Int)+1 - 1=((k:Nat):Int) by omega]
    obtain⟨r,hr1,hr2⟩:=zws hD d.dst b k (by omega)
    rw[zk hr1,zij,zv (p:=Lay.g o d.dst=(k:Int))]
    by_cases h3:Lay.g o d.dst=(k:Int)
    ·have:r=true:=hr2.2 (hr.2 h3)
     subst this
     obtain⟨j,rfl⟩:∃j,k=j+1:=⟨k - 1,by omega⟩
     rw[if_pos h3,cond_true,zk (show zc7 m D d.dst b (((j+1:Nat):Int))=some (chainF D o (j+1) d.dst) by
      have:=ih j d.dst (by omega) (by omega) (hD.ends d hd).2 (by omega)
      rw[show ((j+1:Nat):Int)=(j:Int)+1 by omega]; exact this)]
     rw[zbw (by rw[zl9 hD ho (j+1) d.dst (hD.ends d hd).2 h3]; omega)]
     rfl
    ·have:r=false:=by
      cases r with
      | false=>rfl
      | true=>exact absurd (hr.1 (hr2.1 rfl)) h3
     subst this
     rw[if_neg h3,cond_false])]
  have:D.find? (fun d=>!!(decide (d.src=a)&&decide (Lay.g o d.dst=(k:Int))))=some d0:=by
   rw[←hf]; congr 1; funext d; rw[Bool.not_not]
  rw[this,chainF,hf]
  rfl
end
end Go.Proofs.YthjgdkloabgcoaaGreat
namespace Go.Proofs.YthjgdkloabgcoaaGreat
open Go.Abs

noncomputable def oB (D:List zi) (n:Nat) (b:Int):List Int:=(zdd D b (n:Int)).getD []
theorem zn1 {D:List zi} {n:Nat} {b:Int} (hD:DOk D n) (hb:Lay.In n b):zdd D b (n:Int)=some (oB D n b)∧Dist D n b (oB D n b):=by
 obtain⟨o,h1,h2⟩:=z01 hD hb
 have:oB D n b=o:=by unfold oB; rw[h1]; rfl
 rw[this]; exact⟨h1,h2⟩
noncomputable def ddD (D:List zi) (n:Nat) (d:zi):Int:=Lay.g (oB D n d.src) d.dst
noncomputable def cfD (D:List zi) (n:Nat) (d:zi):List zi:=d :: chainF D (oB D n d.src) (ddD D n d).toNat d.dst
noncomputable def stepC (D:List zi) (n:Nat) (best:List zi) (d:zi):List zi:=if ddD D n d<0 then best else if 0<best.length∧(best.length:Int)≤ddD D n d+1 then best else cfD D n d
theorem zba6 {q:zi→Bool} {l:List zi} {d:zi} (h:l.find? q=some d):∃i,∃hi:i<l.length,idxQ q l=(i:Int)∧l[i]=d:=by
 obtain⟨h1,i,hi,h2,h3⟩:=List.find?_eq_some_iff_getElem.1 h
 refine⟨i,hi,?_,h2⟩
 unfold idxQ
 rw[List.findIdx?_eq_some_iff_getElem.2 ⟨hi,by rw[h2]; exact h1,fun j hj=>by have:=h3 j hj; simpa using this⟩]
def circF (D:List zi) (b:Int) (o:List Int):Int×List zi→(Int×List zi→Option (List zi))→(Int×List zi→Option (List zi))→Option (List zi) :=
 fun s nxts brks=>cond (decide (s.1=b)) (brks (s.1,s.2)) <| thn (zcx D (fun x=>zc5 x s.1 o)) fun r=>thn (atZ D r) fun e=>chk (s.2.length+1≤68719476736) <| nxts (e.dst,(s.2++[e]))
section
variable {D:List zi} {n:Nat} (hD:DOk D n)
include hD
theorem z6w {b:Int} {o:List Int} (ho:Dist D n b o) (K:Int×List zi→Option (List zi)):∀ (k m:Nat) (a:Int) (best:List zi),k<m→best.length+k≤1000000→Lay.In n a→Lay.g o a=(k:Int)→iter (circF D b o) m (a,best) K=K (b,best++chainF D o k a):=by
 have hlen:=hD.len
 have h32:=hD.n32
 intro k
 induction k with
 | zero =>
  intro m a best hm _ ha hg
  obtain⟨m,rfl⟩:∃j,m=j+1:=⟨m - 1,by omega⟩
  have:a=b:=by
   have:=ho.walk a ha (by omega)
   rw[hg] at this; exact this
  subst this
  rw[iter]
  unfold circF
  rw[decide_eq_true rfl,cond_true,chainF,List.append_nil]
 | succ k ih =>
  intro m a best hm hb ha hg
  obtain⟨m,rfl⟩:∃j,m=j+1:=⟨m - 1,by omega⟩
  have hne:a≠b:=by
   intro h
   have:=(ho.least 0 a ha h).2
   omega
  obtain⟨d,hf,hd,h1,h2⟩:=zjy hD ho ha (show Lay.g o a=(k:Int)+1 by omega)
  rw[iter]
  unfold circF
  dsimp only
  rw[decide_eq_false hne,cond_false]
  rw[zk (zmq (p:=fun x=>zc5 x a o) (fun d=>decide (d.src=a)&&decide (Lay.g o d.dst=(k:Int))) (by omega) (fun x hx=>by
   unfold zc5
   rw[zv (p:=x.src=a)]
   by_cases c:x.src=a
   ·rw[if_pos c,decide_eq_true c,Bool.true_and,zk (zp2 ho.len (hD.ends x hx).2),zv (p:=0≤Lay.g o x.dst),zk (zp2 ho.len ha),hg,wrapI (by omega),show ((k+1:Nat):Int) - 1=(k:Int) by omega]
    by_cases c2:0≤Lay.g o x.dst
    ·rw[if_pos c2]
    ·rw[if_neg c2,decide_eq_false (by omega)]
   ·rw[if_neg c,decide_eq_false c]; rfl))]
  obtain⟨i,hi,e1,e2⟩:=zba6 hf
  rw[e1]
  rw[show atZ D (i:Int)=some d by unfold atZ; rw[if_pos (by omega),Int.toNat_natCast,List.getElem?_eq_getElem hi,e2],ztq,zbw (by omega)]
  have:=ih m d.dst (best++[d]) (by omega) (by simp; omega) (hD.ends d hd).2 h2
  rw[show (fun (s:Int×List zi) (nxts brks:Int×List zi→Option (List zi))=>cond (decide (s.1=b)) (brks (s.1,s.2)) <| thn (zcx D (fun x=>zc5 x s.1 o)) fun r=>thn (atZ D r) fun e=>chk (s.2.length+1≤68719476736) <| nxts (e.dst,(s.2++[e])))=circF D b o from rfl] at *
  rw[this,chainF,hf,List.append_assoc]
  rfl
omit hD in
theorem zwk {p q:Nat→Bool} : ∀l:List Nat,(∀x∈l,p x=true→q x=true)→(∃x∈l,q x=true∧p x=false)→l.countP p<l.countP q:=by
 intro l
 induction l with
 | nil=>rintro _ ⟨x,hx,_⟩; cases hx
 | cons a l ih =>
  rintro h ⟨x,hx,h1,h2⟩
  have hm:l.countP p≤l.countP q:=List.countP_mono_left fun y hy=>h y (List.mem_cons_of_mem _ hy)
  rw[List.countP_cons,List.countP_cons]
  rcases List.mem_cons.1 hx with rfl | hx
  ·rw[h1,h2]; simp; omega
  ·have h3:=ih (fun y hy=>h y (List.mem_cons_of_mem _ hy)) ⟨x,hx,h1,h2⟩
   have h4:=h a List.mem_cons_self
   cases hp:p a with
   | false=>simp only[Bool.false_eq_true,if_false]; omega
   | true=>rw[h4 hp]; simp; omega
theorem z0c {b:Int} {o:List Int} (ho:Dist D n b o):∀ (k:Nat) (a:Int),Lay.In n a→Lay.g o a=(k:Int)→∀j:Nat,j≤k→∃y,Lay.In n y∧Lay.g o y=(j:Int):=by
 intro k
 induction k with
 | zero=>intro a ha hg j hj; exact⟨a,ha,by rw[show j=0 by omega]; exact hg⟩
 | succ k ih =>
  intro a ha hg j hj
  by_cases h:j=k+1
  ·exact⟨a,ha,by rw[h]; exact hg⟩
  ·obtain⟨d,hd,h1,h2⟩:=zwo hD ho ha (show Lay.g o a=(k:Int)+1 by omega)
   exact ih d.dst (hD.ends d hd).2 h2 j (by omega)
theorem zbha {b:Int} {o:List Int} (ho:Dist D n b o) {a:Int} (ha:Lay.In n a) (hg:0≤Lay.g o a):Lay.g o a<n:=by
 obtain⟨k,hk⟩:∃k:Nat,Lay.g o a=k:=⟨(Lay.g o a).toNat,by omega⟩
 have hl:=z0c hD ho k a ha hk
 have key:∀j:Nat,j≤k+1→j≤(List.range n).countP fun i:Nat=>decide (0≤Lay.g o (i:Int))&&decide (Lay.g o (i:Int)<(j:Int)):=by
  intro j
  induction j with
  | zero=>intro _; omega
  | succ j ih =>
   intro hj
   have h1:=ih (by omega)
   obtain⟨y,hy,hyg⟩:=hl j (by omega)
   have h2:=zwk (p:=fun i:Nat=>decide (0≤Lay.g o (i:Int))&&decide (Lay.g o (i:Int)<(j:Int))) (q:=fun i:Nat=>decide (0≤Lay.g o (i:Int))&&decide (Lay.g o (i:Int)<((j+1:Nat):Int))) (List.range n) (fun x _ h=>by
    simp only[Bool.and_eq_true,decide_eq_true_eq] at h ⊢; omega) ⟨y.toNat,List.mem_range.2 (by obtain⟨_,_⟩:=hy; omega),by
     rw[show ((y.toNat:Nat):Int)=y from Int.toNat_of_nonneg hy.1,hyg]; simp only[Bool.and_eq_true,decide_eq_true_eq]; omega,by
     rw[show ((y.toNat:Nat):Int)=y from Int.toNat_of_nonneg hy.1,hyg,Bool.and_eq_false_iff,decide_eq_false_iff_not,decide_eq_false_iff_not]; omega⟩
   omega
 have h3:=key (k+1) (Nat.le_refl _)
 have h4:(List.range n).countP (fun i:Nat=>decide (0≤Lay.g o (i:Int))&&decide (Lay.g o (i:Int)<((k+1:Nat):Int)))≤(List.range n).length:=List.countP_le_length
 rw[List.length_range] at h4
 omega
theorem zr6 {d:zi} (hd:d∈D) (h:0≤ddD D n d):ddD D n d<n:=zbha hD (zn1 hD (hD.ends d hd).1).2 (hD.ends d hd).2 h
theorem zo5 {d:zi} (hd:d∈D) (h:0≤ddD D n d):((cfD D n d).length:Int)=ddD D n d+1:=by
 unfold cfD
 rw[List.length_cons,zl9 hD (zn1 hD (hD.ends d hd).1).2 _ d.dst (hD.ends d hd).2 (by
  show ddD D n d=_
  omega)]
 omega
theorem zbbp:zfb D (n:Int)=some (D.foldl (stepC D n) []):=by
 have hlen:=hD.len
 have h32:=hD.n32
 unfold zfb
 rw[zbw (zbf (by omega))]
 rw[(zd3 (K:=fun s=>some s) (s:=([]:List zi)) D (stepC D n) (fun _ s=>s.length≤100000) (by simp) (fun i hi s hs=>by
  have hd:=List.getElem_mem hi
  have hin:=hD.ends _ hd
  have hoB:=zn1 hD hin.1
  refine⟨fun nxt=>?_,?_⟩
  ·rw[zbz hi]
   generalize D[i]=d at hd hin hoB
   rw[zk hoB.1,zk (zp2 hoB.2.len hin.2)]
   have it:0≤ddD D n d→iter (circF D d.src (oB D n d.src)) fuel (d.dst,[d]) (fun s=>nxt s.2)=nxt (cfD D n d):=by
    intro h0
    have hlt:=zr6 hD hd h0
    rw[z6w hD hoB.2 (fun s=>nxt s.2) (ddD D n d).toNat fuel d.dst [d] (by unfold fuel; omega) (by simp; omega) hin.2 (by show ddD D n d=_; omega)]
    rfl
   show cond (decide (ddD D n d<0)) _ _=nxt (stepC D n s d)
   by_cases c:ddD D n d<0
   ·unfold stepC
    rw[decide_eq_true c,cond_true,if_pos c]
   ·have h0:0≤ddD D n d:=by omega
    have hlt:=zr6 hD hd h0
    have it:=it h0
    have hw:IntKind.i64.wrap (Lay.g (oB D n d.src) d.dst+1)=ddD D n d+1:=by
     show IntKind.i64.wrap (ddD D n d+1)=_
     exact wrapI (by omega)
    rw[decide_eq_false c,cond_false,hw]
    unfold stepC
    rw[if_neg c]
    by_cases c1:0<s.length
    ·rw[decide_eq_true (show (0:Int)<((s.length:Nat):Int) by omega),cond_true,zv (p:=((s.length:Nat):Int)≤ddD D n d+1)]
     by_cases c2:((s.length:Nat):Int)≤ddD D n d+1
     ·rw[if_pos c2,if_pos ⟨c1,c2⟩]
     ·rw[if_neg c2,if_neg (fun h=>c2 h.2)]
      exact it
    ·rw[decide_eq_false (show ¬ (0:Int)<((s.length:Nat):Int) by omega),cond_false,if_neg (fun h=>c1 h.1)]
     exact it
  ·generalize D[i]=d at hd
   unfold stepC
   split
   ·exact hs
   ·split
    ·exact hs
    ·have h0:0≤ddD D n d:=by omega
     have:=zo5 hD hd h0
     have:=zr6 hD hd h0
     omega)).1]
end
end Go.Proofs.YthjgdkloabgcoaaGreat
namespace Go.Proofs.YthjgdkloabgcoaaGreat
open Go.Abs

section
variable {D:List zi} {n:Nat} (hD:DOk D n)
include hD
def Best (D:List zi) (n:Nat) (seen best:List zi):Prop:=(best=[]∧∀d∈seen,ddD D n d<0)∨∃d∈seen,best=cfD D n d∧0≤ddD D n d∧(∀e∈seen,0≤ddD D n e→ddD D n d≤ddD D n e)∧seen.find? (fun e=>decide (ddD D n e=ddD D n d))=some d
theorem z8k:∀ (l seen best:List zi),(∀d∈l,d∈D)→(∀d∈seen,d∈D)→Best D n seen best→Best D n (seen++l) (l.foldl (stepC D n) best):=by
  intro l
  induction l with
  | nil=>intro seen best _ _ h; rw[List.append_nil]; exact h
  | cons e l ih =>
    intro seen best hl hs h
    rw[List.foldl_cons,←List.singleton_append,←List.append_assoc]
    have heD:=hl e List.mem_cons_self
    refine ih (seen++[e]) _ (fun d hd=>hl d (List.mem_cons_of_mem _ hd)) (fun d hd=>by
      rcases List.mem_append.1 hd with hd | hd
      · exact hs d hd
      · rw[List.mem_singleton.1 hd]; exact heD) ?_
    unfold stepC
    by_cases c:ddD D n e<0
    · rw[if_pos c]
      rcases h with ⟨h1,h2⟩ | ⟨d,hd,h1,h2,h3,h4⟩
      · refine .inl ⟨h1,fun x hx=>?_⟩
        rcases List.mem_append.1 hx with hx | hx
        · exact h2 x hx
        · rw[List.mem_singleton.1 hx]; exact c
      · refine .inr ⟨d,List.mem_append_left _ hd,h1,h2,fun x hx h0=>?_,?_⟩
        · rcases List.mem_append.1 hx with hx | hx
          · exact h3 x hx h0
          · rw[List.mem_singleton.1 hx] at h0; omega
        · rw[List.find?_append,h4]; rfl
    · rw[if_neg c]
      rcases h with ⟨h1,h2⟩ | ⟨d,hd,h1,h2,h3,h4⟩
      · subst h1
        rw[if_neg (by simp)]
        refine .inr ⟨e,by simp,rfl,by omega,fun x hx h0=>?_,?_⟩
        · rcases List.mem_append.1 hx with hx | hx
          · have:=h2 x hx; omega
          · rw[List.mem_singleton.1 hx]; exact Int.le_refl _
        · have:seen.find? (fun x=>decide (ddD D n x=ddD D n e))=none:=List.find?_eq_none.2 fun x hx=>by
            have:=h2 x hx
            simp only[decide_eq_true_eq]; omega
          rw[List.find?_append,this]; simp
      · have hlen:=zo5 hD (hs d hd) h2
        rw[←h1] at hlen
        by_cases c2:(best.length:Int)≤ddD D n e+1
        · rw[if_pos ⟨by omega,c2⟩]
          refine .inr ⟨d,List.mem_append_left _ hd,h1,h2,fun x hx h0=>?_,?_⟩
          · rcases List.mem_append.1 hx with hx | hx
            · exact h3 x hx h0
            · rw[List.mem_singleton.1 hx]; omega
          · rw[List.find?_append,h4]; rfl
        · rw[if_neg (fun h=>c2 h.2)]
          refine .inr ⟨e,by simp,rfl,by omega,fun x hx h0=>?_,?_⟩
          · rcases List.mem_append.1 hx with hx | hx
            · have:=h3 x hx h0; omega
            · rw[List.mem_singleton.1 hx]; exact Int.le_refl _
          · have:seen.find? (fun x=>decide (ddD D n x=ddD D n e))=none:=List.find?_eq_none.2 fun x hx=>by
              simp only[decide_eq_true_eq]
              intro hxe
              have:=h3 x hx (by omega)
              omega
            rw[List.find?_append,this]; simp
theorem zs3:Best D n D (D.foldl (stepC D n) []):=by
  have:=z8k hD D [] [] (fun _ h=>h) (fun _ h=>by cases h) (.inl ⟨rfl,fun _ h=>by cases h⟩)
  simpa using this
theorem z6n {d:zi} (hd:d∈D) {k:Nat} (h:ddD D n d<0∨(k:Int)≤ddD D n d):Wk D k d.dst d.src↔ddD D n d=(k:Int):=by
  obtain⟨h1,h2⟩:=hD.ends d hd
  have ho:=(zn1 hD h1).2
  constructor
  · intro hw
    have h3:0≤ddD D n d∧ddD D n d≤k:=ho.least k d.dst h2 hw
    omega
  · intro he
    have:=ho.walk d.dst h2 (by show 0≤ddD D n d; omega)
    rwa [show Lay.g (oB D n d.src) d.dst=(k:Int) from he,Int.toNat_natCast] at this
theorem zbg4 {d:zi} (h:ddD D n d=0):cfD D n d=[d]:=by
  have _:=hD
  unfold cfD; rw[h]; rfl
end
def noneE (es:List zo):Int:=idxQ (fun e:zo=>decide (((e.deletes.length:Nat):Int)=0)) es
noncomputable def reasonOf (es:List zo) (n:Nat):List zi×Int :=
  if 0≤noneE es then ([⟨noneE es,-1,-1,0⟩],0) else if ((demandsL es).foldl (stepC (demandsL es) n) []).length=0 then ([],10) else ((demandsL es).foldl (stepC (demandsL es) n) [],0)
noncomputable def reasonR (t:zl) (rules:List zu):List zi×Int:=if givenE t rules=0 then reasonOf (rules.map (effL t)) (nT t) else ([],givenE t rules)
theorem dok {es:List zo} {n:Nat} (hE:EOk es n):DOk (demandsL es) n:=⟨hE.n32,zsy hE,fun d hd=>by
  obtain⟨i,hi,q,hq,p,hp,rfl⟩:=zi7.1 hd
  have:=hE.each _ (List.getElem_mem hi)
  exact⟨this.1 q hq,this.2.1 p hp⟩⟩
theorem zbeg {t:zl} {rules:List zu} (hF:zhs t rules):zel t rules=some (reasonR t rules):=by
  unfold zel reasonR
  rw[zk (zr8 hF)]
  by_cases h:¬ (givenE t rules=0)
  · rw[if_neg h,if_neg h,zv (p:=givenE t rules=0),if_neg h]
  have h:=Decidable.of_not_not h
  have hG:=zic hF h
  have hE:=zl3 hG
  have h6:=hE.few
  rw[if_pos h,if_pos h,decide_eq_true rfl,cond_true]
  dsimp only
  generalize rules.map (effL t)=es at hE h6 ⊢
  have hD:=dok hE
  rw[zk (zfd (p:=fun x=>zff x) (fun e=>decide (((e.deletes.length:Nat):Int)=0)) (by omega) (fun _ _=>rfl))]
  show cond (decide (0≤noneE es)) _ _=_
  unfold reasonOf
  by_cases c:0≤noneE es
  · rw[decide_eq_true c,cond_true,if_pos c]; rfl
  · rw[decide_eq_false c,cond_false,if_neg c,wrapT hG.types,zk (zwj hE),zk (zbbp hD)]
    generalize (demandsL es).foldl (stepC (demandsL es) (nT t)) []=R
    rw[zv (p:=((R.length:Nat):Int)=0)]
    by_cases c2:R.length=0
    · rw[if_pos (show ((R.length:Nat):Int)=0 by omega),if_pos c2]
    · rw[if_neg (show ¬ ((R.length:Nat):Int)=0 by omega),if_neg c2]
theorem z8r {α O : Type} {f : Nat → Unit → (Unit → Option O) → (Unit → Option O) → Option O} {K : Unit → Option O} (l : List α) (q : α → Bool) (x : Int → Option O) (h : ∀ i (hi : i < l.length) nxt, f i () nxt K = cond (q l[i]) (x (i : Int)) (nxt ())) :
    forN f (l.length - 0) 0 () K=if 0≤idxQ q l then x (idxQ q l) else K ():=by
  have key:∀ (k i:Nat),i+k=l.length→forN f k i () K=(match (l.drop i).findIdx? q with | some j=>x ((i+j:Nat):Int) | none=>K ()):=by
    intro k
    induction k with
    | zero=>intro i hk; rw[List.drop_eq_nil_of_le (by omega)]; rfl
    | succ k ih =>
      intro i hk
      rw[forN,h i (by omega),List.drop_eq_getElem_cons (by omega),List.findIdx?_cons]
      cases hq:q l[i] with
      | true=>simp
      | false =>
        have:=ih (i+1) (by omega)
        rw[cond_false,this]
        cases (l.drop (i+1)).findIdx? q with
        | none=>rfl
        | some j=>simp only[Option.map_some,Bool.false_eq_true,if_false]; rw[show i+1+j=i+(j+1) by omega]
  have:=key (l.length - 0) 0 (by omega)
  rw[this,List.drop_zero]
  unfold idxQ
  cases l.findIdx? q with
  | none=>rfl
  | some i=>simp
theorem z9l {t:zl} {rules:List zu} (hF:zhs t rules):zez t rules=some (reasonR t rules):=by
  unfold zez reasonR
  rw[zk (zbdx hF),zv (p:=givenE t rules=0)]
  by_cases h:¬ (givenE t rules=0)
  · rw[if_neg h,if_neg h]
  have h:=Decidable.of_not_not h
  have hG:=zic hF h
  have hE:=zl3 hG
  have h6:=hG.six
  rw[if_pos h,if_pos h,zbw (zbf (by omega))]
  rw[z8r rules (fun r=>decide ((((effL t r).deletes.length:Nat):Int)=0)) (fun i=>some ([(⟨i,-1,-1,0⟩:zi)],0)) (fun i hi nxt=>by
    have hm:=List.getElem_mem hi
    rw[zbz hi,zk (zmu hF.types (hF.each _ hm) (hG.each _ hm))])]
  have hn:noneE (rules.map (effL t))=idxQ (fun r=>decide ((((effL t r).deletes.length:Nat):Int)=0)) rules:=by
    unfold noneE idxQ; rw[List.findIdx?_map]; rfl
  unfold reasonOf
  rw[←hn]
  by_cases c:0≤noneE (rules.map (effL t))
  · rw[if_pos c,if_pos c]
  rw[if_neg c,if_neg c,zk (z4o hF hG),wrapT hG.types]
  generalize rules.map (effL t)=es at hE
  have hD:=dok hE
  have hB:=zs3 hD
  generalize hDs:demandsL es=D at hD hB ⊢
  generalize nT t=n at hE hD hB ⊢
  generalize D.foldl (stepC D n) []=R at hB ⊢
  have hlen:=hD.len
  have h32:=hD.n32
  refine Ok.eq ?_
  refine zlo (fun s:Int=>(1≤s∧s≤n+1)∧∀d∈D,ddD D n d<0∨s - 1≤ddD D n d) (fun s=>(n+2 - s).toNat) ⟨⟨by omega,by omega⟩,fun d hd=>by omega⟩ (by unfold fuel; omega) ?_
  rintro s nxt ⟨hs,hall⟩ hn2
  refine zb3 (fun h1=>?_) (fun h1=>?_)
  · have h1:=of_decide_eq_true h1
    obtain⟨k,hk⟩:∃k:Nat,s - 1=k:=⟨(s - 1).toNat,by omega⟩
    refine zdv (zbf (by omega)) ?_
    rw[wrapI (n:=s+1) (by omega)]
    have e:=zco (K:=fun _=>nxt (s+1)) (f:=fun i4786 (s4786:Unit) nxts4786 brks4786 =>
     cond (decide (s=1)) (
      thn (D[i4786]?) fun e4806 =>
      cond (decide (e4806.src=e4806.dst)) (
       chk ((0:Int)≤((i4786:Nat):Int)∧((i4786:Nat):Int)≤(IntKind.i64.wrap (((i4786:Nat):Int)+1))∧(IntKind.i64.wrap (((i4786:Nat):Int)+1))≤(D.length:Int)) <|
       some (((D.take (IntKind.i64.wrap (((i4786:Nat):Int)+1)).toNat).drop i4786),(0:Int))) <|
      nxts4786 ()) <|
     thn (D[i4786]?) fun e4809 =>
     thn (zcw D e4809.dst e4809.src (IntKind.i64.wrap (s - 1))) fun r4810 =>
     cond r4810 (
      thn (zc7 fuel D e4809.dst e4809.src (IntKind.i64.wrap (s - 1))) fun r4818 =>
      chk (1+r4818.length≤68719476736) <|
      some (([e4809]++r4818),0)) <|
     nxts4786 ()) D (fun d=>!decide (ddD D n d=(k:Int))) (fun d=>some (cfD D n d,0)) (fun i hi nx=>by
      have hd:=List.getElem_mem hi
      rw[zij,zbz hi,zv (p:=s=1)]
      by_cases hs1:s=1
      · have hk0:k=0:=by omega
        subst hk0
        rw[if_pos hs1,wrapI (by omega),zbw (by omega)]
        have hiff:=z6n hD hd (k:=0) (by have:=hall _ hd; omega)
        have hiff:D[i].dst=D[i].src↔ddD D n D[i]=((0:Nat):Int):=hiff
        rw[zv (p:=D[i].src=D[i].dst),zv (p:=ddD D n D[i]=((0:Nat):Int))]
        by_cases hc:D[i].src=D[i].dst
        · rw[if_pos hc,if_pos (hiff.1 hc.symm),zbg4 hD (show ddD D n D[i]=0 from hiff.1 hc.symm)]
          rw[show (((i:Nat):Int)+1).toNat=i+1 by omega,List.take_add_one,List.drop_append,List.getElem?_eq_getElem hi]
          simp[show i≤D.length by omega]
        · rw[if_neg hc,if_neg (fun h=>hc (hiff.2 h).symm)]
      · rw[if_neg hs1,wrapI (by omega),hk,zbz hi]
        generalize D[i]=d at hd
        have hiff:=z6n hD hd (k:=k) (by have:=hall _ hd; omega)
        obtain⟨r,hr1,hr2⟩:=zws hD d.dst d.src k (by omega)
        rw[zk hr1,zv (p:=ddD D n d=(k:Int))]
        obtain⟨hsrc,hdst⟩:=hD.ends d hd
        by_cases hc:ddD D n d=(k:Int)
        · have:r=true:=hr2.2 (hiff.2 hc)
          subst this
          obtain⟨j,rfl⟩:∃j,k=j+1:=⟨k - 1,by omega⟩
          have ho:=(zn1 hD hsrc).2
          have hg:Lay.g (oB D n d.src) d.dst=(j:Int)+1:=by
            have:Lay.g (oB D n d.src) d.dst=((j+1:Nat):Int):=hc
            omega
          rw[if_pos hc,cond_true,show ((j+1:Nat):Int)=(j:Int)+1 by omega,zk (zbf3 hD ho (by omega) fuel j d.dst (by unfold fuel; omega) (by omega) hdst hg)]
          rw[zbw (by rw[zl9 hD ho (j+1) d.dst hdst (by omega)]; omega)]
          unfold cfD
          rw[hc]
          rfl
        · have:r=false:=by
            cases r with
            | false=>rfl
            | true=>exact absurd (hiff.1 (hr2.1 rfl)) hc
          subst this
          rw[if_neg hc,cond_false])
    refine (show Ok (forN _ (D.length - 0) 0 () _) _ from ?_)
    rw[e]
    have ee:D.find? (fun d=>!!decide (ddD D n d=(k:Int)))=D.find? (fun d=>decide (ddD D n d=(k:Int))):=by
      congr 1; funext d; rw[Bool.not_not]
    rw[ee]
    cases hf:D.find? (fun d=>decide (ddD D n d=(k:Int))) with
    | none =>
      refine hn2 _ ⟨⟨by omega,by omega⟩,fun d hd=>?_⟩ (by omega)
      have h3:=List.find?_eq_none.1 hf d hd
      simp only[decide_eq_true_eq] at h3
      have:=hall d hd
      omega
    | some d =>
      have h3:=List.find?_some hf
      have hd:=List.mem_of_find?_eq_some hf
      simp only[decide_eq_true_eq] at h3
      refine Ok.mk ?_
      rcases hB with ⟨b1,b2⟩ | ⟨d0,hd0,b1,b2,b3,b4⟩
      · have:=b2 d hd; omega
      · have h4:=b3 d hd (by omega)
        have h5:=hall d0 hd0
        have h6:ddD D n d0=(k:Int):=by omega
        rw[h6,hf] at b4
        have:d=d0:=by simpa using b4
        subst this
        have hl:=zo5 hD hd b2
        rw[←b1] at hl
        rw[if_neg (by omega),b1]
  · have h1:=of_decide_eq_false h1
    refine Ok.mk ?_
    rcases hB with ⟨b1,b2⟩ | ⟨d0,hd0,b1,b2,b3,b4⟩
    · rw[if_pos (by rw[b1]; rfl)]
    · have:=zr6 hD hd0 b2
      have:=hall d0 hd0
      omega
end Go.Proofs.YthjgdkloabgcoaaGreat
namespace Go.Proofs.YthjgdkloabgcoaaGreat
open Go.Abs

def N10 (x:Option Int):Prop:=∀e,x=some e→e≠10
theorem zf5 {e:Int} (h:e≠10):N10 (some e):=fun _ he=>by cases he; exact h
theorem zm8:N10 none:=fun _ he=>by cases he
theorem zkd {p:Prop} [Decidable p] {x:Option Int} (h:N10 x):N10 (chk p x):=by
 unfold chk; split
 ·exact h
 ·exact zm8
theorem zfw {b:Bool} {x y:Option Int} (h1:N10 x) (h2:N10 y):N10 (cond b x y):=by cases b<;>assumption
theorem zjd {α:Type} {x:Option α} {k:α→Option Int} (h:∀r,N10 (k r)):N10 (thn x k):=by
 cases x with
 | none=>exact zm8
 | some r=>exact h r
theorem zey {x:Option Int} {k:Int→Option Int} (hx:N10 x) (h:∀r,r≠10→N10 (k r)):N10 (thn x k):=by
 cases x with
 | none=>exact zm8
 | some r=>exact h r (hx r rfl)
theorem zk6 {σ:Type} {f:Nat→σ→(σ→Option Int)→(σ→Option Int)→Option Int} {K:σ→Option Int} (h:∀i s nxt,(∀s,N10 (nxt s))→N10 (f i s nxt K)) (hK:∀s,N10 (K s)):∀ (n i:Nat) (s:σ),N10 (forN f n i s K)
 | 0,_,s=>hK s
 | n+1,i,s=>h i s _ fun s=>zk6 h hK n (i+1) s
theorem z6k {σ:Type} {f:σ→(σ→Option Int)→(σ→Option Int)→Option Int} {K:σ→Option Int} (h:∀s nxt,(∀s,N10 (nxt s))→N10 (f s nxt K)):∀ (n:Nat) (s:σ),N10 (iter f n s K)
 | 0,_=>zm8
 | n+1,s=>h s _ fun s=>z6k h n s
theorem zvq {f:Nat→Int} {s n:Nat} (h:∀k,f k≠10):firstE f s n≠10:=by
 unfold firstE; split
 ·exact h _
 ·decide
theorem zbd3 (l:List ByteArray):namesE l≠10:=by
 unfold namesE
 split
 ·decide
 ·refine zvq fun k=>?_
  unfold nameE
  repeat' split
  all_goals decide
theorem zbe0 (b:List Attr) (x:Attr):attrX b x≠10:=by
 unfold attrX attrE
 have:=zbd3 x.names
 repeat' split
 all_goals first | decide | assumption
theorem zbg8 (t:zl) (i:Nat):nodeE t i≠10:=by
 unfold nodeE
 repeat' split
 all_goals first | decide | exact zvq fun _=>zbe0 _ _
theorem zbhm (t:zl) (i:Nat):edgeE t i≠10:=by
 unfold edgeE
 repeat' split
 all_goals decide
theorem zx2 (t:zl):(validT t).2≠10:=by
 unfold validT
 repeat' split
 all_goals first | decide | exact zbg8 _ _ | exact zbhm _ _
theorem z2v {t:zl} {k:ByteArray×Int→Option Int} (h:∀r,r.2≠10→N10 (k r)):N10 (thn (zc9 t) k):=by
 unfold zc9 giv
 split
 ·exact h _ (zx2 t)
 ·exact zm8
theorem z6p (g:z8):validG g≠10:=by
 unfold validG
 repeat' split
 all_goals decide
theorem zr9 (g:z8):N10 (zct g):=by
 unfold zct giv
 split
 ·exact zf5 (z6p g)
 ·exact zm8
theorem zbe1 (n:Int) (x:zie):N10 (zcj n x):=by
 unfold zcj
 repeat' with_reducible first | apply zf5 | assumption | apply zfw | apply zkd | (refine zjd (fun _=>?_))
 all_goals first | decide | skip
theorem zbir (n:Int) (x:zc3):N10 (zd8 n x):=by
 unfold zd8
 repeat' with_reducible first | apply zf5 | assumption | apply zfw | apply zkd | (refine zey (zbe1 _ _) (fun r hr=>?_)) | (refine zjd (fun _=>?_))
 all_goals first | decide | skip
theorem zbfc (n:Int) (l:List zc3):N10 (zdn n l):=by
 unfold zdn
 repeat' with_reducible first | apply zf5 | assumption | exact hn _ | apply zfw | apply zkd | (refine zey (zbir _ _) (fun r hr=>?_)) | (refine zjd (fun _=>?_)) | (refine zk6 (fun _ _ nxt hn=>?_) (fun _=>?_) _ _ _)
 all_goals first | decide | skip
theorem zrk (t:zl) (p:z7):N10 (zcs t p):=by
 unfold zcs
 repeat' with_reducible first | apply zf5 | assumption | exact hn _ | apply zfw | apply zkd | (refine z2v (fun r hr=>?_)) | (refine zey (zr9 _) (fun r hr=>?_)) | (refine zey (zbfc _ _) (fun r hr=>?_)) | (refine zjd (fun _=>?_)) | (refine zk6 (fun _ _ nxt hn=>?_) (fun _=>?_) _ _ _)
 all_goals first | decide | skip
theorem zbhx (t:zl) (p:z7) (i:Int):N10 (zdx t p i):=by
 unfold zdx
 repeat' with_reducible first | apply zf5 | assumption | exact hn _ | apply zfw | apply zkd | (refine zjd (fun _=>?_)) | (refine zk6 (fun _ _ nxt hn=>?_) (fun _=>?_) _ _ _)
 all_goals first | decide | skip
theorem zbgj (t:zl) (r:zu):N10 (zdp t r):=by
 unfold zdp
 repeat' with_reducible first | apply zf5 | assumption | exact hn _ | apply zfw | apply zkd | (refine zey (zr9 _) (fun r hr=>?_)) | (refine zey (zbhx _ _ _) (fun r hr=>?_)) | (refine zjd (fun _=>?_)) | (refine zk6 (fun _ _ nxt hn=>?_) (fun _=>?_) _ _ _)
 all_goals first | decide | skip
theorem zbit (l:List Int) (n:Int):N10 (zc2 l n):=by
 unfold zc2
 repeat' with_reducible first | apply zf5 | assumption | exact hn _ | apply zfw | apply zkd | (refine zjd (fun _=>?_)) | (refine zk6 (fun _ _ nxt hn=>?_) (fun _=>?_) _ _ _)
 all_goals first | decide | skip
theorem zbic (g:z8) (p:zdb):N10 (zcf g p):=by
 unfold zcf zc8
 refine zey (zr9 _) (fun r hr=>?_)
 refine zfw (zey ?_ fun r hr=>zf5 hr) (zf5 hr)
 repeat' with_reducible first | apply zf5 | assumption | exact hn _ | apply zfw | apply zkd | (refine zey (zbit _ _) (fun r hr=>?_)) | (refine zjd (fun _=>?_)) | (refine zk6 (fun _ _ nxt hn=>?_) (fun _=>?_) _ _ _)
 all_goals first | decide | skip
theorem zbe9 (a b:z8) (m:zby):N10 (zbr a b m):=by
 unfold zbr
 repeat' with_reducible first | apply zf5 | assumption | exact hn _ | apply zfw | apply zkd | (refine zey (zr9 _) (fun r hr=>?_)) | (refine zjd (fun _=>?_)) | (refine zk6 (fun _ _ nxt hn=>?_) (fun _=>?_) _ _ _)
 all_goals first | decide | skip
theorem zbij (r:zu):N10 (zcc r):=by
 unfold zcc
 refine zey (zbic _ _) fun e he=>zfw (zjd fun _=>zey (zbe9 _ _ _) fun e he=>zf5 he) (zf5 he)
theorem zbfk (c:zp):N10 (zda c):=by
 unfold zda
 repeat' with_reducible first | apply zf5 | assumption | apply zfw | apply zkd | (refine zjd (fun _=>?_))
 all_goals first | decide | skip
theorem zbgf (t:zl) (v:Int) (p:z7):N10 (zck t v p):=by
 unfold zck
 refine zfw (zf5 (by decide)) (zey (zrk _ _) fun r hr=>zfw (z6k (fun s nxt hn=>?_) _ _) (zf5 hr))
 refine zfw (zjd fun _=>zfw (hn _) (zf5 hr)) (zf5 (by decide))
theorem zbh3:∀ (n:Nat) (t:zl) (p:z7) (c:zp),N10 (zb1 n t p c):=by
 intro n
 induction n with
 | zero=>intro t p c; rw[zb1]; exact zm8
 | succ n ih =>
  intro t p c
  rw[zb1]
  repeat' with_reducible first | apply zf5 | assumption | (refine zey (ih _ _ _) (fun r hr=>?_)) | exact hn _ | apply zfw | apply zkd | (refine zey (zbgf _ _ _) (fun r hr=>?_)) | (refine zey (zbe9 _ _ _) (fun r hr=>?_)) | (refine zjd (fun _=>?_)) | (refine zk6 (fun _ _ nxt hn=>?_) (fun _=>?_) _ _ _)
  all_goals first | decide | skip
theorem zba8 (t:zl) (p:z7) (c:zp):N10 (zcl t p c):=by
 unfold zcl
 exact zey (zrk _ _) fun r hr=>zfw (zey (zbfk _) fun r hr=>zfw (zey (zbh3 _ _ _ _) fun r hr=>zf5 hr) (zf5 hr)) (zf5 hr)
theorem zbh6 (t:zl) (r:zu):N10 (zb5 t r):=by
 unfold zb5
 repeat' with_reducible first | apply zf5 | assumption | apply zfw | apply zkd | (refine z2v (fun r hr=>?_)) | (refine zey (zrk _ _) (fun r hr=>?_)) | (refine zey (zbgj _ _) (fun r hr=>?_)) | (refine zey (zbij _) (fun r hr=>?_)) | (refine zey (zba8 _ _ _) (fun r hr=>?_)) | (refine zjd (fun _=>?_))
 all_goals first | decide | skip
theorem zbbs (t:zl) (rules:List zu):givenE t rules≠10:=by
 unfold givenE
 split
 ·split
  ·decide
  ·unfold errL pickO
   split
   ·unfold ruleG
    split
    ·split<;>decide
    ·unfold ruleE
     rename_i r _ _
     cases h:zb5 t r with
     | none=>decide
     | some e=>exact zbh6 t r e h
   ·decide
 ·exact zx2 t
end Go.Proofs.YthjgdkloabgcoaaGreat
namespace Go.Proofs.YthjgdkloabgcoaaGreat
open Go.Abs

theorem zbcq {es:List zo} {n:Nat} {f:Int→Int} (hf:Lay.Sol (EE es) n f):∀ (k:Nat) (a b:Int),Wk (demandsL es) k a b→f a+k≤f b:=by
 intro k
 induction k with
 | zero=>intro a b h; have:a=b:=h; rw[this]; omega
 | succ k ih =>
  rintro a b ⟨d,hd,rfl,h⟩
  have h1:=ih _ _ h
  obtain⟨i,hi,q,hq,p,hp,rfl⟩:=zi7.1 hd
  have:=hf.2 _ (List.mem_map.2 ⟨_,List.getElem_mem hi,rfl⟩) q hq p hp
  dsimp only at h1 ⊢
  omega
noncomputable def ancN (D:List zi) (n:Nat) (p:Int):Nat:=(List.range n).countP fun i:Nat=>@decide (∃k,Wk D (k+1) (i:Int) p) (Classical.propDecidable _)
theorem zbhz {es:List zo} {n:Nat} (hE:EOk es n) (h:∀d∈demandsL es,ddD (demandsL es) n d<0):Lay.Sol (EE es) n fun p=>(ancN (demandsL es) n p:Int):=by
 have hD:=dok hE
 refine⟨fun p _=>Int.natCast_nonneg _,fun e he q hq p hp=>?_⟩
 obtain⟨a,ha,rfl⟩:=List.mem_map.1 he
 obtain⟨i,hi,rfl⟩:=List.mem_iff_getElem.1 ha
 have hd:(⟨(i:Int),q,p,1⟩:zi)∈demandsL es:=zi7.2 ⟨i,hi,q,hq,p,hp,rfl⟩
 have hqn:=(hD.ends _ hd).1
 have := zwk (p := fun i : Nat => @decide (∃ k, Wk (demandsL es) (k + 1) (i : Int) q) (Classical.propDecidable _)) (q := fun i : Nat => @decide (∃ k, Wk (demandsL es) (k + 1) (i : Int) p) (Classical.propDecidable _)) (List.range n) (fun x _ hx => by
   obtain⟨k,hk⟩:=@of_decide_eq_true _ (Classical.propDecidable _) hx
   exact @decide_eq_true _ (Classical.propDecidable _) ⟨k+1,hk.snoc hd rfl⟩) ⟨q.toNat,List.mem_range.2 (by obtain⟨_,_⟩:=hqn; dsimp only at *; omega),by
   refine @decide_eq_true _ (Classical.propDecidable _) ⟨0,?_⟩
   rw[show ((q.toNat:Nat):Int)=q from Int.toNat_of_nonneg hqn.1]
   exact⟨_,hd,rfl,rfl⟩,by
   refine @decide_eq_false _ (Classical.propDecidable _) ?_
   rw[show ((q.toNat:Nat):Int)=q from Int.toNat_of_nonneg hqn.1]
   rintro⟨k,d,hd2,h1,h2⟩
   have h3:=h d hd2
   obtain⟨e1,e2⟩:=hD.ends d hd2
   have h4:=(zn1 hD e1).2.least k d.dst e2 (by rw[h1]; exact h2)
   have h5:0≤ddD (demandsL es) n d:=h4.1
   omega⟩
 unfold ancN
 dsimp only
 omega
theorem zx6 (es:List zo):noneB es=decide (0≤noneE es):=by
 unfold noneB noneE; rw[zi6]
theorem zbdd {D:List zi} {n:Nat} {b:Int} {o:List Int} (hD:DOk D n) (ho:Dist D n b o):∀ (k:Nat) (a:Int),Lay.In n a→Lay.g o a=(k:Int)→chainB (hasD D) a (chainF D o k a)=true:=by
 intro k
 induction k with
 | zero=>intro a _ _; rfl
 | succ k ih =>
  intro a ha hg
  obtain⟨d,hf,hd,h1,h2⟩:=zjy hD ho ha (show Lay.g o a=(k:Int)+1 by omega)
  rw[chainF,hf]
  show chainB (hasD D) a (d :: chainF D o k d.dst)=true
  rw[chainB,ztn.2 hd,decide_eq_true h1,ih d.dst (hD.ends d hd).2 h2]
  rfl
theorem zvs {x:zi} {l:List zi} (h:l≠[]):lastD (x :: l)=lastD l:=by
 cases l with
 | nil=>exact absurd rfl h
 | cons y t=>unfold lastD; simp
theorem z5j {D:List zi} {n:Nat} {b:Int} {o:List Int} (hD:DOk D n) (ho:Dist D n b o):∀ (k:Nat) (a:Int),Lay.In n a→Lay.g o a=(k:Int)+1→(lastD (chainF D o (k+1) a)).dst=b:=by
 intro k
 induction k with
 | zero =>
  intro a ha hg
  obtain⟨d,hf,hd,h1,h2⟩:=zjy hD ho ha hg
  rw[chainF,hf]
  have:=ho.walk d.dst (hD.ends d hd).2 (by omega)
  rw[h2] at this
  exact this
 | succ k ih =>
  intro a ha hg
  obtain⟨d,hf,hd,h1,h2⟩:=zjy hD ho ha hg
  rw[chainF,hf]
  show (lastD (d :: chainF D o (k+1) d.dst)).dst=b
  have hl:=zl9 hD ho (k+1) d.dst (hD.ends d hd).2 h2
  rw[zvs (by intro h; rw[h] at hl; simp at hl)]
  exact ih d.dst (hD.ends d hd).2 (by omega)
theorem z6m {es:List zo} {n:Nat} (hE:EOk es n) {d:zi} (hd:d∈demandsL es) (h0:0≤ddD (demandsL es) n d):reasonL es (cfD (demandsL es) n d)=true:=by
 have hD:=dok hE
 have h32:=hD.n32
 obtain⟨e1,e2⟩:=hD.ends d hd
 have ho:=(zn1 hD e1).2
 obtain⟨k,hk⟩:∃k:Nat,ddD (demandsL es) n d=k:=⟨(ddD (demandsL es) n d).toNat,by omega⟩
 have hg:Lay.g (oB (demandsL es) n d.src) d.dst=(k:Int):=hk
 have hlen:=zo5 hD hd h0
 have hlt:=zr6 hD hd h0
 have hcf:cfD (demandsL es) n d=d :: chainF (demandsL es) (oB (demandsL es) n d.src) k d.dst:=by unfold cfD; rw[hk,Int.toNat_natCast]
 have hs:d.strict≠0:=by
  obtain⟨i,hi,q,hq,p,hp,rfl⟩:=zi7.1 hd
  exact fun h=>by cases h
 rw[hcf] at hlen ⊢
 rw[znc,if_neg (by omega),if_neg hs,chainB,ztn.2 hd,zbdd hD ho k d.dst e2 hg,Bool.true_and,Bool.and_true]
 refine decide_eq_true ?_
 cases k with
 | zero =>
  have:=ho.walk d.dst e2 (by omega)
  rw[hg] at this
  have:d.dst=d.src:=this
  exact this.symm
 | succ k =>
  have hl:=zl9 hD ho (k+1) d.dst e2 hg
  rw[zvs (by intro h; rw[h] at hl; simp at hl),z5j hD ho k d.dst e2 (by omega)]
theorem z1d {t:zl} {rules:List zu} (hF:zhs t rules) (h:givenE t rules=0):((reasonR t rules).2=0∧(findR t rules).2=10∧reasonB t rules (reasonR t rules).1=true)∨((reasonR t rules).2=10∧(findR t rules).2=0):=by
 have hG:=zic hF h
 have hE:=zl3 hG
 have hD:=dok hE
 unfold reasonR findR reasonB
 rw[if_pos h,if_pos h,decide_eq_true h,Bool.true_and]
 generalize rules.map (effL t)=es at hE hD ⊢
 unfold reasonOf leastL
 rw[zx6]
 by_cases c:0≤noneE es
 ·rw[if_pos c,decide_eq_true c,if_pos rfl]
  refine .inl ⟨rfl,rfl,?_⟩
  show reasonL es [⟨noneE es,-1,-1,0⟩]=true
  rw[znc,if_neg (by simp),if_pos rfl,decide_eq_true rfl,Bool.true_and]
  unfold headB
  have hx:∃i:Nat,noneE es=(i:Int)∧∃hi:i<es.length,(((es[i].deletes.length:Nat):Int)=0):=by
   unfold noneE idxQ at c ⊢
   cases hf:es.findIdx? (fun e:zo=>decide (((e.deletes.length:Nat):Int)=0)) with
   | none=>rw[hf] at c; simp at c
   | some i =>
    obtain⟨hi,hq,_⟩:=List.findIdx?_eq_some_iff_getElem.1 hf
    exact⟨i,rfl,hi,of_decide_eq_true hq⟩
  obtain⟨i,e1,hi,e2⟩:=hx
  dsimp only
  rw[e1,Int.toNat_natCast,show es.getD i ⟨[],[]⟩=es[i] by simp[hi],decide_eq_true e2,decide_eq_true (show (0:Int)≤(i:Int) by omega),decide_eq_true (show (i:Int)<(es.length:Nat) by omega)]
  rfl
 ·rw[if_neg c,decide_eq_false c,if_neg (show ¬ (false=true) by decide)]
  have hN:noneB es=false:=by rw[zx6,decide_eq_false c]
  rcases zs3 hD with ⟨b1,b2⟩ | ⟨d,hd,b1,b2,_,_⟩
  ·obtain⟨y,hy⟩:=Lay.jac_some hE.ok (zm4 hN) (zbhz hE b2)
   rw[b1,hy]
   exact .inr ⟨rfl,rfl⟩
  ·have hlen:=zo5 hD hd b2
   have hno:Lay.jac (EE es) (nT t+2) (List.replicate (nT t) 0)=none:=Lay.jac_none hE.ok (zm4 hN) fun f hf=>by
    obtain⟨e1,e2⟩:=hD.ends d hd
    have h1:=zbcq hf _ _ _ ((zn1 hD e1).2.walk d.dst e2 b2)
    obtain⟨i,hi,q,hq,p,hp,rfl⟩:=zi7.1 hd
    have h2:=hf.2 _ (List.mem_map.2 ⟨_,List.getElem_mem hi,rfl⟩) q hq p hp
    dsimp only at h1 h2
    omega
   rw[b1,hno,if_neg (by omega)]
   exact .inl ⟨rfl,rfl,z6m hE hd b2⟩
theorem zvb {a:List zi} (h:a.length≤1000000):zer a a=some true:=by
 unfold zer
 rw[decide_eq_true rfl,cond_true,zbw (zbf (by omega))]
 rw[zco a (fun _=>true) (fun _=>some false) (fun i hi nxt=>by
  rw[zbz hi,zbz hi,decide_eq_true rfl,decide_eq_true rfl,decide_eq_true rfl,decide_eq_true rfl]
  rfl)]
 rw[zee,if_pos (by simp)]
theorem zzs {t:zl} {rules:List zu} (hF:zhs t rules):(reasonR t rules).1.length≤1000000:=by
 unfold reasonR
 split
 ·rename_i h
  have hE:=zl3 (zic hF h)
  have hD:=dok hE
  have h32:=hD.n32
  unfold reasonOf
  split
  ·simp
  ·split
   ·simp
   ·rcases zs3 hD with ⟨b1,b2⟩ | ⟨d,hd,b1,b2,_,_⟩
    ·rw[b1]; simp
    ·rw[b1]
     have:=zo5 hD hd b2
     have:=zr6 hD hd b2
     dsimp only; omega
 ·simp
theorem ztl (t:zl) (rules:List zu) (h1:FitT t) (h2:∀r∈rules,FitR r):zdj t rules=some true:=by
 unfold zdj
 rw[zk zts,cond_true]
 obtain⟨b,hb,hf⟩:=zbiq h1 h2
 rw[zk hb]
 cases b with
 | false=>rw[cond_false,zk zts]
 | true =>
 have hF:=hf rfl
 have hl:=hF.len
 have hs:=zzs hF
 rw[cond_true,zk (zyv (by omega)),zk (zbeg hF),zk (z9l hF),decide_eq_true rfl,cond_true,zk (zvb hs),cond_true,zk (zz4 hF)]
 rw[zv (p:=(reasonR t rules).2=0)]
 by_cases hg:¬ (givenE t rules=0)
 ·have e1:(reasonR t rules).2=givenE t rules:=by unfold reasonR; rw[if_neg hg]
  have e2:(findR t rules).2=givenE t rules:=by unfold findR; rw[if_neg hg]
  rw[e1,e2,if_neg hg,zv (p:=givenE t rules=10),if_neg (zbbs t rules),decide_eq_true rfl]
 have hg:=Decidable.of_not_not hg
 rcases z1d hF hg with ⟨r1,r2,r3⟩ | ⟨r1,r2⟩
 ·rw[if_pos r1,r2,decide_eq_true rfl,cond_true,zk (zxd hF hs),r3]
 ·rw[r1,if_neg (by decide),decide_eq_true rfl,cond_true,r2]
  rfl
end Go.Proofs.YthjgdkloabgcoaaGreat
namespace Go.Proofs.YthjgdkloabgcoaaGreat
open Go.Abs
open Go.ChangeShapes Go.WideShapes Go.ChangeAt Go.RowKit
variable {w:World} {H:Type} {enc:TypeId×Value→H}

set_option maxRecDepth 100000 in
theorem zpb:Tryz.prog.funcNamed Rows.layeringReasonRow.func=some 3:=by kernel_rfl
set_option maxRecDepth 100000 in
theorem zpl:joinedFacts Tryz.prog 3 Tryz.f3 Rows.layeringReasonSpec Rows.layeringReasonRow=true:=by kernel_rfl
set_option maxRecDepth 100000 in
theorem zqu (l:∀ (a0:zl) (a1:List zu),G25 a0→G26 a1→zdj a0 a1=some true):Rows.LayeringReasonSaid :=
 OpenClaim.holds_of_wide 3 Tryz.f3 rfl rfl rfl rfl rfl rfl rfl ⟨rfl,rfl,rfl,rfl,rfl⟩ rfl rfl rfl rfl rfl zpb Tryz.func3 zpl
  (of_decide_eq_true (by kernel_rfl)) (by unfold Func.isWrapper; first | (rw[if_pos (by decide +kernel)]; kernel_rfl) | (rw[if_neg (by decide +kernel)]; exact⟨rfl,rfl⟩))
  (fun os started H enc _=>zbeq (C:=Tryz.checked) (α:=zl×(List zu)×Unit) (e:=fun x=>[.agg [.lst (x.1.nodes.map encNode),.lst (x.1.edges.map encEdgeT)],.lst (x.2.1.map zbj)]) (G:=fun x=>G25 x.1∧G26 x.2.1∧True) (s:=Rows.layeringReasonSpec) (conds:=Rows.layeringReasonRow.domain) (by kernel_rfl) zbgt started (by kernel_rfl) Tryz.func3
   (ChangeSpec.witness6 (enc:=enc) (C:=Tryz.checked) false ⟨#[],#[.agg #[.slice none 0 0,.slice none 0 0],.slice none 0 0],[]⟩ 8 (by kernel_rfl) (by kernel_rfl) (by kernel_rfl) (by kernel_rfl))
   rfl Tryz.underlying4 rfl (fun ds hl=>by match ds,hl with | [d0,d1],_=>exact⟨rfl,rfl,rfl⟩) (fun W=>by
   rw[Tryz.params3]
   exact (.cons (show DecV Tryz.prog W enc 25 (fun x:zl=>.agg [.lst (x.nodes.map encNode),.lst (x.edges.map encEdgeT)]) G25 from DecV.struct Tryz.underlying25 d25 (by kernel_rfl) (of_decide_eq_true (by kernel_rfl)))
   (.cons (show DecV Tryz.prog W enc 26 (fun x:List zu=>.lst (x.map zbj)) G26 from DecV.one (z0z Tryz.underlying26) d26 (by kernel_rfl) (of_decide_eq_true (by kernel_rfl)))
   .nil))) (fun x h=>zkg x.1 x.2.1 true (l x.1 x.2.1 h.1 h.2.1)))
end Go.Proofs.YthjgdkloabgcoaaGreat
