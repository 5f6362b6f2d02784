/- Joined texts, part 6: lemmas for the statement. No condition. -/
import Derived.Test.YthjgdkloabgcoaaGreatJ4
import Derived.Test.YthjgdkloabgcoaaGreatJ5
set_option maxHeartbeats 4000000
set_option linter.unusedSimpArgs false
set_option linter.unusedVariables false
open Nat (reduceEqDiff reduceLT reduceLeDiff reduceMul reduceAdd reduceSub)
set_option maxRecDepth 20000
namespace Go.Proofs.YthjgdkloabgcoaaGreat
open Go.Abs


noncomputable section
theorem zmt  (r:zl) (h:zen  = some r):zbt Tryz.prog 24 [] (fun v=>v = .agg [.row 113 4 (r.nodes.map encNode),.row 115 7 (r.edges.map encEdgeT)]):=by
 refine zbt.rle ?_
 refine zbx [10,13] Ty.mixed Tryz.func24 rfl (by kernel_rfl) (by simp[Tryz.ntmps24]) ?_; rw[Tryz.ntmps24,Tryz.results24]
 unfold zen at h
 cases h
 try simp -implicitDefEqProofs only[go_sem]
 refine⟨by decide,_,.refl _,?_⟩
 simp -implicitDefEqProofs only[go_sem]<;>((repeat' apply And.intro)<;>rfl)

theorem zh5 (a0:Int) (a1:zie) (r:Bool) (h:zek a0 a1=some r):zh Tryz.prog 266 [.val (.int .i64 a0),.agg [.val (.int .i64 a1.var),.val (.int .i64 a1.add)]] (fun v=>v = .val (.bool r)):=by
 refine zh.ple ?_
 refine zf [] Ty.mixed Tryz.func266 rfl (by kernel_rfl) (by simp[Tryz.ntmps266]) ?_; rw[Tryz.ntmps266,Tryz.results266]
 unfold zek at h
 try simp -implicitDefEqProofs only[go_sem]
 refine zq (fun b2=>?_) (fun b2=>?_)
 ·replace h:=zd h b2
  try simp -implicitDefEqProofs only[go_sem,b2]
  refine zq (fun b3=>?_) (fun b3=>?_)
  ·replace h:=zd h b3
   try simp -implicitDefEqProofs only[go_sem,b2,b3]
   refine zq (fun b4=>?_) (fun b4=>?_)
   ·replace h:=zd h b4
    cases h
    try simp -implicitDefEqProofs only[go_sem,b2,b3,b4]
    all_goals((repeat' apply And.intro)<;>rfl)
   ·replace h:=ze h b4
    cases h
    try simp -implicitDefEqProofs only[go_sem,b2,b3,b4]
    all_goals((repeat' apply And.intro)<;>rfl)
  ·replace h:=ze h b3
   cases h
   try simp -implicitDefEqProofs only[go_sem,b2,b3]
   all_goals((repeat' apply And.intro)<;>rfl)
 ·replace h:=ze h b2
  cases h
  try simp -implicitDefEqProofs only[go_sem,b2]
  all_goals((repeat' apply And.intro)<;>rfl)

theorem zux (a0:Int) (a1:zl) (r:Bool) (h:zia a0 a1=some r):zh Tryz.prog 236 [.val (.int .i64 a0),.eptr [.lst (a1.nodes.map encNode),.lst (a1.edges.map encEdgeT)] 0] (fun v=>v = .val (.bool r)):=by
 refine zh.ple ?_
 refine zf [] Ty.mixed Tryz.func236 rfl (by kernel_rfl) (by simp[Tryz.ntmps236]) ?_; rw[Tryz.ntmps236,Tryz.results236]
 unfold zia at h
 cases h
 try simp -implicitDefEqProofs only[go_sem]
 all_goals((repeat' apply And.intro)<;>rfl)

theorem zn5 (a0:List Int) (a1:Int) (r:Int) (h:zg0 a0 a1=some r):zh Tryz.prog 279 [.lst (a0.map encI),.val (.int .i64 a1)] (fun v=>v = .val (.int .i64 r)):=by
 refine zh.ple ?_
 refine zf [] Ty.mixed Tryz.func279 rfl (by kernel_rfl) (by simp[Tryz.ntmps279]) ?_; rw[Tryz.ntmps279,Tryz.results279]
 unfold zg0 at h
 obtain⟨fus2,h⟩:=zbg h
 unfold fuel at fus2
 try simp -implicitDefEqProofs only[go_sem]
 refine zbe (fun x:(Nat×(Unit))×(Unit)=>envL [(0,.p (.lst (a0.map encI))),(1,.p (.val (.int .i64 a1))),(7,.p (.lst (a0.map encI))),(8,.p (.val (.int .i64 ((a0.length:Nat):Int)))),(9,.p (.val (.int .i64 ((x.1.1:Nat):Int))))]) (fun x=>heapL []) () h (weakL (by simp -implicitDefEqProofs only[go_sem]<;>((repeat' apply And.intro)<;>rfl))) ?_ ?_
 ·intro i2 s2 g2 nxts2 Rs2 his2 hNs2 h
  have hws2:=zt (k:=i2) his2 (by omega)
  try dsimp only at h
  obtain⟨e3,c3,g3,q3,h⟩:=zbu encI h
  try simp -implicitDefEqProofs only[go_sem,his2,hws2,c3,g3]
  refine zw (fun b4=>?_) (fun b4=>?_)
  ·replace h:=zd h b4
   cases h
   try simp -implicitDefEqProofs only[go_sem,his2,hws2,c3,g3,b4]
   all_goals((repeat' apply And.intro)<;>rfl)
  ·replace h:=ze h b4
   try simp -implicitDefEqProofs only[go_sem,his2,hws2,c3,g3,b4]
   refine zc (fun b5=>?_) (fun b5=>?_)
   ·replace h:=zd h b5
    cases h
    try simp -implicitDefEqProofs only[go_sem,his2,hws2,c3,g3,b4,b5]
    all_goals((repeat' apply And.intro)<;>rfl)
   ·replace h:=ze h b5
    try simp -implicitDefEqProofs only[go_sem,his2,hws2,c3,g3,b4,b5]
    refine zq (fun b6=>?_) (fun b6=>?_)
    ·replace h:=zd h b6
     obtain⟨e7,c7a,c7b,g7,q7,h⟩:=zce encI h
     have c7n:=zbv c7a c7b
     try simp -implicitDefEqProofs only[go_sem,his2,hws2,c3,g3,b4,b5,b6,c7a,c7b,c7n,g7]
     refine zc (fun b8=>?_) (fun b8=>?_)
     ·replace h:=zd h b8
      cases h
      try simp -implicitDefEqProofs only[go_sem,his2,hws2,c3,g3,b4,b5,b6,c7a,c7b,c7n,g7,b8]
      all_goals((repeat' apply And.intro)<;>rfl)
     ·replace h:=ze h b8
      try simp -implicitDefEqProofs only[go_sem,his2,hws2,c3,g3,b4,b5,b6,c7a,c7b,c7n,g7,b8]
      exact hNs2 () () h (weakL (by simp -implicitDefEqProofs only[go_sem,his2,hws2,c3,g3,b4,b5,b6,c7a,c7b,c7n,g7,b8]<;>((repeat' apply And.intro)<;>rfl)))
    ·replace h:=ze h b6
     try simp -implicitDefEqProofs only[go_sem,his2,hws2,c3,g3,b4,b5,b6]
     exact hNs2 () () h (weakL (by simp -implicitDefEqProofs only[go_sem,his2,hws2,c3,g3,b4,b5,b6]<;>((repeat' apply And.intro)<;>rfl)))
 ·intro i2 s2 g2 Rs2 hes2 h
  have hns2:¬ (i2<a0.length):=by omega
  try dsimp only at h
  cases h
  try simp -implicitDefEqProofs only[go_sem,hns2]
  all_goals((repeat' apply And.intro)<;>rfl)

theorem zn2 (a0:Int) (r:Bool) (h:zgz a0=some r):zh Tryz.prog 254 [.val (.int .i64 a0)] (fun v=>v = .val (.bool r)):=by
 refine zh.ple ?_
 refine zf [] Ty.mixed Tryz.func254 rfl (by kernel_rfl) (by simp[Tryz.ntmps254]) ?_; rw[Tryz.ntmps254,Tryz.results254]
 unfold zgz at h
 cases h
 try simp -implicitDefEqProofs only[go_sem]
 all_goals((repeat' apply And.intro)<;>rfl)

theorem zr4 (a0:List Int) (a1:Int) (r:Int) (h:zhu a0 a1=some r):zh Tryz.prog 248 [.lst (a0.map encI),.val (.int .i64 a1)] (fun v=>v = .val (.int .i64 r)):=by
 refine zh.ple ?_
 refine zf [] Ty.mixed Tryz.func248 rfl (by kernel_rfl) (by simp[Tryz.ntmps248]) ?_; rw[Tryz.ntmps248,Tryz.results248]
 unfold zhu at h
 obtain⟨fus2,h⟩:=zbg h
 unfold fuel at fus2
 try simp -implicitDefEqProofs only[go_sem]
 refine zbe (fun x:(Nat×(Unit))×(Unit)=>envL [(0,.p (.lst (a0.map encI))),(1,.p (.val (.int .i64 a1))),(7,.p (.val (.int .i64 ((a0.length:Nat):Int)))),(8,.p (.val (.int .i64 ((x.1.1:Nat):Int))))]) (fun x=>heapL []) () h (weakL (by simp -implicitDefEqProofs only[go_sem]<;>((repeat' apply And.intro)<;>rfl))) ?_ ?_
 ·intro i2 s2 g2 nxts2 Rs2 his2 hNs2 h
  have hws2:=zt (k:=i2) his2 (by omega)
  try dsimp only at h
  obtain⟨e3,c3,g3,q3,h⟩:=zbu encI h
  try simp -implicitDefEqProofs only[go_sem,his2,hws2,c3,g3]
  refine zc (fun b4=>?_) (fun b4=>?_)
  ·replace h:=zd h b4
   cases h
   try simp -implicitDefEqProofs only[go_sem,his2,hws2,c3,g3,b4]
   all_goals((repeat' apply And.intro)<;>rfl)
  ·replace h:=ze h b4
   try simp -implicitDefEqProofs only[go_sem,his2,hws2,c3,g3,b4]
   exact hNs2 () () h (weakL (by simp -implicitDefEqProofs only[go_sem,his2,hws2,c3,g3,b4]<;>((repeat' apply And.intro)<;>rfl)))
 ·intro i2 s2 g2 Rs2 hes2 h
  have hns2:¬ (i2<a0.length):=by omega
  try dsimp only at h
  cases h
  try simp -implicitDefEqProofs only[go_sem,hns2]
  all_goals((repeat' apply And.intro)<;>rfl)

theorem zqx (n:Nat):∀ (a0:zp) (r:Int×Int) (h:zdk n a0=some r),zh Tryz.prog 246 [.agg (zz a0)] (fun v=>v = .tup [.val (.int .i64 r.1),.val (.int .i64 r.2)]):=by
 induction n with
 | zero=>intro a0 r h; cases h
 | succ n ih =>
 intro a0 r h
 refine zh.ple ?_
 refine zf [] Ty.mixed Tryz.func246 rfl (by kernel_rfl) (by simp[Tryz.ntmps246]) ?_; rw[Tryz.ntmps246,Tryz.results246]
 unfold zdk at h
 obtain⟨fus1,h⟩:=zbg h
 unfold fuel at fus1
 try simp -implicitDefEqProofs only[go_sem]
 refine zbe (fun x:(Nat×(Int×Int))×(Unit)=>envL [(1,.ptr 1 0),(4,.p (.val (.int .i64 x.1.2.1))),(5,.p (.val (.int .i64 x.1.2.2))),(11,.p (.lst (a0.kids.map zz))),(12,.p (.val (.int .i64 ((a0.kids.length:Nat):Int)))),(13,.p (.val (.int .i64 ((x.1.1:Nat):Int))))]) (fun x=>heapL [(1,.box ((zz a0).map .p))]) () h (weakL (by simp -implicitDefEqProofs only[go_sem]<;>((repeat' apply And.intro)<;>rfl))) ?_ ?_
 ·intro i1 s1 g1 nxts1 Rs1 his1 hNs1 h
  have hws1:=zt (k:=i1) his1 (by omega)
  try dsimp only at h
  obtain⟨e2,c2,g2,q2,h⟩:=zbu zz h
  obtain⟨r3,hr3,h⟩:=zm h
  try simp -implicitDefEqProofs only[go_sem,his1,hws1,c2,g2]
  refine callG (ih e2 r3 hr3) (by simp -implicitDefEqProofs only[go_sem,his1,hws1,c2,g2]<;>rfl) (zb _) (by first | exact pers | exact scal rfl) ?_
  try simp -implicitDefEqProofs only[go_sem,his1,hws1,c2,g2]
  exact hNs1 ((IntKind.i64.wrap (s1.1+r3.1)),(max s1.2 r3.2)) () h (weakL (by simp -implicitDefEqProofs only[go_sem,his1,hws1,c2,g2]<;>((repeat' apply And.intro)<;>rfl)))
 ·intro i1 s1 g1 Rs1 hes1 h
  have hns1:¬ (i1<a0.kids.length):=by omega
  try dsimp only at h
  try simp -implicitDefEqProofs only[go_sem,hns1]
  refine zc (fun b4=>?_) (fun b4=>?_)
  ·replace h:=zd h b4
   cases h
   try simp -implicitDefEqProofs only[go_sem,hns1,b4]
   all_goals((repeat' apply And.intro)<;>rfl)
  ·replace h:=ze h b4
   cases h
   try simp -implicitDefEqProofs only[go_sem,hns1,b4]
   all_goals((repeat' apply And.intro)<;>rfl)

theorem zjt (a0:List zo) (r:(List zi)) (h:zdt a0=some r):zbt Tryz.prog 33 [.lst (a0.map zbd)] (fun v=>v = .row 52 4 (r.map zn)):=by
 refine zbt.rle ?_
 refine zbx [37] Ty.mixed Tryz.func33 rfl (by kernel_rfl) (by simp[Tryz.ntmps33]) ?_; rw[Tryz.ntmps33,Tryz.results33]
 unfold zdt at h
 obtain⟨fus1,h⟩:=zbg h
 unfold fuel at fus1
 try simp -implicitDefEqProofs only[go_sem]
 refine zbe (fun x:(Nat×((List zi)))×(Nat)=>envL [(3,.row 3484 x.2),(10,.p (.lst (a0.map zbd))),(11,.p (.val (.int .i64 ((a0.length:Nat):Int)))),(12,.p (.val (.int .i64 ((x.1.1:Nat):Int))))]) (fun x=>heapL [(3484,.row x.2 52 4 (x.1.2.map zn))]) 0 h (by refine Weak.trans (zhi 3 3484 52 4 rfl rfl (by decide)) ?_; exact (weakL (by simp -implicitDefEqProofs only[go_sem]<;>((repeat' apply And.intro)<;>rfl)))) ?_ ?_
 ·intro i1 s1 g1 nxts1 Rs1 his1 hNs1 h
  have hws1:=zt (k:=i1) his1 (by omega)
  try dsimp only at h
  obtain⟨e2,c2,g2,q2,h⟩:=zbu zbd h
  obtain⟨fus3,h⟩:=zbg h
  unfold fuel at fus3
  try simp -implicitDefEqProofs only[go_sem,his1,hws1,c2,g2]
  refine zbe (fun x:(Nat×((List zi)))×(Nat)=>envL [(3,.row 3484 x.2),(4,.p (.val (.int .i64 ((i1:Nat):Int)))),(5,.ptr 5 0),(10,.p (.lst (a0.map zbd))),(11,.p (.val (.int .i64 ((a0.length:Nat):Int)))),(12,.p (.val (.int .i64 ((i1:Nat):Int)))),(18,.p (.lst (e2.deletes.map encI))),(19,.p (.val (.int .i64 ((e2.deletes.length:Nat):Int)))),(20,.p (.val (.int .i64 ((x.1.1:Nat):Int))))]) (fun x=>heapL [(3484,.row x.2 52 4 (x.1.2.map zn)),(5,.box [.p (.lst (e2.deletes.map encI)),.p (.lst (e2.creates.map encI))])]) g1 h (weakL (by simp -implicitDefEqProofs only[go_sem,his1,hws1,c2,g2]<;>((repeat' apply And.intro)<;>rfl))) ?_ ?_
  ·intro i3 s3 g3 nxts3 Rs3 his3 hNs3 h
   have hws3:=zt (k:=i3) his3 (by omega)
   try dsimp only at h
   obtain⟨e4,c4,g4,q4,h⟩:=zbu encI h
   obtain⟨fus5,h⟩:=zbg h
   unfold fuel at fus5
   try simp -implicitDefEqProofs only[go_sem,his1,hws1,c2,g2,his3,hws3,c4,g4]
   refine zbe (fun x:(Nat×((List zi)))×(Nat)=>envL [(3,.row 3484 x.2),(4,.p (.val (.int .i64 ((i1:Nat):Int)))),(5,.ptr 5 0),(7,.p (.val (.int .i64 e4))),(10,.p (.lst (a0.map zbd))),(11,.p (.val (.int .i64 ((a0.length:Nat):Int)))),(12,.p (.val (.int .i64 ((i1:Nat):Int)))),(18,.p (.lst (e2.deletes.map encI))),(19,.p (.val (.int .i64 ((e2.deletes.length:Nat):Int)))),(20,.p (.val (.int .i64 ((i3:Nat):Int)))),(25,.p (.lst (e2.creates.map encI))),(26,.p (.val (.int .i64 ((e2.creates.length:Nat):Int)))),(27,.p (.val (.int .i64 ((x.1.1:Nat):Int))))]) (fun x=>heapL [(3484,.row x.2 52 4 (x.1.2.map zn)),(5,.box [.p (.lst (e2.deletes.map encI)),.p (.lst (e2.creates.map encI))])]) g3 h (weakL (by simp -implicitDefEqProofs only[go_sem,his1,hws1,c2,g2,his3,hws3,c4,g4]<;>((repeat' apply And.intro)<;>rfl))) ?_ ?_
   ·intro i5 s5 g5 nxts5 Rs5 his5 hNs5 h
    have hws5:=zt (k:=i5) his5 (by omega)
    try dsimp only at h
    obtain⟨e6,c6,g6,q6,h⟩:=zbu encI h
    obtain⟨c7,h⟩:=zbg h
    have k8:=eq_true (show (s5.length+1) * 32≤140737488355328 by omega)
    have a9:=zfc zn s5 [(⟨((i1:Nat):Int),e4,e6,1⟩:zi)] (c:=[[.val (.int .i64 ((i1:Nat):Int)),.val (.int .i64 e4),.val (.int .i64 e6),.val (.int .i64 1)]]) rfl
    try simp -implicitDefEqProofs only[go_sem,his1,hws1,c2,g2,his3,hws3,c4,g4,his5,hws5,c6,g6,c7,k8,a9]
    exact hNs5 (s5++[(⟨((i1:Nat):Int),e4,e6,1⟩:zi)]) (g5+1) h (weakL (by simp -implicitDefEqProofs only[go_sem,his1,hws1,c2,g2,his3,hws3,c4,g4,his5,hws5,c6,g6,c7,k8,a9]<;>((repeat' apply And.intro)<;>rfl)))
   ·intro i5 s5 g5 Rs5 hes5 h
    have hns5:¬ (i5<e2.creates.length):=by omega
    try dsimp only at h
    try simp -implicitDefEqProofs only[go_sem,his1,hws1,c2,g2,his3,hws3,c4,g4,hns5]
    exact hNs3 s5 g5 h (weakL (by simp -implicitDefEqProofs only[go_sem,his1,hws1,c2,g2,his3,hws3,c4,g4,hns5]<;>((repeat' apply And.intro)<;>rfl)))
  ·intro i3 s3 g3 Rs3 hes3 h
   have hns3:¬ (i3<e2.deletes.length):=by omega
   try dsimp only at h
   try simp -implicitDefEqProofs only[go_sem,his1,hws1,c2,g2,hns3]
   exact hNs1 s3 g3 h (weakL (by simp -implicitDefEqProofs only[go_sem,his1,hws1,c2,g2,hns3]<;>((repeat' apply And.intro)<;>rfl)))
 ·intro i1 s1 g1 Rs1 hes1 h
  have hns1:¬ (i1<a0.length):=by omega
  try dsimp only at h
  cases h
  try simp -implicitDefEqProofs only[go_sem,hns1]
  refine⟨by decide,_,.refl _,?_⟩
  simp -implicitDefEqProofs only[go_sem,hns1]<;>((repeat' apply And.intro)<;>rfl)

theorem zl1 (a0:List Int) (a1:List Int) (r:Bool) (h:zgy a0 a1=some r):zh Tryz.prog 26 [.lst (a0.map encI),.lst (a1.map encI)] (fun v=>v = .val (.bool r)):=by
 refine zh.ple ?_
 refine zf [] Ty.mixed Tryz.func26 rfl (by kernel_rfl) (by simp[Tryz.ntmps26]) ?_; rw[Tryz.ntmps26,Tryz.results26]
 unfold zgy at h
 try simp -implicitDefEqProofs only[go_sem]
 refine zg (fun b2=>?_) (fun b2=>?_)
 ·replace h:=zd h b2
  obtain⟨fus3,h⟩:=zbg h
  unfold fuel at fus3
  try simp -implicitDefEqProofs only[go_sem,b2]
  refine zbe (fun x:(Nat×(Unit))×(Unit)=>envL [(0,.p (.lst (a0.map encI))),(1,.p (.lst (a1.map encI))),(12,.p (.val (.int .i64 ((a0.length:Nat):Int)))),(13,.p (.val (.int .i64 ((x.1.1:Nat):Int))))]) (fun x=>heapL []) () h (weakL (by simp -implicitDefEqProofs only[go_sem,b2]<;>((repeat' apply And.intro)<;>rfl))) ?_ ?_
  ·intro i3 s3 g3 nxts3 Rs3 his3 hNs3 h
   have hws3:=zt (k:=i3) his3 (by omega)
   try dsimp only at h
   try simp -implicitDefEqProofs only[go_sem,b2,his3,hws3]
   refine zbn [.q,.q,.q,.q,.q,.q,.q,.q,.q] (by kernel_rfl) ?_
   obtain⟨e4,c4,g4,q4,h⟩:=zbu encI h
   obtain⟨e5,c5,g5,q5,h⟩:=zbu encI h
   try simp -implicitDefEqProofs only[go_sem,b2,his3,hws3,c4,g4,c5,g5]
   refine zg (fun b6=>?_) (fun b6=>?_)
   ·replace h:=zd h b6
    try simp -implicitDefEqProofs only[go_sem,b2,his3,hws3,c4,g4,c5,g5,b6]
    exact hNs3 () () h (weakL (by simp -implicitDefEqProofs only[go_sem,b2,his3,hws3,c4,g4,c5,g5,b6]<;>((repeat' apply And.intro)<;>rfl)))
   ·replace h:=ze h b6
    cases h
    try simp -implicitDefEqProofs only[go_sem,b2,his3,hws3,c4,g4,c5,g5,b6]
    all_goals((repeat' apply And.intro)<;>rfl)
  ·intro i3 s3 g3 Rs3 hes3 h
   have hns3:¬ (i3<a0.length):=by omega
   try dsimp only at h
   cases h
   try simp -implicitDefEqProofs only[go_sem,b2,hns3]
   all_goals((repeat' apply And.intro)<;>rfl)
 ·replace h:=ze h b2
  cases h
  try simp -implicitDefEqProofs only[go_sem,b2]
  all_goals((repeat' apply And.intro)<;>rfl)

theorem zph (a0:z8) (r:Bool) (h:zf1 a0=some r):zh Tryz.prog 80 [.agg [.lst (a0.nodes.map encI),.lst (a0.edges.map encEdge)]] (fun v=>v = .val (.bool r)):=by
 refine zh.ple ?_
 refine zf [] Ty.mixed Tryz.func80 rfl (by kernel_rfl) (by simp[Tryz.ntmps80]) ?_; rw[Tryz.ntmps80,Tryz.results80]
 unfold zf1 at h
 try simp -implicitDefEqProofs only[go_sem]
 refine zq (fun b1=>?_) (fun b1=>?_)
 ·replace h:=zd h b1
  cases h
  try simp -implicitDefEqProofs only[go_sem,b1]
  all_goals((repeat' apply And.intro)<;>rfl)
 ·replace h:=ze h b1
  cases h
  try simp -implicitDefEqProofs only[go_sem,b1]
  all_goals((repeat' apply And.intro)<;>rfl)

theorem zqv (l:List zu) (r:List zu) (h:zi9 l=some r):zbt Tryz.prog 11 [.lst (l.map zbj)] (fun v=>v = .row 49 25 (r.map zbj)):=by
 obtain⟨hl,rfl⟩:=zh4 h
 by_cases h0:l=[]
 ·subst h0
  refine zbt.lst_nil (by kernel_rfl) fun ao cap=>?_
  refine zbx [5] Ty.mixed Tryz.func11 rfl (by kernel_rfl) (by simp[Tryz.ntmps11]) ?_; rw[Tryz.ntmps11,Tryz.results11]
  simp -implicitDefEqProofs only[go_sem]
  cases ao with
  | none =>
   simp -implicitDefEqProofs only[go_sem]
   exact⟨by decide,_,.nil _ _ (by decide),rfl⟩
  | some a =>
   simp -implicitDefEqProofs only[go_sem]
   exact⟨fun _ h=>h.elim,by decide,_,.refl _,rfl⟩
 ·have hne:l.map zbj≠[]:=by simpa using h0
  refine zbx [5] Ty.mixed Tryz.func11 rfl (by kernel_rfl) (by simp[Tryz.ntmps11]) ?_; rw[Tryz.ntmps11,Tryz.results11]
  simp -implicitDefEqProofs only[go_sem,hne]
  exact⟨⟨by omega,zjx (n:=25) (f:=zbj) (fun _=>rfl) l⟩,by decide,_,.refl _,rfl⟩

theorem znh (a0:zl) (a1:z8) (a2:List Int) (a3:List Int) (r:Bool) (h:ze0 a0 a1 a2 a3=some r):zh Tryz.prog 130 [.agg [.lst (a0.nodes.map encNode),.lst (a0.edges.map encEdgeT)],.agg [.lst (a1.nodes.map encI),.lst (a1.edges.map encEdge)],.lst (a2.map encI),.lst (a3.map encI)] (fun v=>v = .val (.bool r)):=by
 refine zh.ple ?_
 refine zf [] Ty.mixed Tryz.func130 rfl (by kernel_rfl) (by simp[Tryz.ntmps130]) ?_; rw[Tryz.ntmps130,Tryz.results130]
 unfold ze0 at h
 obtain⟨fus4,h⟩:=zbg h
 unfold fuel at fus4
 try simp -implicitDefEqProofs only[go_sem]
 refine zbe (fun x:(Nat×(Unit))×(Unit)=>envL [(2,.p (.lst (a2.map encI))),(3,.p (.lst (a3.map encI))),(4,.ptr 4 0),(5,.ptr 5 0),(9,.p (.val (.int .i64 ((x.1.1:Nat):Int))))]) (fun x=>heapL [(4,.box [.p (.lst (a0.nodes.map encNode)),.p (.lst (a0.edges.map encEdgeT))]),(5,.box [.p (.lst (a1.nodes.map encI)),.p (.lst (a1.edges.map encEdge))])]) () h (weakL (by simp -implicitDefEqProofs only[go_sem]<;>((repeat' apply And.intro)<;>rfl))) ?_ ?_
 ·intro i4 s4 g4 nxts4 Rs4 his4 hNs4 h
  have hws4:=zt (k:=i4) his4 (by omega)
  try dsimp only at h
  try simp -implicitDefEqProofs only[go_sem,his4,hws4]
  refine zbn [.q,.q,.q,.q,.q,.q,.q,.q,.q,.q,.q,.q,.q] (by kernel_rfl) ?_
  obtain⟨e5,c5,g5,q5,h⟩:=zbu encI h
  obtain⟨e6,c6a,c6b,g6,q6,h⟩:=zce encI h
  have c6n:=zbv c6a c6b
  obtain⟨e7,c7a,c7b,g7,q7,h⟩:=zce encNode h
  have c7n:=zbv c7a c7b
  try simp -implicitDefEqProofs only[go_sem,his4,hws4,c5,g5,c6a,c6b,c6n,g6,c7a,c7b,c7n,g7]
  refine zc (fun b8=>?_) (fun b8=>?_)
  ·replace h:=zd h b8
   cases h
   try simp -implicitDefEqProofs only[go_sem,his4,hws4,c5,g5,c6a,c6b,c6n,g6,c7a,c7b,c7n,g7,b8]
   all_goals((repeat' apply And.intro)<;>rfl)
  ·replace h:=ze h b8
   try simp -implicitDefEqProofs only[go_sem,his4,hws4,c5,g5,c6a,c6b,c6n,g6,c7a,c7b,c7n,g7,b8]
   exact hNs4 () () h (weakL (by simp -implicitDefEqProofs only[go_sem,his4,hws4,c5,g5,c6a,c6b,c6n,g6,c7a,c7b,c7n,g7,b8]<;>((repeat' apply And.intro)<;>rfl)))
 ·intro i4 s4 g4 Rs4 hes4 h
  have hns4:¬ (i4<a2.length):=by omega
  try dsimp only at h
  obtain⟨fus9,h⟩:=zbg h
  unfold fuel at fus9
  try simp -implicitDefEqProofs only[go_sem,hns4]
  refine zbe (fun x:(Nat×(Unit))×(Unit)=>envL [(3,.p (.lst (a3.map encI))),(4,.ptr 4 0),(5,.ptr 5 0),(10,.p (.val (.int .i64 ((x.1.1:Nat):Int))))]) (fun x=>heapL [(4,.box [.p (.lst (a0.nodes.map encNode)),.p (.lst (a0.edges.map encEdgeT))]),(5,.box [.p (.lst (a1.nodes.map encI)),.p (.lst (a1.edges.map encEdge))])]) () h (weakL (by simp -implicitDefEqProofs only[go_sem,hns4]<;>((repeat' apply And.intro)<;>rfl))) ?_ ?_
  ·intro i9 s9 g9 nxts9 Rs9 his9 hNs9 h
   have hws9:=zt (k:=i9) his9 (by omega)
   try dsimp only at h
   try simp -implicitDefEqProofs only[go_sem,hns4,his9,hws9]
   refine zbn [.q,.q,.q,.q,.q,.q,.q,.q,.w,.s] (by kernel_rfl) ?_
   obtain⟨e10,c10,g10,q10,h⟩:=zbu encI h
   obtain⟨e11,c11a,c11b,g11,q11,h⟩:=zce encEdge h
   have c11n:=zbv c11a c11b
   try simp -implicitDefEqProofs only[go_sem,hns4,his9,hws9,c10,g10,c11a,c11b,c11n,g11]
   refine zbn [.q,.q,.q,.q,.q,.q,.q,.q,.q,.q,.q,.q,.q,.q,.q,.q,.q] (by kernel_rfl) ?_
   obtain⟨e12,c12a,c12b,g12,q12,h⟩:=zce encI h
   have c12n:=zbv c12a c12b
   obtain⟨e13,c13a,c13b,g13,q13,h⟩:=zce encI h
   have c13n:=zbv c13a c13b
   obtain⟨r14,hr14,h⟩:=zm h
   try simp -implicitDefEqProofs only[go_sem,hns4,his9,hws9,c10,g10,c11a,c11b,c11n,g11,c12a,c12b,c12n,g12,c13a,c13b,c13n,g13]
   refine calldG (zow a0 e11.type e12 e13 r14 hr14) (by simp -implicitDefEqProofs only[go_sem,hns4,his9,hws9,c10,g10,c11a,c11b,c11n,g11,c12a,c12b,c12n,g12,c13a,c13b,c13n,g13]<;>rfl) (zb _) (by first | exact pers | exact scal rfl) ?_
   try simp -implicitDefEqProofs only[go_sem,hns4,his9,hws9,c10,g10,c11a,c11b,c11n,g11,c12a,c12b,c12n,g12,c13a,c13b,c13n,g13]
   refine zg (fun b15=>?_) (fun b15=>?_)
   ·replace h:=zd h b15
    try simp -implicitDefEqProofs only[go_sem,hns4,his9,hws9,c10,g10,c11a,c11b,c11n,g11,c12a,c12b,c12n,g12,c13a,c13b,c13n,g13,b15]
    exact hNs9 () () h (weakL (by simp -implicitDefEqProofs only[go_sem,hns4,his9,hws9,c10,g10,c11a,c11b,c11n,g11,c12a,c12b,c12n,g12,c13a,c13b,c13n,g13,b15]<;>((repeat' apply And.intro)<;>rfl)))
   ·replace h:=ze h b15
    cases h
    try simp -implicitDefEqProofs only[go_sem,hns4,his9,hws9,c10,g10,c11a,c11b,c11n,g11,c12a,c12b,c12n,g12,c13a,c13b,c13n,g13,b15]
    all_goals((repeat' apply And.intro)<;>rfl)
  ·intro i9 s9 g9 Rs9 hes9 h
   have hns9:¬ (i9<a3.length):=by omega
   try dsimp only at h
   cases h
   try simp -implicitDefEqProofs only[go_sem,hns4,hns9]
   all_goals((repeat' apply And.intro)<;>rfl)

theorem znj (n:Nat):∀ (a0:zl) (a1:Int) (a2:Int) (r:Bool) (h:zdg n a0 a1 a2=some r),zh Tryz.prog 95 [.agg [.lst (a0.nodes.map encNode),.lst (a0.edges.map encEdgeT)],.val (.int .i64 a1),.val (.int .i64 a2)] (fun v=>v = .val (.bool r)):=by
 induction n with
 | zero=>intro a0 a1 a2 r h; cases h
 | succ n ih =>
 intro a0 a1 a2 r h
 refine zh.ple ?_
 refine zf [] Ty.mixed Tryz.func95 rfl (by kernel_rfl) (by simp[Tryz.ntmps95]) ?_; rw[Tryz.ntmps95,Tryz.results95]
 unfold zdg at h
 try simp -implicitDefEqProofs only[go_sem]
 refine zbn [.q,.q,.q,.q,.q,.q,.q,.q,.q,.q,.q,.q,.q,.q,.q,.q,.q,.q,.q] (by kernel_rfl) ?_
 try simp -implicitDefEqProofs only[go_sem]
 refine zfm (fun b3=>?_) (fun b3=>?_)
 ·replace h:=zd h b3
  cases h
  try simp -implicitDefEqProofs only[go_sem,b3]
  all_goals((repeat' apply And.intro)<;>rfl)
 ·replace h:=ze h b3
  try simp -implicitDefEqProofs only[go_sem,b3]
  refine zdi (fun b4=>?_) (fun b4=>?_)
  ·replace h:=zd h b4
   obtain⟨e5,c5a,c5b,g5,q5,h⟩:=zce encNode h
   have c5n:=zbv c5a c5b
   obtain⟨r6,hr6,h⟩:=zm h
   try simp -implicitDefEqProofs only[go_sem,b3,b4,c5a,c5b,c5n,g5]
   refine calldG (ih a0 e5.parent a2 r6 hr6) (by simp -implicitDefEqProofs only[go_sem,b3,b4,c5a,c5b,c5n,g5]<;>rfl) (zb _) (by first | exact pers | exact scal rfl) ?_
   cases h
   try simp -implicitDefEqProofs only[go_sem,b3,b4,c5a,c5b,c5n,g5]
   all_goals((repeat' apply And.intro)<;>rfl)
  ·replace h:=ze h b4
   cases h
   try simp -implicitDefEqProofs only[go_sem,b3,b4]
   all_goals((repeat' apply And.intro)<;>rfl)
theorem zsl (a0:List zi) (a1:Int) (r:(List zi)) (h:zfb a0 a1=some r):zh Tryz.prog 32 [.lst (a0.map zn),.val (.int .i64 a1)] (fun v=>v = .lst (r.map zn)):=by
 refine zh.ple ?_
 refine zf [45] Ty.mixed Tryz.func32 rfl (by kernel_rfl) (by simp[Tryz.ntmps32]) ?_; rw[Tryz.ntmps32,Tryz.results32]
 unfold zfb at h
 obtain⟨fus2,h⟩:=zbg h
 unfold fuel at fus2
 try simp -implicitDefEqProofs only[go_sem]
 refine zbe (fun x:(Nat×((List zi)))×(Unit)=>envL [(0,.p (.lst (a0.map zn))),(1,.p (.val (.int .i64 a1))),(5,.p (.lst (x.1.2.map zn))),(11,.p (.lst (a0.map zn))),(12,.p (.val (.int .i64 ((a0.length:Nat):Int)))),(13,.p (.val (.int .i64 ((x.1.1:Nat):Int))))]) (fun x=>heapL []) () h (weakL (by simp -implicitDefEqProofs only[go_sem]<;>((repeat' apply And.intro)<;>rfl))) ?_ ?_
 ·intro i2 s2 g2 nxts2 Rs2 his2 hNs2 h
  have hws2:=zt (k:=i2) his2 (by omega)
  try dsimp only at h
  obtain⟨e3,c3,g3,q3,h⟩:=zbu zn h
  obtain⟨r4,hr4,h⟩:=zm h
  try simp -implicitDefEqProofs only[go_sem,his2,hws2,c3,g3]
  refine callfG 1336 (zqh a0 e3.src a1 r4 hr4) (by simp -implicitDefEqProofs only[go_sem,his2,hws2,c3,g3]<;>rfl) (zb _) (by first | exact persF | exact flatF rfl | exact flatF (by simp[RV.flat,RV.flatL,PV.scalar,isVal,encI])) (by simp -implicitDefEqProofs only[go_sem,his2,hws2,c3,g3]) ?_
  obtain⟨e5,c5a,c5b,g5,q5,h⟩:=zce encI h
  have c5n:=zbv c5a c5b
  try simp -implicitDefEqProofs only[go_sem,his2,hws2,c3,g3,c5a,c5b,c5n,g5]
  refine zw (fun b6=>?_) (fun b6=>?_)
  ·replace h:=zd h b6
   try simp -implicitDefEqProofs only[go_sem,his2,hws2,c3,g3,c5a,c5b,c5n,g5,b6]
   exact hNs2 s2 () h (weakL (by simp -implicitDefEqProofs only[go_sem,his2,hws2,c3,g3,c5a,c5b,c5n,g5,b6]<;>((repeat' apply And.intro)<;>rfl)))
  ·replace h:=ze h b6
   try simp -implicitDefEqProofs only[go_sem,his2,hws2,c3,g3,c5a,c5b,c5n,g5,b6]
   refine zq (fun b7=>?_) (fun b7=>?_)
   ·replace h:=zd h b7
    try simp -implicitDefEqProofs only[go_sem,his2,hws2,c3,g3,c5a,c5b,c5n,g5,b6,b7]
    refine zc (fun b8=>?_) (fun b8=>?_)
    ·replace h:=zd h b8
     try simp -implicitDefEqProofs only[go_sem,his2,hws2,c3,g3,c5a,c5b,c5n,g5,b6,b7,b8]
     exact hNs2 s2 () h (weakL (by simp -implicitDefEqProofs only[go_sem,his2,hws2,c3,g3,c5a,c5b,c5n,g5,b6,b7,b8]<;>((repeat' apply And.intro)<;>rfl)))
    ·replace h:=ze h b8
     try simp -implicitDefEqProofs only[go_sem,his2,hws2,c3,g3,c5a,c5b,c5n,g5,b6,b7,b8]
     refine zkt (fun x:(Int×(List zi))×(Nat)=>envL [(0,.p (.lst (a0.map zn))),(1,.p (.val (.int .i64 a1))),(5,.row 45 x.2),(7,.ptr 7 0),(8,.ptr 8 0),(9,.ptr 9 0),(11,.p (.lst (a0.map zn))),(12,.p (.val (.int .i64 ((a0.length:Nat):Int)))),(13,.p (.val (.int .i64 ((i2:Nat):Int))))]) (fun x=>heapL [(45,.row x.2 52 4 (x.1.2.map zn)),(7,.box ((zn e3).map .p)),(8,.box [.row 1336 0]),(9,.box [.p (.val (.int .i64 x.1.1))]),(1336,.row 0 3 1 (r4.map encI))]) 0 h (weakL (by simp -implicitDefEqProofs only[go_sem,his2,hws2,c3,g3,c5a,c5b,c5n,g5,b6,b7,b8]<;>((repeat' apply And.intro)<;>rfl))) ?_
     intro s9 g9 nxts9 Rs9 hNs9 h
     try dsimp only at h
     try simp -implicitDefEqProofs only[go_sem,his2,hws2,c3,g3,c5a,c5b,c5n,g5,b6,b7,b8]
     refine zg (fun b10=>?_) (fun b10=>?_)
     ·replace h:=zd h b10
      try dsimp only at h
      try simp -implicitDefEqProofs only[go_sem,his2,hws2,c3,g3,c5a,c5b,c5n,g5,b6,b7,b8,b10]
      exact hNs2 s9.2 () h (by refine Weak.trans (zl8 45 g9 52 4 (s9.2.map zn) [5] (by simp -implicitDefEqProofs only[go_sem,his2,hws2,c3,g3,c5a,c5b,c5n,g5,b6,b7,b8,b10]<;>rfl) (by simp -implicitDefEqProofs only[go_sem,his2,hws2,c3,g3,c5a,c5b,c5n,g5,b6,b7,b8,b10]<;>((repeat' apply And.intro)<;>rfl)) (by decide)) ?_; exact (weakL (by simp -implicitDefEqProofs only[go_sem,his2,hws2,c3,g3,c5a,c5b,c5n,g5,b6,b7,b8,b10]<;>((repeat' apply And.intro)<;>rfl))))
     ·replace h:=ze h b10
      obtain⟨r11,hr11,h⟩:=zm h
      try simp -implicitDefEqProofs only[go_sem,his2,hws2,c3,g3,c5a,c5b,c5n,g5,b6,b7,b8,b10]
      refine callG (zja a0 (fun x12=>zc5 x12 s9.1 r4) 62 [] [.eptr [.val (.int .i64 s9.1)] 0,.eptr [.lst (r4.map encI)] 0] (fun x12 r h=>zlf x12 s9.1 r4 r h) r11 hr11) (by simp -implicitDefEqProofs only[go_sem,his2,hws2,c3,g3,c5a,c5b,c5n,g5,b6,b7,b8,b10]<;>rfl) (zb _) (by first | exact pers | exact scal rfl) ?_
      try simp -implicitDefEqProofs only[go_sem,his2,hws2,c3,g3,c5a,c5b,c5n,g5,b6,b7,b8,b10]
      refine zfg [(0,.p),(1,.q),(2,.q),(3,.q),(4,.q),(5,.p),(7,.b),(8,.b),(9,.b),(10,.b),(11,.b),(6,.w),(12,.q),(13,.w)] (by kernel_rfl) ?_
      obtain⟨e13,c13a,c13b,g13,q13,h⟩:=zce zn h
      have c13n:=zbv c13a c13b
      obtain⟨c14,h⟩:=zbg h
      have k15:=eq_true (show (s9.2.length+1) * 32≤140737488355328 by omega)
      have a16:=zfc zn s9.2 [e13] (c:=[[.val (.int .i64 e13.rule),.val (.int .i64 e13.src),.val (.int .i64 e13.dst),.val (.int .i64 e13.strict)]]) rfl
      try simp -implicitDefEqProofs only[go_sem,his2,hws2,c3,g3,c5a,c5b,c5n,g5,b6,b7,b8,b10,c13a,c13b,c13n,g13,c14,k15,a16]
      refine zsb (envL [(0,.p (.lst (a0.map zn))),(1,.p (.val (.int .i64 a1))),(5,.row 45 (g9+1)),(7,.ptr 7 0),(8,.ptr 8 0),(11,.p (.lst (a0.map zn))),(12,.p (.val (.int .i64 ((a0.length:Nat):Int)))),(13,.p (.val (.int .i64 ((i2:Nat):Int)))),(67,.p (.val (.int .i64 e13.dst)))]) (heapL [(7,.box ((zn e3).map .p)),(8,.box [.row 1336 0]),(45,.row (g9+1) 52 4 ((s9.2++[e13]).map zn)),(1336,.row 0 3 1 (r4.map encI))]) (weakL (by simp -implicitDefEqProofs only[go_sem,his2,hws2,c3,g3,c5a,c5b,c5n,g5,b6,b7,b8,b10,c13a,c13b,c13n,g13,c14,k15,a16]<;>((repeat' apply And.intro)<;>rfl))) (by simp -implicitDefEqProofs only[go_sem,his2,hws2,c3,g3,c5a,c5b,c5n,g5,b6,b7,b8,b10,c13a,c13b,c13n,g13,c14,k15,a16]<;>rfl) (by trivial) ?_
      try simp -implicitDefEqProofs only[go_sem,his2,hws2,c3,g3,c5a,c5b,c5n,g5,b6,b7,b8,b10,c13a,c13b,c13n,g13,c14,k15,a16]
      exact hNs9 (e13.dst,(s9.2++[e13])) (g9+1) h (weakL (by simp -implicitDefEqProofs only[go_sem,his2,hws2,c3,g3,c5a,c5b,c5n,g5,b6,b7,b8,b10,c13a,c13b,c13n,g13,c14,k15,a16]<;>((repeat' apply And.intro)<;>rfl)))
   ·replace h:=ze h b7
    try simp -implicitDefEqProofs only[go_sem,his2,hws2,c3,g3,c5a,c5b,c5n,g5,b6,b7]
    refine zkt (fun x:(Int×(List zi))×(Nat)=>envL [(0,.p (.lst (a0.map zn))),(1,.p (.val (.int .i64 a1))),(5,.row 45 x.2),(7,.ptr 7 0),(8,.ptr 8 0),(9,.ptr 9 0),(11,.p (.lst (a0.map zn))),(12,.p (.val (.int .i64 ((a0.length:Nat):Int)))),(13,.p (.val (.int .i64 ((i2:Nat):Int))))]) (fun x=>heapL [(45,.row x.2 52 4 (x.1.2.map zn)),(7,.box ((zn e3).map .p)),(8,.box [.row 1336 0]),(9,.box [.p (.val (.int .i64 x.1.1))]),(1336,.row 0 3 1 (r4.map encI))]) 0 h (weakL (by simp -implicitDefEqProofs only[go_sem,his2,hws2,c3,g3,c5a,c5b,c5n,g5,b6,b7]<;>((repeat' apply And.intro)<;>rfl))) ?_
    intro s17 g17 nxts17 Rs17 hNs17 h
    try dsimp only at h
    try simp -implicitDefEqProofs only[go_sem,his2,hws2,c3,g3,c5a,c5b,c5n,g5,b6,b7]
    refine zg (fun b18=>?_) (fun b18=>?_)
    ·replace h:=zd h b18
     try dsimp only at h
     try simp -implicitDefEqProofs only[go_sem,his2,hws2,c3,g3,c5a,c5b,c5n,g5,b6,b7,b18]
     exact hNs2 s17.2 () h (by refine Weak.trans (zl8 45 g17 52 4 (s17.2.map zn) [5] (by simp -implicitDefEqProofs only[go_sem,his2,hws2,c3,g3,c5a,c5b,c5n,g5,b6,b7,b18]<;>rfl) (by simp -implicitDefEqProofs only[go_sem,his2,hws2,c3,g3,c5a,c5b,c5n,g5,b6,b7,b18]<;>((repeat' apply And.intro)<;>rfl)) (by decide)) ?_; exact (weakL (by simp -implicitDefEqProofs only[go_sem,his2,hws2,c3,g3,c5a,c5b,c5n,g5,b6,b7,b18]<;>((repeat' apply And.intro)<;>rfl))))
    ·replace h:=ze h b18
     obtain⟨r19,hr19,h⟩:=zm h
     try simp -implicitDefEqProofs only[go_sem,his2,hws2,c3,g3,c5a,c5b,c5n,g5,b6,b7,b18]
     refine callG (zja a0 (fun x20=>zc5 x20 s17.1 r4) 62 [] [.eptr [.val (.int .i64 s17.1)] 0,.eptr [.lst (r4.map encI)] 0] (fun x20 r h=>zlf x20 s17.1 r4 r h) r19 hr19) (by simp -implicitDefEqProofs only[go_sem,his2,hws2,c3,g3,c5a,c5b,c5n,g5,b6,b7,b18]<;>rfl) (zb _) (by first | exact pers | exact scal rfl) ?_
     try simp -implicitDefEqProofs only[go_sem,his2,hws2,c3,g3,c5a,c5b,c5n,g5,b6,b7,b18]
     refine zfg [(0,.p),(1,.q),(2,.q),(3,.q),(4,.q),(5,.p),(7,.b),(8,.b),(9,.b),(10,.b),(11,.b),(6,.w),(12,.q),(13,.w)] (by kernel_rfl) ?_
     obtain⟨e21,c21a,c21b,g21,q21,h⟩:=zce zn h
     have c21n:=zbv c21a c21b
     obtain⟨c22,h⟩:=zbg h
     have k23:=eq_true (show (s17.2.length+1) * 32≤140737488355328 by omega)
     have a24:=zfc zn s17.2 [e21] (c:=[[.val (.int .i64 e21.rule),.val (.int .i64 e21.src),.val (.int .i64 e21.dst),.val (.int .i64 e21.strict)]]) rfl
     try simp -implicitDefEqProofs only[go_sem,his2,hws2,c3,g3,c5a,c5b,c5n,g5,b6,b7,b18,c21a,c21b,c21n,g21,c22,k23,a24]
     refine zsb (envL [(0,.p (.lst (a0.map zn))),(1,.p (.val (.int .i64 a1))),(5,.row 45 (g17+1)),(7,.ptr 7 0),(8,.ptr 8 0),(11,.p (.lst (a0.map zn))),(12,.p (.val (.int .i64 ((a0.length:Nat):Int)))),(13,.p (.val (.int .i64 ((i2:Nat):Int)))),(67,.p (.val (.int .i64 e21.dst)))]) (heapL [(7,.box ((zn e3).map .p)),(8,.box [.row 1336 0]),(45,.row (g17+1) 52 4 ((s17.2++[e21]).map zn)),(1336,.row 0 3 1 (r4.map encI))]) (weakL (by simp -implicitDefEqProofs only[go_sem,his2,hws2,c3,g3,c5a,c5b,c5n,g5,b6,b7,b18,c21a,c21b,c21n,g21,c22,k23,a24]<;>((repeat' apply And.intro)<;>rfl))) (by simp -implicitDefEqProofs only[go_sem,his2,hws2,c3,g3,c5a,c5b,c5n,g5,b6,b7,b18,c21a,c21b,c21n,g21,c22,k23,a24]<;>rfl) (by trivial) ?_
     try simp -implicitDefEqProofs only[go_sem,his2,hws2,c3,g3,c5a,c5b,c5n,g5,b6,b7,b18,c21a,c21b,c21n,g21,c22,k23,a24]
     exact hNs17 (e21.dst,(s17.2++[e21])) (g17+1) h (weakL (by simp -implicitDefEqProofs only[go_sem,his2,hws2,c3,g3,c5a,c5b,c5n,g5,b6,b7,b18,c21a,c21b,c21n,g21,c22,k23,a24]<;>((repeat' apply And.intro)<;>rfl)))
 ·intro i2 s2 g2 Rs2 hes2 h
  have hns2:¬ (i2<a0.length):=by omega
  try dsimp only at h
  cases h
  try simp -implicitDefEqProofs only[go_sem,hns2]
  all_goals((repeat' apply And.intro)<;>rfl)
theorem ziw (a0:List Edge) (p1:Edge→Option Bool) (k1:FuncId) (fs1 cs1:List PV) (hp1:∀x0 r,p1 x0=some r→zh Tryz.prog k1 (fs1++[.agg (encEdge x0)]++cs1) (fun v=>v = .val (.bool r))) (r:Bool) (h:zdr a0 p1=some r):zh Tryz.prog 183 [.lst (a0.map encEdge),.clo (.func k1) fs1 cs1] (fun v=>v = .val (.bool r)):=by
 refine zh.ple ?_
 refine zf [] Ty.mixed Tryz.func183 rfl (by kernel_rfl) (by simp[Tryz.ntmps183]) ?_; rw[Tryz.ntmps183,Tryz.results183]
 unfold zdr at h
 obtain⟨r2,hr2,h⟩:=zm h
 try simp -implicitDefEqProofs only[go_sem]
 refine callG (znm a0 p1 k1 fs1 cs1 hp1 r2 hr2) (by simp -implicitDefEqProofs only[go_sem]<;>rfl) (zb _) (by first | exact pers | exact scal rfl) ?_
 cases h
 try simp -implicitDefEqProofs only[go_sem]
 all_goals((repeat' apply And.intro)<;>rfl)

theorem zk0 (a0:z8) (a1:z8) (a2:zby) (r:Bool) (h:ze3 a0 a1 a2=some r):zh Tryz.prog 193 [.agg [.lst (a0.nodes.map encI),.lst (a0.edges.map encEdge)],.agg [.lst (a1.nodes.map encI),.lst (a1.edges.map encEdge)],.agg [.lst (a2.nodes.map encI),.lst (a2.edges.map encI)]] (fun v=>v = .val (.bool r)):=by
 refine zh.ple ?_
 refine zf [] Ty.mixed Tryz.func193 rfl (by kernel_rfl) (by simp[Tryz.ntmps193]) ?_; rw[Tryz.ntmps193,Tryz.results193]
 unfold ze3 at h
 try simp -implicitDefEqProofs only[go_sem]
 refine zbn [.q,.q,.q,.q,.q,.q,.q,.q,.q,.q,.q,.q,.q,.q,.q,.q,.q,.q,.q,.q,.q,.q,.q,.q] (by kernel_rfl) ?_
 obtain⟨r3,hr3,h⟩:=zm h
 try simp -implicitDefEqProofs only[go_sem]
 refine calldG (zkh a0 a1 a2 r3 hr3) (by simp -implicitDefEqProofs only[go_sem]<;>rfl) (zb _) (by first | exact pers | exact scal rfl) ?_
 try simp -implicitDefEqProofs only[go_sem]
 refine zdi (fun b4=>?_) (fun b4=>?_)
 ·replace h:=zd h b4
  obtain⟨r5,hr5,h⟩:=zm h
  try simp -implicitDefEqProofs only[go_sem,b4]
  refine calldG (zmo a2.nodes r5 hr5) (by simp -implicitDefEqProofs only[go_sem,b4]<;>rfl) (zb _) (by first | exact pers | exact scal rfl) ?_
  try simp -implicitDefEqProofs only[go_sem,b4]
  refine zdi (fun b6=>?_) (fun b6=>?_)
  ·replace h:=zd h b6
   obtain⟨r7,hr7,h⟩:=zm h
   try simp -implicitDefEqProofs only[go_sem,b4,b6]
   refine calldG (zmo a2.edges r7 hr7) (by simp -implicitDefEqProofs only[go_sem,b4,b6]<;>rfl) (zb _) (by first | exact pers | exact scal rfl) ?_
   cases h
   try simp -implicitDefEqProofs only[go_sem,b4,b6]
   all_goals((repeat' apply And.intro)<;>rfl)
  ·replace h:=ze h b6
   cases h
   try simp -implicitDefEqProofs only[go_sem,b4,b6]
   all_goals((repeat' apply And.intro)<;>rfl)
 ·replace h:=ze h b4
  cases h
  try simp -implicitDefEqProofs only[go_sem,b4]
  all_goals((repeat' apply And.intro)<;>rfl)

theorem zig (a0:z7) (r:Bool) (h:zd6 a0=some r):zh Tryz.prog 54 [.agg (zb2 a0)] (fun v=>v = .val (.bool r)):=by
 refine zh.ple ?_
 refine zf [] Ty.mixed Tryz.func54 rfl (by kernel_rfl) (by simp[Tryz.ntmps54]) ?_; rw[Tryz.ntmps54,Tryz.results54]
 unfold zd6 at h
 obtain⟨r1,hr1,h⟩:=zm h
 try simp -implicitDefEqProofs only[go_sem]
 refine callG (zph a0.graph r1 hr1) (by simp -implicitDefEqProofs only[go_sem]<;>rfl) (zb _) (by first | exact pers | exact scal rfl) ?_
 try simp -implicitDefEqProofs only[go_sem]
 refine zq (fun b2=>?_) (fun b2=>?_)
 ·replace h:=zd h b2
  try simp -implicitDefEqProofs only[go_sem,b2]
  refine zq (fun b3=>?_) (fun b3=>?_)
  ·replace h:=zd h b3
   cases h
   try simp -implicitDefEqProofs only[go_sem,b2,b3]
   all_goals((repeat' apply And.intro)<;>rfl)
  ·replace h:=ze h b3
   cases h
   try simp -implicitDefEqProofs only[go_sem,b2,b3]
   all_goals((repeat' apply And.intro)<;>rfl)
 ·replace h:=ze h b2
  cases h
  try simp -implicitDefEqProofs only[go_sem,b2]
  all_goals((repeat' apply And.intro)<;>rfl)

theorem zjb (a0:List zi) (a1:Int) (a2:Int) (a3:Int) (r:Bool) (h:zcw a0 a1 a2 a3=some r):zh Tryz.prog 37 [.lst (a0.map zn),.val (.int .i64 a1),.val (.int .i64 a2),.val (.int .i64 a3)] (fun v=>v = .val (.bool r)):=by
 refine zh.ple ?_
 refine zf [14,50] Ty.mixed Tryz.func37 rfl (by kernel_rfl) (by simp[Tryz.ntmps37]) ?_; rw[Tryz.ntmps37,Tryz.results37]
 unfold zcw at h
 obtain⟨fus4,h⟩:=zbg h
 unfold fuel at fus4
 try simp -implicitDefEqProofs only[go_sem]
 refine zbe (fun x:(Nat×((List Int)))×(Unit)=>envL [(0,.p (.lst (a0.map zn))),(2,.p (.val (.int .i64 a2))),(3,.p (.val (.int .i64 a3))),(9,.p (.lst (x.1.2.map encI))),(10,.p (.val (.int .i64 ((x.1.1:Nat):Int))))]) (fun x=>heapL []) () h (by refine Weak.trans (zl8 14 0 3 1 ([a1].map encI) [9] (by simp -implicitDefEqProofs only[go_sem]<;>rfl) (by simp -implicitDefEqProofs only[go_sem]<;>((repeat' apply And.intro)<;>rfl)) (by decide)) ?_; exact (weakL (by simp -implicitDefEqProofs only[go_sem]<;>((repeat' apply And.intro)<;>rfl)))) ?_ ?_
 ·intro i4 s4 g4 nxts4 Rs4 his4 hNs4 h
  have hws4:=zt (k:=i4) his4 (by omega)
  have hjs4:((i4:Nat):Int)<a3:=by omega
  try dsimp only at h
  obtain⟨fus5,h⟩:=zbg h
  unfold fuel at fus5
  try simp -implicitDefEqProofs only[go_sem,his4,hws4,hjs4]
  refine zbe (fun x:(Nat×((List Int)))×(Nat)=>envL [(0,.p (.lst (a0.map zn))),(2,.p (.val (.int .i64 a2))),(3,.p (.val (.int .i64 a3))),(9,.p (.lst (s4.map encI))),(10,.p (.val (.int .i64 ((i4:Nat):Int)))),(11,.row 6524 x.2),(12,.p (.val (.int .i64 ((x.1.1:Nat):Int))))]) (fun x=>heapL [(6524,.row x.2 3 1 (x.1.2.map encI))]) 0 h (by refine Weak.trans (zhi 11 6524 3 1 rfl rfl (by decide)) ?_; exact (weakL (by simp -implicitDefEqProofs only[go_sem,his4,hws4,hjs4]<;>((repeat' apply And.intro)<;>rfl)))) ?_ ?_
  ·intro i5 s5 g5 nxts5 Rs5 his5 hNs5 h
   have hws5:=zt (k:=i5) his5 (by omega)
   try dsimp only at h
   obtain⟨e6,c6,g6,q6,h⟩:=zbu zn h
   obtain⟨r7,hr7,h⟩:=zm h
   try simp -implicitDefEqProofs only[go_sem,his4,hws4,hjs4,his5,hws5,c6,g6]
   refine callG (zid s4 e6.src r7 hr7) (by simp -implicitDefEqProofs only[go_sem,his4,hws4,hjs4,his5,hws5,c6,g6]<;>rfl) (zb _) (by first | exact pers | exact scal rfl) ?_
   try simp -implicitDefEqProofs only[go_sem,his4,hws4,hjs4,his5,hws5,c6,g6]
   refine zq (fun b8=>?_) (fun b8=>?_)
   ·replace h:=zd h b8
    obtain⟨r9,hr9,h⟩:=zm h
    try simp -implicitDefEqProofs only[go_sem,his4,hws4,hjs4,his5,hws5,c6,g6,b8]
    refine callG (zid s5 e6.dst r9 hr9) (by simp -implicitDefEqProofs only[go_sem,his4,hws4,hjs4,his5,hws5,c6,g6,b8]<;>rfl) (zb _) (by first | exact pers | exact scal rfl) ?_
    try simp -implicitDefEqProofs only[go_sem,his4,hws4,hjs4,his5,hws5,c6,g6,b8]
    refine zg (fun b10=>?_) (fun b10=>?_)
    ·replace h:=zd h b10
     try simp -implicitDefEqProofs only[go_sem,his4,hws4,hjs4,his5,hws5,c6,g6,b8,b10]
     exact hNs5 s5 g5 h (weakL (by simp -implicitDefEqProofs only[go_sem,his4,hws4,hjs4,his5,hws5,c6,g6,b8,b10]<;>((repeat' apply And.intro)<;>rfl)))
    ·replace h:=ze h b10
     obtain⟨c11,h⟩:=zbg h
     have k12:=eq_true (show (s5.length+1) * 8≤140737488355328 by omega)
     have a13:=zfc encI s5 [e6.dst] (c:=[[.val (.int .i64 e6.dst)]]) rfl
     try simp -implicitDefEqProofs only[go_sem,his4,hws4,hjs4,his5,hws5,c6,g6,b8,b10,c11,k12,a13]
     exact hNs5 (s5++[e6.dst]) (g5+1) h (weakL (by simp -implicitDefEqProofs only[go_sem,his4,hws4,hjs4,his5,hws5,c6,g6,b8,b10,c11,k12,a13]<;>((repeat' apply And.intro)<;>rfl)))
   ·replace h:=ze h b8
    try simp -implicitDefEqProofs only[go_sem,his4,hws4,hjs4,his5,hws5,c6,g6,b8]
    exact hNs5 s5 g5 h (weakL (by simp -implicitDefEqProofs only[go_sem,his4,hws4,hjs4,his5,hws5,c6,g6,b8]<;>((repeat' apply And.intro)<;>rfl)))
  ·intro i5 s5 g5 Rs5 hes5 h
   have hns5:¬ (i5<a0.length):=by omega
   try dsimp only at h
   try simp -implicitDefEqProofs only[go_sem,his4,hws4,hjs4,hns5]
   exact hNs4 s5 () h (by refine Weak.trans (zl8 6524 g5 3 1 (s5.map encI) [9,11,51] (by simp -implicitDefEqProofs only[go_sem,his4,hws4,hjs4,hns5]<;>rfl) (by simp -implicitDefEqProofs only[go_sem,his4,hws4,hjs4,hns5]<;>((repeat' apply And.intro)<;>rfl)) (by decide)) ?_; exact (weakL (by simp -implicitDefEqProofs only[go_sem,his4,hws4,hjs4,hns5]<;>((repeat' apply And.intro)<;>rfl))))
 ·intro i4 s4 g4 Rs4 hes4 h
  have hns4:¬ (((i4:Nat):Int)<a3):=by omega
  try dsimp only at h
  obtain⟨r14,hr14,h⟩:=zm h
  try simp -implicitDefEqProofs only[go_sem,hns4]
  refine callG (zid s4 a2 r14 hr14) (by simp -implicitDefEqProofs only[go_sem,hns4]<;>rfl) (zb _) (by first | exact pers | exact scal rfl) ?_
  cases h
  try simp -implicitDefEqProofs only[go_sem,hns4]
  all_goals((repeat' apply And.intro)<;>rfl)
theorem ziz (a0:List zb4) (p1:zb4→Option Bool) (k1:FuncId) (fs1 cs1:List PV) (hp1:∀x0 r,p1 x0=some r→zh Tryz.prog k1 (fs1++[.agg (zbs x0)]++cs1) (fun v=>v = .val (.bool r))) (r:Bool) (h:zc6 a0 p1=some r):zh Tryz.prog 238 [.lst (a0.map zbs),.clo (.func k1) fs1 cs1] (fun v=>v = .val (.bool r)):=by
 refine zh.ple ?_
 refine zf [] Ty.mixed Tryz.func238 rfl (by kernel_rfl) (by simp[Tryz.ntmps238]) ?_; rw[Tryz.ntmps238,Tryz.results238]
 unfold zc6 at h
 obtain⟨r2,hr2,h⟩:=zm h
 try simp -implicitDefEqProofs only[go_sem]
 refine callG (zn0 a0 p1 k1 fs1 cs1 hp1 r2 hr2) (by simp -implicitDefEqProofs only[go_sem]<;>rfl) (zb _) (by first | exact pers | exact scal rfl) ?_
 cases h
 try simp -implicitDefEqProofs only[go_sem]
 all_goals((repeat' apply And.intro)<;>rfl)

theorem zpd (a0:List Int) (a1:Int) (r:Bool) (h:zfr a0 a1=some r):zh Tryz.prog 199 [.lst (a0.map encI),.val (.int .i64 a1)] (fun v=>v = .val (.bool r)):=by
 refine zh.ple ?_
 refine zf [] Ty.mixed Tryz.func199 rfl (by kernel_rfl) (by simp[Tryz.ntmps199]) ?_; rw[Tryz.ntmps199,Tryz.results199]
 unfold zfr at h
 obtain⟨r2,hr2,h⟩:=zm h
 try simp -implicitDefEqProofs only[go_sem]
 refine callG (zr4 a0 a1 r2 hr2) (by simp -implicitDefEqProofs only[go_sem]<;>rfl) (zb _) (by first | exact pers | exact scal rfl) ?_
 cases h
 try simp -implicitDefEqProofs only[go_sem]
 all_goals((repeat' apply And.intro)<;>rfl)

theorem zjh (a0:List zo) (p1:zo→Option Bool) (k1:FuncId) (fs1 cs1:List PV) (hp1:∀x0 r,p1 x0=some r→zh Tryz.prog k1 (fs1++[.agg [.lst (x0.deletes.map encI),.lst (x0.creates.map encI)]]++cs1) (fun v=>v = .val (.bool r))) (r:Bool) (h:zcz a0 p1=some r):zh Tryz.prog 68 [.lst (a0.map zbd),.clo (.func k1) fs1 cs1] (fun v=>v = .val (.bool r)):=by
 refine zh.ple ?_
 refine zf [] Ty.mixed Tryz.func68 rfl (by kernel_rfl) (by simp[Tryz.ntmps68]) ?_; rw[Tryz.ntmps68,Tryz.results68]
 unfold zcz at h
 obtain⟨r2,hr2,h⟩:=zm h
 try simp -implicitDefEqProofs only[go_sem]
 refine callG (zg8 a0 p1 k1 fs1 cs1 hp1 r2 hr2) (by simp -implicitDefEqProofs only[go_sem]<;>rfl) (zb _) (by first | exact pers | exact scal rfl) ?_
 cases h
 try simp -implicitDefEqProofs only[go_sem]
 all_goals((repeat' apply And.intro)<;>rfl)

theorem znw (a0:zl) (a1:zu) (r:Int) (h:zdp a0 a1=some r):zh Tryz.prog 127 [.agg [.lst (a0.nodes.map encNode),.lst (a0.edges.map encEdgeT)],.agg (zbj a1)] (fun v=>v = .val (.int .i64 r)):=by
 refine zh.ple ?_
 refine zf [] Ty.mixed Tryz.func127 rfl (by kernel_rfl) (by simp[Tryz.ntmps127]) ?_; rw[Tryz.ntmps127,Tryz.results127]
 unfold zdp at h
 obtain⟨r2,hr2,h⟩:=zm h
 try simp -implicitDefEqProofs only[go_sem]
 refine callG (ze8 a1.right.graph r2 hr2) (by simp -implicitDefEqProofs only[go_sem]<;>rfl) (zb _) (by first | exact pers | exact scal rfl) ?_
 try simp -implicitDefEqProofs only[go_sem]
 refine zg (fun b3=>?_) (fun b3=>?_)
 ·replace h:=zd h b3
  obtain⟨r4,hr4,h⟩:=zm h
  try simp -implicitDefEqProofs only[go_sem,b3]
  refine callG (zj2 a0 a1.right.graph r4 hr4) (by simp -implicitDefEqProofs only[go_sem,b3]<;>rfl) (zb _) (by first | exact pers | exact scal rfl) ?_
  try simp -implicitDefEqProofs only[go_sem,b3]
  refine zg (fun b5=>?_) (fun b5=>?_)
  ·replace h:=zd h b5
   try simp -implicitDefEqProofs only[go_sem,b3,b5]
   refine zq (fun b6=>?_) (fun b6=>?_)
   ·replace h:=zd h b6
    try simp -implicitDefEqProofs only[go_sem,b3,b5,b6]
    refine zc (fun b7=>?_) (fun b7=>?_)
    ·replace h:=zd h b7
     cases h
     try simp -implicitDefEqProofs only[go_sem,b3,b5,b6,b7]
     all_goals((repeat' apply And.intro)<;>rfl)
    ·replace h:=ze h b7
     try simp -implicitDefEqProofs only[go_sem,b3,b5,b6,b7]
     refine zc (fun b8=>?_) (fun b8=>?_)
     ·replace h:=zd h b8
      cases h
      try simp -implicitDefEqProofs only[go_sem,b3,b5,b6,b7,b8]
      all_goals((repeat' apply And.intro)<;>rfl)
     ·replace h:=ze h b8
      obtain⟨fus9,h⟩:=zbg h
      unfold fuel at fus9
      try simp -implicitDefEqProofs only[go_sem,b3,b5,b6,b7,b8]
      refine zbe (fun x:(Nat×(Unit))×(Unit)=>envL [(2,.ptr 2 0),(3,.ptr 3 0),(6,.p (.val (.int .i64 ((x.1.1:Nat):Int))))]) (fun x=>heapL [(2,.box [.p (.lst (a0.nodes.map encNode)),.p (.lst (a0.edges.map encEdgeT))]),(3,.box [.p (.val (.string a1.name)),.p (.lst (a1.left.graph.nodes.map encI)),.p (.lst (a1.left.graph.edges.map encEdge)),.p (.lst (a1.left.slots.map zbs)),.p (.val (.int .i64 a1.left.vars)),.p (.lst (a1.left.tests.map zb7)),.p (.lst (a1.right.graph.nodes.map encI)),.p (.lst (a1.right.graph.edges.map encEdge)),.p (.lst (a1.right.slots.map zbs)),.p (.val (.int .i64 a1.right.vars)),.p (.lst (a1.right.tests.map zb7)),.p (.lst (a1.keep.nodes.map encI)),.p (.lst (a1.keep.edges.map encI)),.p (.lst (a1.into.nodes.map encI)),.p (.lst (a1.into.edges.map encI)),.p (.val (.bool a1.injective)),.p (.val (.int .i64 a1.condition.kind)),.p (.lst (a1.condition.kids.map zz)),.p (.lst (a1.condition.map.nodes.map encI)),.p (.lst (a1.condition.map.edges.map encI)),.p (.lst (a1.condition.pattern.graph.nodes.map encI)),.p (.lst (a1.condition.pattern.graph.edges.map encEdge)),.p (.lst (a1.condition.pattern.slots.map zbs)),.p (.val (.int .i64 a1.condition.pattern.vars)),.p (.lst (a1.condition.pattern.tests.map zb7))])]) () h (weakL (by simp -implicitDefEqProofs only[go_sem,b3,b5,b6,b7,b8]<;>((repeat' apply And.intro)<;>rfl))) ?_ ?_
      ·intro i9 s9 g9 nxts9 Rs9 his9 hNs9 h
       have hws9:=zt (k:=i9) his9 (by omega)
       try dsimp only at h
       obtain⟨r10,hr10,h⟩:=zm h
       try simp -implicitDefEqProofs only[go_sem,b3,b5,b6,b7,b8,his9,hws9]
       refine callG (zoi a0 a1.right ((i9:Nat):Int) r10 hr10) (by simp -implicitDefEqProofs only[go_sem,b3,b5,b6,b7,b8,his9,hws9]<;>rfl) (zb _) (by first | exact pers | exact scal rfl) ?_
       try simp -implicitDefEqProofs only[go_sem,b3,b5,b6,b7,b8,his9,hws9]
       refine zg (fun b11=>?_) (fun b11=>?_)
       ·replace h:=zd h b11
        try simp -implicitDefEqProofs only[go_sem,b3,b5,b6,b7,b8,his9,hws9,b11]
        exact hNs9 () () h (weakL (by simp -implicitDefEqProofs only[go_sem,b3,b5,b6,b7,b8,his9,hws9,b11]<;>((repeat' apply And.intro)<;>rfl)))
       ·replace h:=ze h b11
        cases h
        try simp -implicitDefEqProofs only[go_sem,b3,b5,b6,b7,b8,his9,hws9,b11]
        all_goals((repeat' apply And.intro)<;>rfl)
      ·intro i9 s9 g9 Rs9 hes9 h
       have hns9:¬ (i9<a1.right.slots.length):=by omega
       try dsimp only at h
       cases h
       try simp -implicitDefEqProofs only[go_sem,b3,b5,b6,b7,b8,hns9]
       all_goals((repeat' apply And.intro)<;>rfl)
   ·replace h:=ze h b6
    cases h
    try simp -implicitDefEqProofs only[go_sem,b3,b5,b6]
    all_goals((repeat' apply And.intro)<;>rfl)
  ·replace h:=ze h b5
   cases h
   try simp -implicitDefEqProofs only[go_sem,b3,b5]
   all_goals((repeat' apply And.intro)<;>rfl)
 ·replace h:=ze h b3
  cases h
  try simp -implicitDefEqProofs only[go_sem,b3]
  all_goals((repeat' apply And.intro)<;>rfl)

theorem znz (a0:zl) (a1:Int) (a2:Int) (r:Int) (h:zfa a0 a1 a2=some r):zh Tryz.prog 94 [.agg [.lst (a0.nodes.map encNode),.lst (a0.edges.map encEdgeT)],.val (.int .i64 a1),.val (.int .i64 a2)] (fun v=>v = .val (.int .i64 r)):=by
 refine zh.ple ?_
 refine zf [] Ty.mixed Tryz.func94 rfl (by kernel_rfl) (by simp[Tryz.ntmps94]) ?_; rw[Tryz.ntmps94,Tryz.results94]
 unfold zfa at h
 obtain⟨r3,hr3,h⟩:=zm h
 try simp -implicitDefEqProofs only[go_sem]
 refine callG (zgh a0 r3 hr3) (by simp -implicitDefEqProofs only[go_sem]<;>rfl) (zb _) (by first | exact pers | exact scal rfl) ?_
 try simp -implicitDefEqProofs only[go_sem]
 refine zg (fun b4=>?_) (fun b4=>?_)
 ·replace h:=zd h b4
  obtain⟨r5,hr5,h⟩:=zm h
  try simp -implicitDefEqProofs only[go_sem,b4]
  refine callG (zk7 a1 0 (IntKind.i64.wrap (((a0.nodes.length:Nat):Int) - 1)) r5 hr5) (by simp -implicitDefEqProofs only[go_sem,b4]<;>rfl) (zb _) (by first | exact pers | exact scal rfl) ?_
  try simp -implicitDefEqProofs only[go_sem,b4]
  refine zq (fun b6=>?_) (fun b6=>?_)
  ·replace h:=zd h b6
   obtain⟨r7,hr7,h⟩:=zm h
   try simp -implicitDefEqProofs only[go_sem,b4,b6]
   refine callG (zk7 a2 0 (IntKind.i64.wrap (((a0.nodes.length:Nat):Int) - 1)) r7 hr7) (by simp -implicitDefEqProofs only[go_sem,b4,b6]<;>rfl) (zb _) (by first | exact pers | exact scal rfl) ?_
   try simp -implicitDefEqProofs only[go_sem,b4,b6]
   refine zg (fun b8=>?_) (fun b8=>?_)
   ·replace h:=zd h b8
    cases h
    try simp -implicitDefEqProofs only[go_sem,b4,b6,b8]
    all_goals((repeat' apply And.intro)<;>rfl)
   ·replace h:=ze h b8
    cases h
    try simp -implicitDefEqProofs only[go_sem,b4,b6,b8]
    all_goals((repeat' apply And.intro)<;>rfl)
  ·replace h:=ze h b6
   cases h
   try simp -implicitDefEqProofs only[go_sem,b4,b6]
   all_goals((repeat' apply And.intro)<;>rfl)
 ·replace h:=ze h b4
  cases h
  try simp -implicitDefEqProofs only[go_sem,b4]
  all_goals((repeat' apply And.intro)<;>rfl)
theorem ztp (a0:zl) (a1:z7) (a2:zb4) (r:Attr×Bool) (h:zhh a0 a1 a2=some r):zh Tryz.prog 186 [.agg [.lst (a0.nodes.map encNode),.lst (a0.edges.map encEdgeT)],.agg (zb2 a1),.agg (zbs a2)] (fun v=>v = .tup [.agg (encAttr r.1),.val (.bool r.2)]):=by
 refine zh.ple ?_
 refine zf [] Ty.mixed Tryz.func186 rfl (by kernel_rfl) (by simp[Tryz.ntmps186]) ?_; rw[Tryz.ntmps186,Tryz.results186]
 unfold zhh at h
 obtain⟨r3,hr3,h⟩:=zm h
 try simp -implicitDefEqProofs only[go_sem]
 refine callG (zgw a2.node 0 (IntKind.i64.wrap (((a1.graph.nodes.length:Nat):Int) - 1)) r3 hr3) (by simp -implicitDefEqProofs only[go_sem]<;>rfl) (zb _) (by first | exact pers | exact scal rfl) ?_
 try simp -implicitDefEqProofs only[go_sem]
 refine zg (fun b4=>?_) (fun b4=>?_)
 ·replace h:=zd h b4
  try simp -implicitDefEqProofs only[go_sem,b4]
  refine zbn [.q,.q,.q,.q,.q,.q,.q,.q,.q,.q,.q,.q,.q,.q] (by kernel_rfl) ?_
  obtain⟨e5,c5a,c5b,g5,q5,h⟩:=zce encI h
  have c5n:=zbv c5a c5b
  obtain⟨r6,hr6,h⟩:=zm h
  try simp -implicitDefEqProofs only[go_sem,b4,c5a,c5b,c5n,g5]
  refine calldG (zqo a0 e5 r6 hr6) (by simp -implicitDefEqProofs only[go_sem,b4,c5a,c5b,c5n,g5]<;>rfl) (zb _) (by first | exact pers | exact scal rfl) ?_
  obtain⟨r7,hr7,h⟩:=zm h
  try simp -implicitDefEqProofs only[go_sem,b4,c5a,c5b,c5n,g5]
  refine callG (zgw a2.attr 0 (IntKind.i64.wrap (((r6.1.length:Nat):Int) - 1)) r7 hr7) (by simp -implicitDefEqProofs only[go_sem,b4,c5a,c5b,c5n,g5]<;>rfl) (zb _) (by first | exact pers | exact scal rfl) ?_
  try simp -implicitDefEqProofs only[go_sem,b4,c5a,c5b,c5n,g5]
  refine zg (fun b8=>?_) (fun b8=>?_)
  ·replace h:=zd h b8
   obtain⟨e9,c9a,c9b,g9,q9,h⟩:=zce encAttr h
   have c9n:=zbv c9a c9b
   cases h
   try simp -implicitDefEqProofs only[go_sem,b4,c5a,c5b,c5n,g5,b8,c9a,c9b,c9n,g9]
   all_goals((repeat' apply And.intro)<;>rfl)
  ·replace h:=ze h b8
   cases h
   try simp -implicitDefEqProofs only[go_sem,b4,c5a,c5b,c5n,g5,b8]
   all_goals((repeat' apply And.intro)<;>rfl)
 ·replace h:=ze h b4
  cases h
  try simp -implicitDefEqProofs only[go_sem,b4]
  all_goals((repeat' apply And.intro)<;>rfl)

theorem zos (a0:List Bool) (a1:Bool) (r:Bool) (h:zfk a0 a1=some r):zh Tryz.prog 188 [.lst (a0.map zk2),.val (.bool a1)] (fun v=>v = .val (.bool r)):=by
 refine zh.ple ?_
 refine zf [] Ty.mixed Tryz.func188 rfl (by kernel_rfl) (by simp[Tryz.ntmps188]) ?_; rw[Tryz.ntmps188,Tryz.results188]
 unfold zfk at h
 obtain⟨r2,hr2,h⟩:=zm h
 try simp -implicitDefEqProofs only[go_sem]
 refine callG (zq1 a0 a1 r2 hr2) (by simp -implicitDefEqProofs only[go_sem]<;>rfl) (zb _) (by first | exact pers | exact scal rfl) ?_
 cases h
 try simp -implicitDefEqProofs only[go_sem]
 all_goals((repeat' apply And.intro)<;>rfl)

theorem zu8 (a0:Int) (a1:Int) (r:Bool) (h:zif a0 a1=some r):zh Tryz.prog 206 [.val (.int .i64 a0),.val (.int .i64 a1)] (fun v=>v = .val (.bool r)):=by
 refine zh.ple ?_
 refine zf [] Ty.mixed Tryz.func206 rfl (by kernel_rfl) (by simp[Tryz.ntmps206]) ?_; rw[Tryz.ntmps206,Tryz.results206]
 unfold zif at h
 obtain⟨r2,hr2,h⟩:=zm h
 try simp -implicitDefEqProofs only[go_sem]
 refine callG (zn2 a0 r2 hr2) (by simp -implicitDefEqProofs only[go_sem]<;>rfl) (zb _) (by first | exact pers | exact scal rfl) ?_
 try simp -implicitDefEqProofs only[go_sem]
 refine zq (fun b3=>?_) (fun b3=>?_)
 ·replace h:=zd h b3
  obtain⟨r4,hr4,h⟩:=zm h
  try simp -implicitDefEqProofs only[go_sem,b3]
  refine callG (zn2 a1 r4 hr4) (by simp -implicitDefEqProofs only[go_sem,b3]<;>rfl) (zb _) (by first | exact pers | exact scal rfl) ?_
  try simp -implicitDefEqProofs only[go_sem,b3]
  refine zq (fun b5=>?_) (fun b5=>?_)
  ·replace h:=zd h b5
   cases h
   try simp -implicitDefEqProofs only[go_sem,b3,b5]
   all_goals((repeat' apply And.intro)<;>rfl)
  ·replace h:=ze h b5
   cases h
   try simp -implicitDefEqProofs only[go_sem,b3,b5]
   all_goals((repeat' apply And.intro)<;>rfl)
 ·replace h:=ze h b3
  cases h
  try simp -implicitDefEqProofs only[go_sem,b3]
  all_goals((repeat' apply And.intro)<;>rfl)

theorem zle (a0:List zd0) (p1:zd0→Option Bool) (k1:FuncId) (fs1 cs1:List PV) (hp1:∀x0 r,p1 x0=some r→zh Tryz.prog k1 (fs1++[.agg (encNode x0)]++cs1) (fun v=>v = .val (.bool r))) (r:Bool) (h:zdw a0 p1=some r):zh Tryz.prog 85 [.lst (a0.map encNode),.clo (.func k1) fs1 cs1] (fun v=>v = .val (.bool r)):=by
 refine zh.ple ?_
 refine zf [] Ty.mixed Tryz.func85 rfl (by kernel_rfl) (by simp[Tryz.ntmps85]) ?_; rw[Tryz.ntmps85,Tryz.results85]
 unfold zdw at h
 obtain⟨r2,hr2,h⟩:=zm h
 try simp -implicitDefEqProofs only[go_sem]
 refine callG (zlz a0 p1 k1 fs1 cs1 hp1 r2 hr2) (by simp -implicitDefEqProofs only[go_sem]<;>rfl) (zb _) (by first | exact pers | exact scal rfl) ?_
 cases h
 try simp -implicitDefEqProofs only[go_sem]
 all_goals((repeat' apply And.intro)<;>rfl)

theorem znu (a0:z8) (a1:zdb) (r:Int) (h:zc8 a0 a1=some r):zh Tryz.prog 174 [.agg [.lst (a0.nodes.map encI),.lst (a0.edges.map encEdge)],.agg [.lst (a1.nodes.map encI),.lst (a1.edges.map encI)]] (fun v=>v = .val (.int .i64 r)):=by
 refine zh.ple ?_
 refine zf [] Ty.mixed Tryz.func174 rfl (by kernel_rfl) (by simp[Tryz.ntmps174]) ?_; rw[Tryz.ntmps174,Tryz.results174]
 unfold zc8 at h
 obtain⟨r2,hr2,h⟩:=zm h
 try simp -implicitDefEqProofs only[go_sem]
 refine callG (zim a1.nodes ((a0.nodes.length:Nat):Int) r2 hr2) (by simp -implicitDefEqProofs only[go_sem]<;>rfl) (zb _) (by first | exact pers | exact scal rfl) ?_
 try simp -implicitDefEqProofs only[go_sem]
 refine zg (fun b3=>?_) (fun b3=>?_)
 ·replace h:=zd h b3
  obtain⟨r4,hr4,h⟩:=zm h
  try simp -implicitDefEqProofs only[go_sem,b3]
  refine callG (zim a1.edges ((a0.edges.length:Nat):Int) r4 hr4) (by simp -implicitDefEqProofs only[go_sem,b3]<;>rfl) (zb _) (by first | exact pers | exact scal rfl) ?_
  try simp -implicitDefEqProofs only[go_sem,b3]
  refine zg (fun b5=>?_) (fun b5=>?_)
  ·replace h:=zd h b5
   obtain⟨fus6,h⟩:=zbg h
   unfold fuel at fus6
   try simp -implicitDefEqProofs only[go_sem,b3,b5]
   refine zbe (fun x:(Nat×(Unit))×(Unit)=>envL [(2,.ptr 2 0),(3,.ptr 3 0),(7,.p (.val (.int .i64 ((x.1.1:Nat):Int))))]) (fun x=>heapL [(2,.box [.p (.lst (a0.nodes.map encI)),.p (.lst (a0.edges.map encEdge))]),(3,.box [.p (.lst (a1.nodes.map encI)),.p (.lst (a1.edges.map encI))])]) () h (weakL (by simp -implicitDefEqProofs only[go_sem,b3,b5]<;>((repeat' apply And.intro)<;>rfl))) ?_ ?_
   ·intro i6 s6 g6 nxts6 Rs6 his6 hNs6 h
    have hws6:=zt (k:=i6) his6 (by omega)
    try dsimp only at h
    try simp -implicitDefEqProofs only[go_sem,b3,b5,his6,hws6]
    refine zbn [.q,.q,.q,.q,.q,.q,.q,.q,.q,.w,.s] (by kernel_rfl) ?_
    obtain⟨e7,c7,g7,q7,h⟩:=zbu encI h
    obtain⟨e8,c8a,c8b,g8,q8,h⟩:=zce encEdge h
    have c8n:=zbv c8a c8b
    obtain⟨r9,hr9,h⟩:=zm h
    try simp -implicitDefEqProofs only[go_sem,b3,b5,his6,hws6,c7,g7,c8a,c8b,c8n,g8]
    refine callG (zkq a1.nodes e8.src r9 hr9) (by simp -implicitDefEqProofs only[go_sem,b3,b5,his6,hws6,c7,g7,c8a,c8b,c8n,g8]<;>rfl) (zb _) (by first | exact pers | exact scal rfl) ?_
    try simp -implicitDefEqProofs only[go_sem,b3,b5,his6,hws6,c7,g7,c8a,c8b,c8n,g8]
    refine zq (fun b10=>?_) (fun b10=>?_)
    ·replace h:=zd h b10
     obtain⟨r11,hr11,h⟩:=zm h
     try simp -implicitDefEqProofs only[go_sem,b3,b5,his6,hws6,c7,g7,c8a,c8b,c8n,g8,b10]
     refine callG (zkq a1.nodes e8.dst r11 hr11) (by simp -implicitDefEqProofs only[go_sem,b3,b5,his6,hws6,c7,g7,c8a,c8b,c8n,g8,b10]<;>rfl) (zb _) (by first | exact pers | exact scal rfl) ?_
     try simp -implicitDefEqProofs only[go_sem,b3,b5,his6,hws6,c7,g7,c8a,c8b,c8n,g8,b10]
     refine zg (fun b12=>?_) (fun b12=>?_)
     ·replace h:=zd h b12
      try simp -implicitDefEqProofs only[go_sem,b3,b5,his6,hws6,c7,g7,c8a,c8b,c8n,g8,b10,b12]
      exact hNs6 () () h (weakL (by simp -implicitDefEqProofs only[go_sem,b3,b5,his6,hws6,c7,g7,c8a,c8b,c8n,g8,b10,b12]<;>((repeat' apply And.intro)<;>rfl)))
     ·replace h:=ze h b12
      cases h
      try simp -implicitDefEqProofs only[go_sem,b3,b5,his6,hws6,c7,g7,c8a,c8b,c8n,g8,b10,b12]
      all_goals((repeat' apply And.intro)<;>rfl)
    ·replace h:=ze h b10
     cases h
     try simp -implicitDefEqProofs only[go_sem,b3,b5,his6,hws6,c7,g7,c8a,c8b,c8n,g8,b10]
     all_goals((repeat' apply And.intro)<;>rfl)
   ·intro i6 s6 g6 Rs6 hes6 h
    have hns6:¬ (i6<a1.edges.length):=by omega
    try dsimp only at h
    cases h
    try simp -implicitDefEqProofs only[go_sem,b3,b5,hns6]
    all_goals((repeat' apply And.intro)<;>rfl)
  ·replace h:=ze h b5
   cases h
   try simp -implicitDefEqProofs only[go_sem,b3,b5]
   all_goals((repeat' apply And.intro)<;>rfl)
 ·replace h:=ze h b3
  cases h
  try simp -implicitDefEqProofs only[go_sem,b3]
  all_goals((repeat' apply And.intro)<;>rfl)
theorem zf7 (a0:List Int) (p1:Int→Option Bool) (k1:FuncId) (fs1 cs1:List PV) (hp1:∀x0 r,p1 x0=some r→zh Tryz.prog k1 (fs1++[.val (.int .i64 x0)]++cs1) (fun v=>v = .val (.bool r))) (r:Bool) (h:zcy a0 p1=some r):zh Tryz.prog 45 [.lst (a0.map encI),.clo (.func k1) fs1 cs1] (fun v=>v = .val (.bool r)):=by
 refine zh.ple ?_
 refine zf [] Ty.mixed Tryz.func45 rfl (by kernel_rfl) (by simp[Tryz.ntmps45]) ?_; rw[Tryz.ntmps45,Tryz.results45]
 unfold zcy at h
 obtain⟨r2,hr2,h⟩:=zm h
 try simp -implicitDefEqProofs only[go_sem]
 refine callG (zoj a0 p1 k1 fs1 cs1 hp1 r2 hr2) (by simp -implicitDefEqProofs only[go_sem]<;>rfl) (zb _) (by first | exact pers | exact scal rfl) ?_
 cases h
 try simp -implicitDefEqProofs only[go_sem]
 all_goals((repeat' apply And.intro)<;>rfl)

theorem zgr (a0:Int) (a1:List Int) (r:(List Int)) (h:zdf a0 a1=some r):zbt Tryz.prog 132 [.val (.int .i64 a0),.lst (a1.map encI)] (fun v=>v = .row 3 1 (r.map encI)):=by
 refine zbt.rle ?_
 refine zbx [19] Ty.mixed Tryz.func132 rfl (by kernel_rfl) (by simp[Tryz.ntmps132]) ?_; rw[Tryz.ntmps132,Tryz.results132]
 unfold zdf at h
 obtain⟨fus2,h⟩:=zbg h
 unfold fuel at fus2
 try simp -implicitDefEqProofs only[go_sem]
 refine zbe (fun x:(Nat×((List Int)))×(Nat)=>envL [(0,.p (.val (.int .i64 a0))),(1,.p (.lst (a1.map encI))),(5,.row 4975 x.2),(6,.p (.val (.int .i64 ((x.1.1:Nat):Int))))]) (fun x=>heapL [(4975,.row x.2 3 1 (x.1.2.map encI))]) 0 h (by refine Weak.trans (zhi 5 4975 3 1 rfl rfl (by decide)) ?_; exact (weakL (by simp -implicitDefEqProofs only[go_sem]<;>((repeat' apply And.intro)<;>rfl)))) ?_ ?_
 ·intro i2 s2 g2 nxts2 Rs2 his2 hNs2 h
  have hws2:=zt (k:=i2) his2 (by omega)
  have hjs2:((i2:Nat):Int)<a0:=by omega
  try dsimp only at h
  obtain⟨r3,hr3,h⟩:=zm h
  try simp -implicitDefEqProofs only[go_sem,his2,hws2,hjs2]
  refine callG (zpg a1 ((i2:Nat):Int) r3 hr3) (by simp -implicitDefEqProofs only[go_sem,his2,hws2,hjs2]<;>rfl) (zb _) (by first | exact pers | exact scal rfl) ?_
  try simp -implicitDefEqProofs only[go_sem,his2,hws2,hjs2]
  refine zg (fun b4=>?_) (fun b4=>?_)
  ·replace h:=zd h b4
   try simp -implicitDefEqProofs only[go_sem,his2,hws2,hjs2,b4]
   exact hNs2 s2 g2 h (weakL (by simp -implicitDefEqProofs only[go_sem,his2,hws2,hjs2,b4]<;>((repeat' apply And.intro)<;>rfl)))
  ·replace h:=ze h b4
   obtain⟨c5,h⟩:=zbg h
   have k6:=eq_true (show (s2.length+1) * 8≤140737488355328 by omega)
   have a7:=zfc encI s2 [((i2:Nat):Int)] (c:=[[.val (.int .i64 ((i2:Nat):Int))]]) rfl
   try simp -implicitDefEqProofs only[go_sem,his2,hws2,hjs2,b4,c5,k6,a7]
   exact hNs2 (s2++[((i2:Nat):Int)]) (g2+1) h (weakL (by simp -implicitDefEqProofs only[go_sem,his2,hws2,hjs2,b4,c5,k6,a7]<;>((repeat' apply And.intro)<;>rfl)))
 ·intro i2 s2 g2 Rs2 hes2 h
  have hns2:¬ (((i2:Nat):Int)<a0):=by omega
  try dsimp only at h
  cases h
  try simp -implicitDefEqProofs only[go_sem,hns2]
  refine⟨by decide,_,.refl _,?_⟩
  simp -implicitDefEqProofs only[go_sem,hns2]<;>((repeat' apply And.intro)<;>rfl)

theorem znv (a0:zp) (r:Bool) (h:ze4 a0=some r):zh Tryz.prog 261 [.agg (zz a0)] (fun v=>v = .val (.bool r)):=by
 refine zh.ple ?_
 refine zf [] Ty.mixed Tryz.func261 rfl (by kernel_rfl) (by simp[Tryz.ntmps261]) ?_; rw[Tryz.ntmps261,Tryz.results261]
 unfold ze4 at h
 try simp -implicitDefEqProofs only[go_sem]
 refine zc (fun b1=>?_) (fun b1=>?_)
 ·replace h:=zd h b1
  try simp -implicitDefEqProofs only[go_sem,b1]
  refine zq (fun b2=>?_) (fun b2=>?_)
  ·replace h:=zd h b2
   obtain⟨r3,hr3,h⟩:=zm h
   try simp -implicitDefEqProofs only[go_sem,b1,b2]
   refine callG (zgb a0 r3 hr3) (by simp -implicitDefEqProofs only[go_sem,b1,b2]<;>rfl) (zb _) (by first | exact pers | exact scal rfl) ?_
   cases h
   try simp -implicitDefEqProofs only[go_sem,b1,b2]
   all_goals((repeat' apply And.intro)<;>rfl)
  ·replace h:=ze h b2
   cases h
   try simp -implicitDefEqProofs only[go_sem,b1,b2]
   all_goals((repeat' apply And.intro)<;>rfl)
 ·replace h:=ze h b1
  try simp -implicitDefEqProofs only[go_sem,b1]
  refine zc (fun b4=>?_) (fun b4=>?_)
  ·replace h:=zd h b4
   try simp -implicitDefEqProofs only[go_sem,b1,b4]
   refine zq (fun b5=>?_) (fun b5=>?_)
   ·replace h:=zd h b5
    obtain⟨r6,hr6,h⟩:=zm h
    try simp -implicitDefEqProofs only[go_sem,b1,b4,b5]
    refine callG (zgb a0 r6 hr6) (by simp -implicitDefEqProofs only[go_sem,b1,b4,b5]<;>rfl) (zb _) (by first | exact pers | exact scal rfl) ?_
    cases h
    try simp -implicitDefEqProofs only[go_sem,b1,b4,b5]
    all_goals((repeat' apply And.intro)<;>rfl)
   ·replace h:=ze h b5
    cases h
    try simp -implicitDefEqProofs only[go_sem,b1,b4,b5]
    all_goals((repeat' apply And.intro)<;>rfl)
  ·replace h:=ze h b4
   try simp -implicitDefEqProofs only[go_sem,b1,b4]
   refine zc (fun b7=>?_) (fun b7=>?_)
   ·replace h:=zd h b7
    try simp -implicitDefEqProofs only[go_sem,b1,b4,b7]
    refine zq (fun b8=>?_) (fun b8=>?_)
    ·replace h:=zd h b8
     obtain⟨r9,hr9,h⟩:=zm h
     try simp -implicitDefEqProofs only[go_sem,b1,b4,b7,b8]
     refine callG (zgb a0 r9 hr9) (by simp -implicitDefEqProofs only[go_sem,b1,b4,b7,b8]<;>rfl) (zb _) (by first | exact pers | exact scal rfl) ?_
     cases h
     try simp -implicitDefEqProofs only[go_sem,b1,b4,b7,b8]
     all_goals((repeat' apply And.intro)<;>rfl)
    ·replace h:=ze h b8
     cases h
     try simp -implicitDefEqProofs only[go_sem,b1,b4,b7,b8]
     all_goals((repeat' apply And.intro)<;>rfl)
   ·replace h:=ze h b7
    try simp -implicitDefEqProofs only[go_sem,b1,b4,b7]
    refine zc (fun b10=>?_) (fun b10=>?_)
    ·replace h:=zd h b10
     try simp -implicitDefEqProofs only[go_sem,b1,b4,b7,b10]
     refine zq (fun b11=>?_) (fun b11=>?_)
     ·replace h:=zd h b11
      obtain⟨r12,hr12,h⟩:=zm h
      try simp -implicitDefEqProofs only[go_sem,b1,b4,b7,b10,b11]
      refine callG (zgb a0 r12 hr12) (by simp -implicitDefEqProofs only[go_sem,b1,b4,b7,b10,b11]<;>rfl) (zb _) (by first | exact pers | exact scal rfl) ?_
      cases h
      try simp -implicitDefEqProofs only[go_sem,b1,b4,b7,b10,b11]
      all_goals((repeat' apply And.intro)<;>rfl)
     ·replace h:=ze h b11
      cases h
      try simp -implicitDefEqProofs only[go_sem,b1,b4,b7,b10,b11]
      all_goals((repeat' apply And.intro)<;>rfl)
    ·replace h:=ze h b10
     try simp -implicitDefEqProofs only[go_sem,b1,b4,b7,b10]
     refine zc (fun b13=>?_) (fun b13=>?_)
     ·replace h:=zd h b13
      cases h
      try simp -implicitDefEqProofs only[go_sem,b1,b4,b7,b10,b13]
      all_goals((repeat' apply And.intro)<;>rfl)
     ·replace h:=ze h b13
      cases h
      try simp -implicitDefEqProofs only[go_sem,b1,b4,b7,b10,b13]
      all_goals((repeat' apply And.intro)<;>rfl)

theorem ztm (a0:Int) (a1:zc3) (r:Int) (h:zhk a0 a1=some r):zh Tryz.prog 234 [.val (.int .i64 a0),.agg (zb7 a1)] (fun v=>v = .val (.int .i64 r)):=by
 refine zh.ple ?_
 refine zf [] Ty.mixed Tryz.func234 rfl (by kernel_rfl) (by simp[Tryz.ntmps234]) ?_; rw[Tryz.ntmps234,Tryz.results234]
 unfold zhk at h
 try simp -implicitDefEqProofs only[go_sem]
 refine zw (fun b2=>?_) (fun b2=>?_)
 ·replace h:=zd h b2
  obtain⟨r3,hr3,h⟩:=zm h
  try simp -implicitDefEqProofs only[go_sem,b2]
  refine callG (zh5 a0 a1.left r3 hr3) (by simp -implicitDefEqProofs only[go_sem,b2]<;>rfl) (zb _) (by first | exact pers | exact scal rfl) ?_
  try simp -implicitDefEqProofs only[go_sem,b2]
  refine zq (fun b4=>?_) (fun b4=>?_)
  ·replace h:=zd h b4
   obtain⟨r5,hr5,h⟩:=zm h
   try simp -implicitDefEqProofs only[go_sem,b2,b4]
   refine callG (zh5 a0 a1.right r5 hr5) (by simp -implicitDefEqProofs only[go_sem,b2,b4]<;>rfl) (zb _) (by first | exact pers | exact scal rfl) ?_
   try simp -implicitDefEqProofs only[go_sem,b2,b4]
   refine zg (fun b6=>?_) (fun b6=>?_)
   ·replace h:=zd h b6
    cases h
    try simp -implicitDefEqProofs only[go_sem,b2,b4,b6]
    all_goals((repeat' apply And.intro)<;>rfl)
   ·replace h:=ze h b6
    cases h
    try simp -implicitDefEqProofs only[go_sem,b2,b4,b6]
    all_goals((repeat' apply And.intro)<;>rfl)
  ·replace h:=ze h b4
   cases h
   try simp -implicitDefEqProofs only[go_sem,b2,b4]
   all_goals((repeat' apply And.intro)<;>rfl)
 ·replace h:=ze h b2
  try simp -implicitDefEqProofs only[go_sem,b2]
  refine zg (fun b7=>?_) (fun b7=>?_)
  ·replace h:=zd h b7
   obtain⟨r8,hr8,h⟩:=zm h
   try simp -implicitDefEqProofs only[go_sem,b2,b7]
   refine callG (zh5 a0 a1.left r8 hr8) (by simp -implicitDefEqProofs only[go_sem,b2,b7]<;>rfl) (zb _) (by first | exact pers | exact scal rfl) ?_
   try simp -implicitDefEqProofs only[go_sem,b2,b7]
   refine zq (fun b9=>?_) (fun b9=>?_)
   ·replace h:=zd h b9
    obtain⟨r10,hr10,h⟩:=zm h
    try simp -implicitDefEqProofs only[go_sem,b2,b7,b9]
    refine callG (zh5 a0 a1.right r10 hr10) (by simp -implicitDefEqProofs only[go_sem,b2,b7,b9]<;>rfl) (zb _) (by first | exact pers | exact scal rfl) ?_
    try simp -implicitDefEqProofs only[go_sem,b2,b7,b9]
    refine zg (fun b11=>?_) (fun b11=>?_)
    ·replace h:=zd h b11
     cases h
     try simp -implicitDefEqProofs only[go_sem,b2,b7,b9,b11]
     all_goals((repeat' apply And.intro)<;>rfl)
    ·replace h:=ze h b11
     cases h
     try simp -implicitDefEqProofs only[go_sem,b2,b7,b9,b11]
     all_goals((repeat' apply And.intro)<;>rfl)
   ·replace h:=ze h b9
    cases h
    try simp -implicitDefEqProofs only[go_sem,b2,b7,b9]
    all_goals((repeat' apply And.intro)<;>rfl)
  ·replace h:=ze h b7
   cases h
   try simp -implicitDefEqProofs only[go_sem,b2,b7]
   all_goals((repeat' apply And.intro)<;>rfl)

theorem zdm (a0:List zp) (p1:zp→Option Bool) (k1:FuncId) (fs1 cs1:List PV) (hp1:∀x0 r,p1 x0=some r→zh Tryz.prog k1 (fs1++[.agg (zz x0)]++cs1) (fun v=>v = .val (.bool r))) (r:Bool) (h:zb6 a0 p1=some r):zh Tryz.prog 273 [.lst (a0.map zz),.clo (.func k1) fs1 cs1] (fun v=>v = .val (.bool r)):=by
 refine zh.ple ?_
 refine zf [] Ty.mixed Tryz.func273 rfl (by kernel_rfl) (by simp[Tryz.ntmps273]) ?_; rw[Tryz.ntmps273,Tryz.results273]
 unfold zb6 at h
 obtain⟨r2,hr2,h⟩:=zm h
 try simp -implicitDefEqProofs only[go_sem]
 refine callG (zln a0 p1 k1 fs1 cs1 hp1 r2 hr2) (by simp -implicitDefEqProofs only[go_sem]<;>rfl) (zb _) (by first | exact pers | exact scal rfl) ?_
 cases h
 try simp -implicitDefEqProofs only[go_sem]
 all_goals((repeat' apply And.intro)<;>rfl)

theorem zo9 (a0:Int) (a1:zc3) (r:Int) (h:zd8 a0 a1=some r):zh Tryz.prog 213 [.val (.int .i64 a0),.agg (zb7 a1)] (fun v=>v = .val (.int .i64 r)):=by
 refine zh.ple ?_
 refine zf [] Ty.mixed Tryz.func213 rfl (by kernel_rfl) (by simp[Tryz.ntmps213]) ?_; rw[Tryz.ntmps213,Tryz.results213]
 unfold zd8 at h
 try simp -implicitDefEqProofs only[go_sem]
 refine zw (fun b2=>?_) (fun b2=>?_)
 ·replace h:=zd h b2
  obtain⟨r3,hr3,h⟩:=zm h
  try simp -implicitDefEqProofs only[go_sem,b2]
  refine callG (zga a0 a1.left r3 hr3) (by simp -implicitDefEqProofs only[go_sem,b2]<;>rfl) (zb _) (by first | exact pers | exact scal rfl) ?_
  try simp -implicitDefEqProofs only[go_sem,b2]
  refine zg (fun b4=>?_) (fun b4=>?_)
  ·replace h:=zd h b4
   obtain⟨r5,hr5,h⟩:=zm h
   try simp -implicitDefEqProofs only[go_sem,b2,b4]
   refine callG (zga a0 a1.right r5 hr5) (by simp -implicitDefEqProofs only[go_sem,b2,b4]<;>rfl) (zb _) (by first | exact pers | exact scal rfl) ?_
   cases h
   try simp -implicitDefEqProofs only[go_sem,b2,b4]
   all_goals((repeat' apply And.intro)<;>rfl)
  ·replace h:=ze h b4
   cases h
   try simp -implicitDefEqProofs only[go_sem,b2,b4]
   all_goals((repeat' apply And.intro)<;>rfl)
 ·replace h:=ze h b2
  try simp -implicitDefEqProofs only[go_sem,b2]
  refine zg (fun b6=>?_) (fun b6=>?_)
  ·replace h:=zd h b6
   obtain⟨r7,hr7,h⟩:=zm h
   try simp -implicitDefEqProofs only[go_sem,b2,b6]
   refine callG (zga a0 a1.left r7 hr7) (by simp -implicitDefEqProofs only[go_sem,b2,b6]<;>rfl) (zb _) (by first | exact pers | exact scal rfl) ?_
   try simp -implicitDefEqProofs only[go_sem,b2,b6]
   refine zg (fun b8=>?_) (fun b8=>?_)
   ·replace h:=zd h b8
    obtain⟨r9,hr9,h⟩:=zm h
    try simp -implicitDefEqProofs only[go_sem,b2,b6,b8]
    refine callG (zga a0 a1.right r9 hr9) (by simp -implicitDefEqProofs only[go_sem,b2,b6,b8]<;>rfl) (zb _) (by first | exact pers | exact scal rfl) ?_
    cases h
    try simp -implicitDefEqProofs only[go_sem,b2,b6,b8]
    all_goals((repeat' apply And.intro)<;>rfl)
   ·replace h:=ze h b8
    cases h
    try simp -implicitDefEqProofs only[go_sem,b2,b6,b8]
    all_goals((repeat' apply And.intro)<;>rfl)
  ·replace h:=ze h b6
   cases h
   try simp -implicitDefEqProofs only[go_sem,b2,b6]
   all_goals((repeat' apply And.intro)<;>rfl)

theorem zl4 (a0:z8) (a1:z8) (a2:zby) (r:Bool) (h:zea a0 a1 a2=some r):zh Tryz.prog 217 [.agg [.lst (a0.nodes.map encI),.lst (a0.edges.map encEdge)],.agg [.lst (a1.nodes.map encI),.lst (a1.edges.map encEdge)],.agg [.lst (a2.nodes.map encI),.lst (a2.edges.map encI)]] (fun v=>v = .val (.bool r)):=by
 refine zh.ple ?_
 refine zf [] Ty.mixed Tryz.func217 rfl (by kernel_rfl) (by simp[Tryz.ntmps217]) ?_; rw[Tryz.ntmps217,Tryz.results217]
 unfold zea at h
 obtain⟨r3,hr3,h⟩:=zm h
 try simp -implicitDefEqProofs only[go_sem]
 refine callG (zhp a0 a1 a2 r3 hr3) (by simp -implicitDefEqProofs only[go_sem]<;>rfl) (zb _) (by first | exact pers | exact scal rfl) ?_
 try simp -implicitDefEqProofs only[go_sem]
 refine zq (fun b4=>?_) (fun b4=>?_)
 ·replace h:=zd h b4
  obtain⟨r5,hr5,h⟩:=zm h
  try simp -implicitDefEqProofs only[go_sem,b4]
  refine callG (zfl a2.nodes r5 hr5) (by simp -implicitDefEqProofs only[go_sem,b4]<;>rfl) (zb _) (by first | exact pers | exact scal rfl) ?_
  try simp -implicitDefEqProofs only[go_sem,b4]
  refine zq (fun b6=>?_) (fun b6=>?_)
  ·replace h:=zd h b6
   obtain⟨r7,hr7,h⟩:=zm h
   try simp -implicitDefEqProofs only[go_sem,b4,b6]
   refine callG (zfl a2.edges r7 hr7) (by simp -implicitDefEqProofs only[go_sem,b4,b6]<;>rfl) (zb _) (by first | exact pers | exact scal rfl) ?_
   cases h
   try simp -implicitDefEqProofs only[go_sem,b4,b6]
   all_goals((repeat' apply And.intro)<;>rfl)
  ·replace h:=ze h b6
   cases h
   try simp -implicitDefEqProofs only[go_sem,b4,b6]
   all_goals((repeat' apply And.intro)<;>rfl)
 ·replace h:=ze h b4
  cases h
  try simp -implicitDefEqProofs only[go_sem,b4]
  all_goals((repeat' apply And.intro)<;>rfl)

theorem zjr (a0:List zi) (a1:zi) (r:Bool) (h:zdh a0 a1=some r):zh Tryz.prog 40 [.lst (a0.map zn),.agg (zn a1)] (fun v=>v = .val (.bool r)):=by
 refine zh.ple ?_
 refine zf [] Ty.mixed Tryz.func40 rfl (by kernel_rfl) (by simp[Tryz.ntmps40]) ?_; rw[Tryz.ntmps40,Tryz.results40]
 unfold zdh at h
 obtain⟨r2,hr2,h⟩:=zm h
 try simp -implicitDefEqProofs only[go_sem]
 refine callG (zo7 a0 a1 r2 hr2) (by simp -implicitDefEqProofs only[go_sem]<;>rfl) (zb _) (by first | exact pers | exact scal rfl) ?_
 cases h
 try simp -implicitDefEqProofs only[go_sem]
 all_goals((repeat' apply And.intro)<;>rfl)
theorem zs7 (a0:List zo) (a1:Int) (r:(List Int)×(List Int)×Bool) (h:zhg a0 a1=some r):zbt Tryz.prog 39 [.lst (a0.map zbd),.val (.int .i64 a1)] (fun v=>v = .tup [.row 3 1 (r.1.map encI),.row 3 1 (r.2.1.map encI),.p (.val (.bool r.2.2))]):=by
 refine zbt.rle ?_
 refine zbx [18,20] Ty.mixed Tryz.func39 rfl (by kernel_rfl) (by simp[Tryz.ntmps39]) ?_; rw[Tryz.ntmps39,Tryz.results39]
 unfold zhg at h
 try simp -implicitDefEqProofs only[go_sem]
 refine zbn [.q,.q,.w,.q,.w,.q,.q] (by kernel_rfl) ?_
 obtain⟨c2,h⟩:=zbg h
 have k3:=eq_true (show ((a0.length:Nat):Int) * ((8:Nat):Int)≤140737488355328 by omega)
 have k4:=eq_true (show (0:Int)≤((a0.length:Nat):Int) by omega)
 have m5:=zvh encI a0.length 0 (c:=[.val (.int .i64 0)]) rfl
 obtain⟨⟨c6a,c6b⟩,h⟩:=zbg h
 have k7:=eq_true (show a1 * ((8:Nat):Int)≤140737488355328 by omega)
 have m8:=zvh encI a1.toNat 0 (c:=[.val (.int .i64 0)]) rfl
 obtain⟨r9,hr9,h⟩:=zm h
 try simp -implicitDefEqProofs only[go_sem,c2,k3,k4,m5,c6a,c6b,k7,m8]
 refine callG (zjh a0 (fun x10=>zgs x10) 69 [] [] (fun x10 r h=>zrf x10 r h) r9 hr9) (by simp -implicitDefEqProofs only[go_sem,c2,k3,k4,m5,c6a,c6b,k7,m8]<;>rfl) (zb _) (by first | exact pers | exact scal rfl) ?_
 try simp -implicitDefEqProofs only[go_sem,c2,k3,k4,m5,c6a,c6b,k7,m8]
 refine zc (fun b11=>?_) (fun b11=>?_)
 ·replace h:=zd h b11
  cases h
  try simp -implicitDefEqProofs only[go_sem,c2,k3,k4,m5,c6a,c6b,k7,m8,b11]
  refine⟨by decide,_,.refl _,?_⟩
  simp -implicitDefEqProofs only[go_sem,c2,k3,k4,m5,c6a,c6b,k7,m8,b11]<;>((repeat' apply And.intro)<;>rfl)
 ·replace h:=ze h b11
  try simp -implicitDefEqProofs only[go_sem,c2,k3,k4,m5,c6a,c6b,k7,m8,b11]
  refine zkt (fun x:(Bool×(List Int)×(List Int))×(Nat×Nat)=>envL [(0,.p (.lst (a0.map zbd))),(7,.row 18 x.2.2),(8,.row 20 x.2.1),(9,.p (.val (.bool x.1.1)))]) (fun x=>heapL [(18,.row x.2.2 3 1 (x.1.2.2.map encI)),(20,.row x.2.1 3 1 (x.1.2.1.map encI))]) (0,0) h (weakL (by simp -implicitDefEqProofs only[go_sem,c2,k3,k4,m5,c6a,c6b,k7,m8,b11]<;>((repeat' apply And.intro)<;>rfl))) ?_
  intro s12 g12 nxts12 Rs12 hNs12 h
  try dsimp only at h
  try simp -implicitDefEqProofs only[go_sem,c2,k3,k4,m5,c6a,c6b,k7,m8,b11]
  refine zc (fun b13=>?_) (fun b13=>?_)
  ·replace h:=zd h b13
   obtain⟨fus14,h⟩:=zbg h
   unfold fuel at fus14
   try simp -implicitDefEqProofs only[go_sem,c2,k3,k4,m5,c6a,c6b,k7,m8,b11,b13]
   refine zbe (fun x:(Nat×(Bool×(List Int)×(List Int)))×(Nat×Nat)=>envL [(0,.p (.lst (a0.map zbd))),(7,.row 18 x.2.2),(8,.row 20 x.2.1),(9,.p (.val (.bool x.1.2.1))),(24,.p (.lst (a0.map zbd))),(25,.p (.val (.int .i64 ((a0.length:Nat):Int)))),(26,.p (.val (.int .i64 ((x.1.1:Nat):Int))))]) (fun x=>heapL [(18,.row x.2.2 3 1 (x.1.2.2.2.map encI)),(20,.row x.2.1 3 1 (x.1.2.2.1.map encI))]) (g12.1,g12.2) h (weakL (by simp -implicitDefEqProofs only[go_sem,c2,k3,k4,m5,c6a,c6b,k7,m8,b11,b13]<;>((repeat' apply And.intro)<;>rfl))) ?_ ?_
   ·intro i14 s14 g14 nxts14 Rs14 his14 hNs14 h
    have hws14:=zt (k:=i14) his14 (by omega)
    try dsimp only at h
    obtain⟨e15,c15,g15,q15,h⟩:=zbu zbd h
    obtain⟨fus16,h⟩:=zbg h
    unfold fuel at fus16
    try simp -implicitDefEqProofs only[go_sem,c2,k3,k4,m5,c6a,c6b,k7,m8,b11,b13,his14,hws14,c15,g15]
    refine zbe (fun x:(Nat×(Bool×(List Int)))×(Nat)=>envL [(0,.p (.lst (a0.map zbd))),(7,.row 18 x.2),(8,.row 20 g14.1),(9,.p (.val (.bool x.1.2.1))),(10,.p (.val (.int .i64 ((i14:Nat):Int)))),(11,.ptr 11 0),(24,.p (.lst (a0.map zbd))),(25,.p (.val (.int .i64 ((a0.length:Nat):Int)))),(26,.p (.val (.int .i64 ((i14:Nat):Int)))),(32,.p (.lst (e15.deletes.map encI))),(33,.p (.val (.int .i64 ((e15.deletes.length:Nat):Int)))),(34,.p (.val (.int .i64 ((x.1.1:Nat):Int))))]) (fun x=>heapL [(18,.row x.2 3 1 (x.1.2.2.map encI)),(20,.row g14.1 3 1 (s14.2.1.map encI)),(11,.box [.p (.lst (e15.deletes.map encI)),.p (.lst (e15.creates.map encI))])]) g14.2 h (weakL (by simp -implicitDefEqProofs only[go_sem,c2,k3,k4,m5,c6a,c6b,k7,m8,b11,b13,his14,hws14,c15,g15]<;>((repeat' apply And.intro)<;>rfl))) ?_ ?_
    ·intro i16 s16 g16 nxts16 Rs16 his16 hNs16 h
     have hws16:=zt (k:=i16) his16 (by omega)
     try dsimp only at h
     obtain⟨e17,c17,g17,q17,h⟩:=zbu encI h
     try simp -implicitDefEqProofs only[go_sem,c2,k3,k4,m5,c6a,c6b,k7,m8,b11,b13,his14,hws14,c15,g15,his16,hws16,c17,g17]
     refine zbn [.q,.q,.q,.q,.q,.q,.q,.q,.q] (by kernel_rfl) ?_
     obtain⟨e18,c18a,c18b,g18,q18,h⟩:=zce encI h
     have c18n:=zbv c18a c18b
     obtain⟨e19,c19,g19,q19,h⟩:=zbu encI h
     try simp -implicitDefEqProofs only[go_sem,c2,k3,k4,m5,c6a,c6b,k7,m8,b11,b13,his14,hws14,c15,g15,his16,hws16,c17,g17,c18a,c18b,c18n,g18,c19,g19]
     refine zc (fun b20=>?_) (fun b20=>?_)
     ·replace h:=zd h b20
      have s21:=zs8 encI s16.2 i14 e18 (c:=[.val (.int .i64 e18)]) rfl
      try simp -implicitDefEqProofs only[go_sem,c2,k3,k4,m5,c6a,c6b,k7,m8,b11,b13,his14,hws14,c15,g15,his16,hws16,c17,g17,c18a,c18b,c18n,g18,c19,g19,b20,s21]
      exact hNs16 (true,(s16.2.set i14 e18)) g16 h (weakL (by simp -implicitDefEqProofs only[go_sem,c2,k3,k4,m5,c6a,c6b,k7,m8,b11,b13,his14,hws14,c15,g15,his16,hws16,c17,g17,c18a,c18b,c18n,g18,c19,g19,b20,s21]<;>((repeat' apply And.intro)<;>rfl)))
     ·replace h:=ze h b20
      try simp -implicitDefEqProofs only[go_sem,c2,k3,k4,m5,c6a,c6b,k7,m8,b11,b13,his14,hws14,c15,g15,his16,hws16,c17,g17,c18a,c18b,c18n,g18,c19,g19,b20]
      exact hNs16 (s16.1,s16.2) g16 h (weakL (by simp -implicitDefEqProofs only[go_sem,c2,k3,k4,m5,c6a,c6b,k7,m8,b11,b13,his14,hws14,c15,g15,his16,hws16,c17,g17,c18a,c18b,c18n,g18,c19,g19,b20]<;>((repeat' apply And.intro)<;>rfl)))
    ·intro i16 s16 g16 Rs16 hes16 h
     have hns16:¬ (i16<e15.deletes.length):=by omega
     try dsimp only at h
     obtain⟨fus22,h⟩:=zbg h
     unfold fuel at fus22
     try simp -implicitDefEqProofs only[go_sem,c2,k3,k4,m5,c6a,c6b,k7,m8,b11,b13,his14,hws14,c15,g15,hns16]
     refine zbe (fun x:(Nat×(Bool×(List Int)))×(Nat)=>envL [(0,.p (.lst (a0.map zbd))),(7,.row 18 g16),(8,.row 20 x.2),(9,.p (.val (.bool x.1.2.1))),(10,.p (.val (.int .i64 ((i14:Nat):Int)))),(24,.p (.lst (a0.map zbd))),(25,.p (.val (.int .i64 ((a0.length:Nat):Int)))),(26,.p (.val (.int .i64 ((i14:Nat):Int)))),(56,.p (.lst (e15.creates.map encI))),(57,.p (.val (.int .i64 ((e15.creates.length:Nat):Int)))),(58,.p (.val (.int .i64 ((x.1.1:Nat):Int))))]) (fun x=>heapL [(18,.row g16 3 1 (s16.2.map encI)),(20,.row x.2 3 1 (x.1.2.2.map encI))]) g14.1 h (weakL (by simp -implicitDefEqProofs only[go_sem,c2,k3,k4,m5,c6a,c6b,k7,m8,b11,b13,his14,hws14,c15,g15,hns16]<;>((repeat' apply And.intro)<;>rfl))) ?_ ?_
     ·intro i22 s22 g22 nxts22 Rs22 his22 hNs22 h
      have hws22:=zt (k:=i22) his22 (by omega)
      try dsimp only at h
      obtain⟨e23,c23,g23,q23,h⟩:=zbu encI h
      try simp -implicitDefEqProofs only[go_sem,c2,k3,k4,m5,c6a,c6b,k7,m8,b11,b13,his14,hws14,c15,g15,hns16,his22,hws22,c23,g23]
      refine zbn [.q,.q,.q,.q,.q,.q,.q,.q,.q] (by kernel_rfl) ?_
      obtain⟨e24,c24a,c24b,g24,q24,h⟩:=zce encI h
      have c24n:=zbv c24a c24b
      obtain⟨e25,c25,g25,q25,h⟩:=zbu encI h
      try simp -implicitDefEqProofs only[go_sem,c2,k3,k4,m5,c6a,c6b,k7,m8,b11,b13,his14,hws14,c15,g15,hns16,his22,hws22,c23,g23,c24a,c24b,c24n,g24,c25,g25]
      refine zc (fun b26=>?_) (fun b26=>?_)
      ·replace h:=zd h b26
       have s27:=zs8 encI s22.2 e23.toNat (IntKind.i64.wrap (e25+1)) (c:=[.val (.int .i64 (IntKind.i64.wrap (e25+1)))]) rfl
       try simp -implicitDefEqProofs only[go_sem,c2,k3,k4,m5,c6a,c6b,k7,m8,b11,b13,his14,hws14,c15,g15,hns16,his22,hws22,c23,g23,c24a,c24b,c24n,g24,c25,g25,b26,s27]
       exact hNs22 (true,(s22.2.set e23.toNat (IntKind.i64.wrap (e25+1)))) g22 h (weakL (by simp -implicitDefEqProofs only[go_sem,c2,k3,k4,m5,c6a,c6b,k7,m8,b11,b13,his14,hws14,c15,g15,hns16,his22,hws22,c23,g23,c24a,c24b,c24n,g24,c25,g25,b26,s27]<;>((repeat' apply And.intro)<;>rfl)))
      ·replace h:=ze h b26
       try simp -implicitDefEqProofs only[go_sem,c2,k3,k4,m5,c6a,c6b,k7,m8,b11,b13,his14,hws14,c15,g15,hns16,his22,hws22,c23,g23,c24a,c24b,c24n,g24,c25,g25,b26]
       exact hNs22 (s22.1,s22.2) g22 h (weakL (by simp -implicitDefEqProofs only[go_sem,c2,k3,k4,m5,c6a,c6b,k7,m8,b11,b13,his14,hws14,c15,g15,hns16,his22,hws22,c23,g23,c24a,c24b,c24n,g24,c25,g25,b26]<;>((repeat' apply And.intro)<;>rfl)))
     ·intro i22 s22 g22 Rs22 hes22 h
      have hns22:¬ (i22<e15.creates.length):=by omega
      try dsimp only at h
      obtain⟨e28,c28,g28,q28,h⟩:=zbu encI h
      try simp -implicitDefEqProofs only[go_sem,c2,k3,k4,m5,c6a,c6b,k7,m8,b11,b13,his14,hws14,c15,g15,hns16,hns22,c28,g28]
      refine zc (fun b29=>?_) (fun b29=>?_)
      ·replace h:=zd h b29
       cases h
       try simp -implicitDefEqProofs only[go_sem,c2,k3,k4,m5,c6a,c6b,k7,m8,b11,b13,his14,hws14,c15,g15,hns16,hns22,c28,g28,b29]
       refine⟨by decide,_,.refl _,?_⟩
       simp -implicitDefEqProofs only[go_sem,c2,k3,k4,m5,c6a,c6b,k7,m8,b11,b13,his14,hws14,c15,g15,hns16,hns22,c28,g28,b29]<;>((repeat' apply And.intro)<;>rfl)
      ·replace h:=ze h b29
       try simp -implicitDefEqProofs only[go_sem,c2,k3,k4,m5,c6a,c6b,k7,m8,b11,b13,his14,hws14,c15,g15,hns16,hns22,c28,g28,b29]
       exact hNs14 (s22.1,s22.2,s16.2) (g22,g16) h (weakL (by simp -implicitDefEqProofs only[go_sem,c2,k3,k4,m5,c6a,c6b,k7,m8,b11,b13,his14,hws14,c15,g15,hns16,hns22,c28,g28,b29]<;>((repeat' apply And.intro)<;>rfl)))
   ·intro i14 s14 g14 Rs14 hes14 h
    have hns14:¬ (i14<a0.length):=by omega
    try dsimp only at h
    try simp -implicitDefEqProofs only[go_sem,c2,k3,k4,m5,c6a,c6b,k7,m8,b11,b13,hns14]
    exact hNs12 (s14.1,s14.2.1,s14.2.2) (g14.1,g14.2) h (weakL (by simp -implicitDefEqProofs only[go_sem,c2,k3,k4,m5,c6a,c6b,k7,m8,b11,b13,hns14]<;>((repeat' apply And.intro)<;>rfl)))
  ·replace h:=ze h b13
   try dsimp only at h
   cases h
   try simp -implicitDefEqProofs only[go_sem,c2,k3,k4,m5,c6a,c6b,k7,m8,b11,b13]
   refine⟨by decide,_,.refl _,?_⟩
   simp -implicitDefEqProofs only[go_sem,c2,k3,k4,m5,c6a,c6b,k7,m8,b11,b13]<;>((repeat' apply And.intro)<;>rfl)
theorem zoq (n:Nat):∀ (a0:zp) (r:Bool) (h:zbm n a0=some r),zh Tryz.prog 245 [.agg (zz a0)] (fun v=>v = .val (.bool r)):=by
 induction n with
 | zero=>intro a0 r h; cases h
 | succ n ih =>
 intro a0 r h
 refine zh.ple ?_
 refine zf [] Ty.mixed Tryz.func245 rfl (by kernel_rfl) (by simp[Tryz.ntmps245]) ?_; rw[Tryz.ntmps245,Tryz.results245]
 unfold zbm at h
 try simp -implicitDefEqProofs only[go_sem]
 refine zc (fun b1=>?_) (fun b1=>?_)
 ·replace h:=zd h b1
  try simp -implicitDefEqProofs only[go_sem,b1]
  refine zq (fun b2=>?_) (fun b2=>?_)
  ·replace h:=zd h b2
   obtain⟨r3,hr3,h⟩:=zm h
   try simp -implicitDefEqProofs only[go_sem,b1,b2]
   refine callG (zir a0 r3 hr3) (by simp -implicitDefEqProofs only[go_sem,b1,b2]<;>rfl) (zb _) (by first | exact pers | exact scal rfl) ?_
   try simp -implicitDefEqProofs only[go_sem,b1,b2]
   refine zq (fun b4=>?_) (fun b4=>?_)
   ·replace h:=zd h b4
    obtain⟨r5,hr5,h⟩:=zm h
    try simp -implicitDefEqProofs only[go_sem,b1,b2,b4]
    refine callG (zdm a0.kids (fun x6=>zb0 (fun y0=>zbm n y0) x6) 274 [] [] (fun x6 r h=>zeu (fun y0=>zbm n y0) ih x6 r h) r5 hr5) (by simp -implicitDefEqProofs only[go_sem,b1,b2,b4]<;>rfl) (zb _) (by first | exact pers | exact scal rfl) ?_
    cases h
    try simp -implicitDefEqProofs only[go_sem,b1,b2,b4]
    all_goals((repeat' apply And.intro)<;>rfl)
   ·replace h:=ze h b4
    cases h
    try simp -implicitDefEqProofs only[go_sem,b1,b2,b4]
    all_goals((repeat' apply And.intro)<;>rfl)
  ·replace h:=ze h b2
   cases h
   try simp -implicitDefEqProofs only[go_sem,b1,b2]
   all_goals((repeat' apply And.intro)<;>rfl)
 ·replace h:=ze h b1
  try simp -implicitDefEqProofs only[go_sem,b1]
  refine zc (fun b7=>?_) (fun b7=>?_)
  ·replace h:=zd h b7
   try simp -implicitDefEqProofs only[go_sem,b1,b7]
   refine zq (fun b8=>?_) (fun b8=>?_)
   ·replace h:=zd h b8
    obtain⟨r9,hr9,h⟩:=zm h
    try simp -implicitDefEqProofs only[go_sem,b1,b7,b8]
    refine callG (zir a0 r9 hr9) (by simp -implicitDefEqProofs only[go_sem,b1,b7,b8]<;>rfl) (zb _) (by first | exact pers | exact scal rfl) ?_
    try simp -implicitDefEqProofs only[go_sem,b1,b7,b8]
    refine zq (fun b10=>?_) (fun b10=>?_)
    ·replace h:=zd h b10
     obtain⟨r11,hr11,h⟩:=zm h
     try simp -implicitDefEqProofs only[go_sem,b1,b7,b8,b10]
     refine callG (zdm a0.kids (fun x12=>zb0 (fun y0=>zbm n y0) x12) 274 [] [] (fun x12 r h=>zeu (fun y0=>zbm n y0) ih x12 r h) r11 hr11) (by simp -implicitDefEqProofs only[go_sem,b1,b7,b8,b10]<;>rfl) (zb _) (by first | exact pers | exact scal rfl) ?_
     cases h
     try simp -implicitDefEqProofs only[go_sem,b1,b7,b8,b10]
     all_goals((repeat' apply And.intro)<;>rfl)
    ·replace h:=ze h b10
     cases h
     try simp -implicitDefEqProofs only[go_sem,b1,b7,b8,b10]
     all_goals((repeat' apply And.intro)<;>rfl)
   ·replace h:=ze h b8
    cases h
    try simp -implicitDefEqProofs only[go_sem,b1,b7,b8]
    all_goals((repeat' apply And.intro)<;>rfl)
  ·replace h:=ze h b7
   try simp -implicitDefEqProofs only[go_sem,b1,b7]
   refine zc (fun b13=>?_) (fun b13=>?_)
   ·replace h:=zd h b13
    try simp -implicitDefEqProofs only[go_sem,b1,b7,b13]
    refine zq (fun b14=>?_) (fun b14=>?_)
    ·replace h:=zd h b14
     obtain⟨r15,hr15,h⟩:=zm h
     try simp -implicitDefEqProofs only[go_sem,b1,b7,b13,b14]
     refine callG (zir a0 r15 hr15) (by simp -implicitDefEqProofs only[go_sem,b1,b7,b13,b14]<;>rfl) (zb _) (by first | exact pers | exact scal rfl) ?_
     try simp -implicitDefEqProofs only[go_sem,b1,b7,b13,b14]
     refine zq (fun b16=>?_) (fun b16=>?_)
     ·replace h:=zd h b16
      obtain⟨r17,hr17,h⟩:=zm h
      try simp -implicitDefEqProofs only[go_sem,b1,b7,b13,b14,b16]
      refine callG (zdm a0.kids (fun x18=>zb0 (fun y0=>zbm n y0) x18) 274 [] [] (fun x18 r h=>zeu (fun y0=>zbm n y0) ih x18 r h) r17 hr17) (by simp -implicitDefEqProofs only[go_sem,b1,b7,b13,b14,b16]<;>rfl) (zb _) (by first | exact pers | exact scal rfl) ?_
      cases h
      try simp -implicitDefEqProofs only[go_sem,b1,b7,b13,b14,b16]
      all_goals((repeat' apply And.intro)<;>rfl)
     ·replace h:=ze h b16
      cases h
      try simp -implicitDefEqProofs only[go_sem,b1,b7,b13,b14,b16]
      all_goals((repeat' apply And.intro)<;>rfl)
    ·replace h:=ze h b14
     cases h
     try simp -implicitDefEqProofs only[go_sem,b1,b7,b13,b14]
     all_goals((repeat' apply And.intro)<;>rfl)
   ·replace h:=ze h b13
    try simp -implicitDefEqProofs only[go_sem,b1,b7,b13]
    refine zc (fun b19=>?_) (fun b19=>?_)
    ·replace h:=zd h b19
     try simp -implicitDefEqProofs only[go_sem,b1,b7,b13,b19]
     refine zq (fun b20=>?_) (fun b20=>?_)
     ·replace h:=zd h b20
      obtain⟨r21,hr21,h⟩:=zm h
      try simp -implicitDefEqProofs only[go_sem,b1,b7,b13,b19,b20]
      refine callG (zir a0 r21 hr21) (by simp -implicitDefEqProofs only[go_sem,b1,b7,b13,b19,b20]<;>rfl) (zb _) (by first | exact pers | exact scal rfl) ?_
      try simp -implicitDefEqProofs only[go_sem,b1,b7,b13,b19,b20]
      refine zq (fun b22=>?_) (fun b22=>?_)
      ·replace h:=zd h b22
       obtain⟨r23,hr23,h⟩:=zm h
       try simp -implicitDefEqProofs only[go_sem,b1,b7,b13,b19,b20,b22]
       refine callG (zdm a0.kids (fun x24=>zb0 (fun y0=>zbm n y0) x24) 274 [] [] (fun x24 r h=>zeu (fun y0=>zbm n y0) ih x24 r h) r23 hr23) (by simp -implicitDefEqProofs only[go_sem,b1,b7,b13,b19,b20,b22]<;>rfl) (zb _) (by first | exact pers | exact scal rfl) ?_
       cases h
       try simp -implicitDefEqProofs only[go_sem,b1,b7,b13,b19,b20,b22]
       all_goals((repeat' apply And.intro)<;>rfl)
      ·replace h:=ze h b22
       cases h
       try simp -implicitDefEqProofs only[go_sem,b1,b7,b13,b19,b20,b22]
       all_goals((repeat' apply And.intro)<;>rfl)
     ·replace h:=ze h b20
      cases h
      try simp -implicitDefEqProofs only[go_sem,b1,b7,b13,b19,b20]
      all_goals((repeat' apply And.intro)<;>rfl)
    ·replace h:=ze h b19
     try simp -implicitDefEqProofs only[go_sem,b1,b7,b13,b19]
     refine zc (fun b25=>?_) (fun b25=>?_)
     ·replace h:=zd h b25
      try simp -implicitDefEqProofs only[go_sem,b1,b7,b13,b19,b25]
      refine zq (fun b26=>?_) (fun b26=>?_)
      ·replace h:=zd h b26
       obtain⟨r27,hr27,h⟩:=zm h
       try simp -implicitDefEqProofs only[go_sem,b1,b7,b13,b19,b25,b26]
       refine callG (zdm a0.kids (fun x28=>zb0 (fun y0=>zbm n y0) x28) 274 [] [] (fun x28 r h=>zeu (fun y0=>zbm n y0) ih x28 r h) r27 hr27) (by simp -implicitDefEqProofs only[go_sem,b1,b7,b13,b19,b25,b26]<;>rfl) (zb _) (by first | exact pers | exact scal rfl) ?_
       cases h
       try simp -implicitDefEqProofs only[go_sem,b1,b7,b13,b19,b25,b26]
       all_goals((repeat' apply And.intro)<;>rfl)
      ·replace h:=ze h b26
       cases h
       try simp -implicitDefEqProofs only[go_sem,b1,b7,b13,b19,b25,b26]
       all_goals((repeat' apply And.intro)<;>rfl)
     ·replace h:=ze h b25
      cases h
      try simp -implicitDefEqProofs only[go_sem,b1,b7,b13,b19,b25]
      all_goals((repeat' apply And.intro)<;>rfl)

theorem zje (a0:zu) (r:(List Int)×(List Int)) (h:zcu a0=some r):zbt Tryz.prog 96 [.agg (zbj a0)] (fun v=>v = .tup [.row 3 1 (r.1.map encI),.row 3 1 (r.2.map encI)]):=by
 refine zbt.rle ?_
 refine zbx [] Ty.mixed Tryz.func96 rfl (by kernel_rfl) (by simp[Tryz.ntmps96]) ?_; rw[Tryz.ntmps96,Tryz.results96]
 unfold zcu at h
 try simp -implicitDefEqProofs only[go_sem]
 refine zfg [(0,.q),(1,.q),(2,.q),(3,.q),(4,.q),(5,.q),(6,.q),(7,.q),(9,.q),(10,.q),(11,.q),(12,.q),(13,.q),(14,.q),(15,.q),(16,.q),(8,.f),(17,.f),(18,.q),(19,.q)] (by kernel_rfl) ?_
 obtain⟨r1,hr1,h⟩:=zm h
 try simp -implicitDefEqProofs only[go_sem]
 refine calldfG 1192 (zgr ((a0.right.graph.nodes.length:Nat):Int) a0.into.nodes r1 hr1) (by simp -implicitDefEqProofs only[go_sem]<;>rfl) (zb _) (by first | exact persF | exact flatF rfl | exact flatF (by simp[RV.flat,RV.flatL,PV.scalar,isVal,encI])) (by simp -implicitDefEqProofs only[go_sem]) (by simp -implicitDefEqProofs only[go_sem]) ?_
 obtain⟨r2,hr2,h⟩:=zm h
 try simp -implicitDefEqProofs only[go_sem]
 refine calldfG 1336 (zgr ((a0.right.graph.edges.length:Nat):Int) a0.into.edges r2 hr2) (by simp -implicitDefEqProofs only[go_sem]<;>rfl) (zb _) (by first | exact persF | exact flatF rfl | exact flatF (by simp[RV.flat,RV.flatL,PV.scalar,isVal,encI])) (by simp -implicitDefEqProofs only[go_sem]) (by simp -implicitDefEqProofs only[go_sem]) ?_
 cases h
 try simp -implicitDefEqProofs only[go_sem]
 refine⟨by decide,_,.refl _,?_⟩
 simp -implicitDefEqProofs only[go_sem]<;>((repeat' apply And.intro)<;>rfl)
theorem z00 (a0:zl) (a1:zu) (a2:Int) (r:Int) (h:zj7 a0 a1 a2=some r):zh Tryz.prog 190 [.agg [.lst (a0.nodes.map encNode),.lst (a0.edges.map encEdgeT)],.agg (zbj a1),.val (.int .i64 a2)] (fun v=>v = .val (.int .i64 r)):=by
 refine zh.ple ?_
 refine zf [] Ty.mixed Tryz.func190 rfl (by kernel_rfl) (by simp[Tryz.ntmps190]) ?_; rw[Tryz.ntmps190,Tryz.results190]
 unfold zj7 at h
 obtain⟨e3,c3a,c3b,g3,q3,h⟩:=zce zbs h
 have c3n:=zbv c3a c3b
 try simp -implicitDefEqProofs only[go_sem,c3a,c3b,c3n,g3]
 refine zw (fun b4=>?_) (fun b4=>?_)
 ·replace h:=zd h b4
  cases h
  try simp -implicitDefEqProofs only[go_sem,c3a,c3b,c3n,g3,b4]
  all_goals((repeat' apply And.intro)<;>rfl)
 ·replace h:=ze h b4
  try simp -implicitDefEqProofs only[go_sem,c3a,c3b,c3n,g3,b4]
  refine zc (fun b5=>?_) (fun b5=>?_)
  ·replace h:=zd h b5
   cases h
   try simp -implicitDefEqProofs only[go_sem,c3a,c3b,c3n,g3,b4,b5]
   all_goals((repeat' apply And.intro)<;>rfl)
  ·replace h:=ze h b5
   try simp -implicitDefEqProofs only[go_sem,c3a,c3b,c3n,g3,b4,b5]
   refine zbn [.q,.q,.q,.q,.q,.q,.q,.q,.q,.q,.q,.q,.q,.q,.q] (by kernel_rfl) ?_
   obtain⟨e6,c6a,c6b,g6,q6,h⟩:=zce encI h
   have c6n:=zbv c6a c6b
   obtain⟨r7,hr7,h⟩:=zm h
   try simp -implicitDefEqProofs only[go_sem,c3a,c3b,c3n,g3,b4,b5,c6a,c6b,c6n,g6]
   refine calldG (zqo a0 e6 r7 hr7) (by simp -implicitDefEqProofs only[go_sem,c3a,c3b,c3n,g3,b4,b5,c6a,c6b,c6n,g6]<;>rfl) (zb _) (by first | exact pers | exact scal rfl) ?_
   try simp -implicitDefEqProofs only[go_sem,c3a,c3b,c3n,g3,b4,b5,c6a,c6b,c6n,g6]
   refine zw (fun b8=>?_) (fun b8=>?_)
   ·replace h:=zd h b8
    cases h
    try simp -implicitDefEqProofs only[go_sem,c3a,c3b,c3n,g3,b4,b5,c6a,c6b,c6n,g6,b8]
    all_goals((repeat' apply And.intro)<;>rfl)
   ·replace h:=ze h b8
    try simp -implicitDefEqProofs only[go_sem,c3a,c3b,c3n,g3,b4,b5,c6a,c6b,c6n,g6,b8]
    refine zw (fun b9=>?_) (fun b9=>?_)
    ·replace h:=zd h b9
     cases h
     try simp -implicitDefEqProofs only[go_sem,c3a,c3b,c3n,g3,b4,b5,c6a,c6b,c6n,g6,b8,b9]
     all_goals((repeat' apply And.intro)<;>rfl)
    ·replace h:=ze h b9
     try simp -implicitDefEqProofs only[go_sem,c3a,c3b,c3n,g3,b4,b5,c6a,c6b,c6n,g6,b8,b9]
     refine zw (fun b10=>?_) (fun b10=>?_)
     ·replace h:=zd h b10
      cases h
      try simp -implicitDefEqProofs only[go_sem,c3a,c3b,c3n,g3,b4,b5,c6a,c6b,c6n,g6,b8,b9,b10]
      all_goals((repeat' apply And.intro)<;>rfl)
     ·replace h:=ze h b10
      try simp -implicitDefEqProofs only[go_sem,c3a,c3b,c3n,g3,b4,b5,c6a,c6b,c6n,g6,b8,b9,b10]
      refine zw (fun b11=>?_) (fun b11=>?_)
      ·replace h:=zd h b11
       cases h
       try simp -implicitDefEqProofs only[go_sem,c3a,c3b,c3n,g3,b4,b5,c6a,c6b,c6n,g6,b8,b9,b10,b11]
       all_goals((repeat' apply And.intro)<;>rfl)
      ·replace h:=ze h b11
       try simp -implicitDefEqProofs only[go_sem,c3a,c3b,c3n,g3,b4,b5,c6a,c6b,c6n,g6,b8,b9,b10,b11]
       refine zw (fun b12=>?_) (fun b12=>?_)
       ·replace h:=zd h b12
        cases h
        try simp -implicitDefEqProofs only[go_sem,c3a,c3b,c3n,g3,b4,b5,c6a,c6b,c6n,g6,b8,b9,b10,b11,b12]
        all_goals((repeat' apply And.intro)<;>rfl)
       ·replace h:=ze h b12
        try simp -implicitDefEqProofs only[go_sem,c3a,c3b,c3n,g3,b4,b5,c6a,c6b,c6n,g6,b8,b9,b10,b11,b12]
        refine zc (fun b13=>?_) (fun b13=>?_)
        ·replace h:=zd h b13
         cases h
         try simp -implicitDefEqProofs only[go_sem,c3a,c3b,c3n,g3,b4,b5,c6a,c6b,c6n,g6,b8,b9,b10,b11,b12,b13]
         all_goals((repeat' apply And.intro)<;>rfl)
        ·replace h:=ze h b13
         obtain⟨⟨c14a,c14b,c14c⟩,h⟩:=zbg h
         have c14l:=eq_true (zjx (n:=4) (f:=zbs) (fun _=>rfl) a1.right.slots)
         obtain⟨r15,hr15,h⟩:=zm h
         try simp -implicitDefEqProofs only[go_sem,c3a,c3b,c3n,g3,b4,b5,c6a,c6b,c6n,g6,b8,b9,b10,b11,b12,b13,c14a,c14b,c14c,c14l]
         refine callG (ziz (a1.right.slots.take a2.toNat) (fun x16=>zhq x16 e3) 239 [] [.eptr (zbs e3) 0] (fun x16 r h=>zw8 x16 e3 r h) r15 hr15) (by simp -implicitDefEqProofs only[go_sem,c3a,c3b,c3n,g3,b4,b5,c6a,c6b,c6n,g6,b8,b9,b10,b11,b12,b13,c14a,c14b,c14c,c14l]<;>rfl) (zb _) (by first | exact pers | exact scal rfl) ?_
         try simp -implicitDefEqProofs only[go_sem,c3a,c3b,c3n,g3,b4,b5,c6a,c6b,c6n,g6,b8,b9,b10,b11,b12,b13,c14a,c14b,c14c,c14l]
         refine zc (fun b17=>?_) (fun b17=>?_)
         ·replace h:=zd h b17
          cases h
          try simp -implicitDefEqProofs only[go_sem,c3a,c3b,c3n,g3,b4,b5,c6a,c6b,c6n,g6,b8,b9,b10,b11,b12,b13,c14a,c14b,c14c,c14l,b17]
          all_goals((repeat' apply And.intro)<;>rfl)
         ·replace h:=ze h b17
          cases h
          try simp -implicitDefEqProofs only[go_sem,c3a,c3b,c3n,g3,b4,b5,c6a,c6b,c6n,g6,b8,b9,b10,b11,b12,b13,c14a,c14b,c14c,c14l,b17]
          all_goals((repeat' apply And.intro)<;>rfl)

theorem zme (n:Nat):∀ (a0:zp) (r:Bool) (h:zcq n a0=some r),zh Tryz.prog 214 [.agg (zz a0)] (fun v=>v = .val (.bool r)):=by
 induction n with
 | zero=>intro a0 r h; cases h
 | succ n ih =>
 intro a0 r h
 refine zh.ple ?_
 refine zf [] Ty.mixed Tryz.func214 rfl (by kernel_rfl) (by simp[Tryz.ntmps214]) ?_; rw[Tryz.ntmps214,Tryz.results214]
 unfold zcq at h
 obtain⟨r1,hr1,h⟩:=zm h
 try simp -implicitDefEqProofs only[go_sem]
 refine callG (znv a0 r1 hr1) (by simp -implicitDefEqProofs only[go_sem]<;>rfl) (zb _) (by first | exact pers | exact scal rfl) ?_
 try simp -implicitDefEqProofs only[go_sem]
 refine zg (fun b2=>?_) (fun b2=>?_)
 ·replace h:=zd h b2
  obtain⟨fus3,h⟩:=zbg h
  unfold fuel at fus3
  try simp -implicitDefEqProofs only[go_sem,b2]
  refine zbe (fun x:(Nat×(Unit))×(Unit)=>envL [(1,.ptr 1 0),(3,.p (.val (.int .i64 ((x.1.1:Nat):Int))))]) (fun x=>heapL [(1,.box ((zz a0).map .p))]) () h (weakL (by simp -implicitDefEqProofs only[go_sem,b2]<;>((repeat' apply And.intro)<;>rfl))) ?_ ?_
  ·intro i3 s3 g3 nxts3 Rs3 his3 hNs3 h
   have hws3:=zt (k:=i3) his3 (by omega)
   try dsimp only at h
   obtain⟨e4,c4,g4,q4,h⟩:=zbu zz h
   obtain⟨r5,hr5,h⟩:=zm h
   try simp -implicitDefEqProofs only[go_sem,b2,his3,hws3,c4,g4]
   refine callG (ih e4 r5 hr5) (by simp -implicitDefEqProofs only[go_sem,b2,his3,hws3,c4,g4]<;>rfl) (zb _) (by first | exact pers | exact scal rfl) ?_
   try simp -implicitDefEqProofs only[go_sem,b2,his3,hws3,c4,g4]
   refine zg (fun b6=>?_) (fun b6=>?_)
   ·replace h:=zd h b6
    try simp -implicitDefEqProofs only[go_sem,b2,his3,hws3,c4,g4,b6]
    exact hNs3 () () h (weakL (by simp -implicitDefEqProofs only[go_sem,b2,his3,hws3,c4,g4,b6]<;>((repeat' apply And.intro)<;>rfl)))
   ·replace h:=ze h b6
    cases h
    try simp -implicitDefEqProofs only[go_sem,b2,his3,hws3,c4,g4,b6]
    all_goals((repeat' apply And.intro)<;>rfl)
  ·intro i3 s3 g3 Rs3 hes3 h
   have hns3:¬ (i3<a0.kids.length):=by omega
   try dsimp only at h
   cases h
   try simp -implicitDefEqProofs only[go_sem,b2,hns3]
   all_goals((repeat' apply And.intro)<;>rfl)
 ·replace h:=ze h b2
  cases h
  try simp -implicitDefEqProofs only[go_sem,b2]
  all_goals((repeat' apply And.intro)<;>rfl)

theorem zm2 (a0:zu) (r:(List Int)×(List Int)) (h:zdy a0=some r):zbt Tryz.prog 93 [.agg (zbj a0)] (fun v=>v = .tup [.row 3 1 (r.1.map encI),.row 3 1 (r.2.map encI)]):=by
 refine zbt.rle ?_
 refine zbx [] Ty.mixed Tryz.func93 rfl (by kernel_rfl) (by simp[Tryz.ntmps93]) ?_; rw[Tryz.ntmps93,Tryz.results93]
 unfold zdy at h
 try simp -implicitDefEqProofs only[go_sem]
 refine zfg [(0,.q),(1,.q),(2,.q),(3,.q),(4,.q),(5,.q),(6,.q),(7,.q),(9,.q),(10,.q),(11,.q),(12,.q),(13,.q),(14,.q),(15,.q),(16,.q),(8,.f),(17,.f),(18,.q),(19,.q)] (by kernel_rfl) ?_
 obtain⟨r1,hr1,h⟩:=zm h
 try simp -implicitDefEqProofs only[go_sem]
 refine calldfG 1192 (zgr ((a0.left.graph.nodes.length:Nat):Int) a0.keep.nodes r1 hr1) (by simp -implicitDefEqProofs only[go_sem]<;>rfl) (zb _) (by first | exact persF | exact flatF rfl | exact flatF (by simp[RV.flat,RV.flatL,PV.scalar,isVal,encI])) (by simp -implicitDefEqProofs only[go_sem]) (by simp -implicitDefEqProofs only[go_sem]) ?_
 obtain⟨r2,hr2,h⟩:=zm h
 try simp -implicitDefEqProofs only[go_sem]
 refine calldfG 1336 (zgr ((a0.left.graph.edges.length:Nat):Int) a0.keep.edges r2 hr2) (by simp -implicitDefEqProofs only[go_sem]<;>rfl) (zb _) (by first | exact persF | exact flatF rfl | exact flatF (by simp[RV.flat,RV.flatL,PV.scalar,isVal,encI])) (by simp -implicitDefEqProofs only[go_sem]) (by simp -implicitDefEqProofs only[go_sem]) ?_
 cases h
 try simp -implicitDefEqProofs only[go_sem]
 refine⟨by decide,_,.refl _,?_⟩
 simp -implicitDefEqProofs only[go_sem]<;>((repeat' apply And.intro)<;>rfl)
theorem zrz (a0:Int) (a1:List zc3) (r:Int) (h:zgx a0 a1=some r):zh Tryz.prog 187 [.val (.int .i64 a0),.lst (a1.map zb7)] (fun v=>v = .val (.int .i64 r)):=by
 refine zh.ple ?_
 refine zf [] Ty.mixed Tryz.func187 rfl (by kernel_rfl) (by simp[Tryz.ntmps187]) ?_; rw[Tryz.ntmps187,Tryz.results187]
 unfold zgx at h
 try simp -implicitDefEqProofs only[go_sem]
 refine zw (fun b2=>?_) (fun b2=>?_)
 ·replace h:=zd h b2
  cases h
  try simp -implicitDefEqProofs only[go_sem,b2]
  all_goals((repeat' apply And.intro)<;>rfl)
 ·replace h:=ze h b2
  try simp -implicitDefEqProofs only[go_sem,b2]
  refine zc (fun b3=>?_) (fun b3=>?_)
  ·replace h:=zd h b3
   cases h
   try simp -implicitDefEqProofs only[go_sem,b2,b3]
   all_goals((repeat' apply And.intro)<;>rfl)
  ·replace h:=ze h b3
   try simp -implicitDefEqProofs only[go_sem,b2,b3]
   refine zc (fun b4=>?_) (fun b4=>?_)
   ·replace h:=zd h b4
    cases h
    try simp -implicitDefEqProofs only[go_sem,b2,b3,b4]
    all_goals((repeat' apply And.intro)<;>rfl)
   ·replace h:=ze h b4
    obtain⟨fus5,h⟩:=zbg h
    unfold fuel at fus5
    try simp -implicitDefEqProofs only[go_sem,b2,b3,b4]
    refine zbe (fun x:(Nat×(Unit))×(Unit)=>envL [(0,.p (.val (.int .i64 a0))),(17,.p (.lst (a1.map zb7))),(18,.p (.val (.int .i64 ((a1.length:Nat):Int)))),(19,.p (.val (.int .i64 ((x.1.1:Nat):Int))))]) (fun x=>heapL []) () h (weakL (by simp -implicitDefEqProofs only[go_sem,b2,b3,b4]<;>((repeat' apply And.intro)<;>rfl))) ?_ ?_
    ·intro i5 s5 g5 nxts5 Rs5 his5 hNs5 h
     have hws5:=zt (k:=i5) his5 (by omega)
     try dsimp only at h
     obtain⟨e6,c6,g6,q6,h⟩:=zbu zb7 h
     obtain⟨r7,hr7,h⟩:=zm h
     try simp -implicitDefEqProofs only[go_sem,b2,b3,b4,his5,hws5,c6,g6]
     refine callG (ztm a0 e6 r7 hr7) (by simp -implicitDefEqProofs only[go_sem,b2,b3,b4,his5,hws5,c6,g6]<;>rfl) (zb _) (by first | exact pers | exact scal rfl) ?_
     try simp -implicitDefEqProofs only[go_sem,b2,b3,b4,his5,hws5,c6,g6]
     refine zg (fun b8=>?_) (fun b8=>?_)
     ·replace h:=zd h b8
      try simp -implicitDefEqProofs only[go_sem,b2,b3,b4,his5,hws5,c6,g6,b8]
      exact hNs5 () () h (weakL (by simp -implicitDefEqProofs only[go_sem,b2,b3,b4,his5,hws5,c6,g6,b8]<;>((repeat' apply And.intro)<;>rfl)))
     ·replace h:=ze h b8
      cases h
      try simp -implicitDefEqProofs only[go_sem,b2,b3,b4,his5,hws5,c6,g6,b8]
      all_goals((repeat' apply And.intro)<;>rfl)
    ·intro i5 s5 g5 Rs5 hes5 h
     have hns5:¬ (i5<a1.length):=by omega
     try dsimp only at h
     cases h
     try simp -implicitDefEqProofs only[go_sem,b2,b3,b4,hns5]
     all_goals((repeat' apply And.intro)<;>rfl)

theorem zzo (a0:zl) (a1:z8) (r:Bool) (h:zjj a0 a1=some r):zh Tryz.prog 189 [.agg [.lst (a0.nodes.map encNode),.lst (a0.edges.map encEdgeT)],.agg [.lst (a1.nodes.map encI),.lst (a1.edges.map encEdge)]] (fun v=>v = .val (.bool r)):=by
 refine zh.ple ?_
 refine zf [] Ty.mixed Tryz.func189 rfl (by kernel_rfl) (by simp[Tryz.ntmps189]) ?_; rw[Tryz.ntmps189,Tryz.results189]
 unfold zjj at h
 obtain⟨r2,hr2,h⟩:=zm h
 try simp -implicitDefEqProofs only[go_sem]
 refine callG (zf7 a1.nodes (fun x3=>zia x3 (⟨a0.nodes,a0.edges⟩:zl)) 236 [] [.eptr [.lst (((⟨a0.nodes,a0.edges⟩:zl).nodes).map encNode),.lst (((⟨a0.nodes,a0.edges⟩:zl).edges).map encEdgeT)] 0] (fun x3 r h=>zux x3 (⟨a0.nodes,a0.edges⟩:zl) r h) r2 hr2) (by simp -implicitDefEqProofs only[go_sem]<;>rfl) (zb _) (by first | exact pers | exact scal rfl) ?_
 try simp -implicitDefEqProofs only[go_sem]
 refine zw (fun b4=>?_) (fun b4=>?_)
 ·replace h:=zd h b4
  cases h
  try simp -implicitDefEqProofs only[go_sem,b4]
  all_goals((repeat' apply And.intro)<;>rfl)
 ·replace h:=ze h b4
  obtain⟨r5,hr5,h⟩:=zm h
  try simp -implicitDefEqProofs only[go_sem,b4]
  refine callG (ziw a1.edges (fun x6=>zih x6 (⟨a0.nodes,a0.edges⟩:zl)) 237 [] [.eptr [.lst (((⟨a0.nodes,a0.edges⟩:zl).nodes).map encNode),.lst (((⟨a0.nodes,a0.edges⟩:zl).edges).map encEdgeT)] 0] (fun x6 r h=>zut x6 (⟨a0.nodes,a0.edges⟩:zl) r h) r5 hr5) (by simp -implicitDefEqProofs only[go_sem,b4]<;>rfl) (zb _) (by first | exact pers | exact scal rfl) ?_
  cases h
  try simp -implicitDefEqProofs only[go_sem,b4]
  all_goals((repeat' apply And.intro)<;>rfl)

theorem znp (n:Nat):∀ (a0:List zi) (a1:Int) (a2:Int) (a3:Int) (r:(List zi)) (h:zc7 n a0 a1 a2 a3=some r),zbt Tryz.prog 38 [.lst (a0.map zn),.val (.int .i64 a1),.val (.int .i64 a2),.val (.int .i64 a3)] (fun v=>v = .row 52 4 (r.map zn)):=by
 induction n with
 | zero=>intro a0 a1 a2 a3 r h; cases h
 | succ n ih =>
 intro a0 a1 a2 a3 r h
 refine zbt.rle ?_
 refine zbx [36,51] Ty.mixed Tryz.func38 rfl (by kernel_rfl) (by simp[Tryz.ntmps38]) ?_; rw[Tryz.ntmps38,Tryz.results38]
 unfold zc7 at h
 obtain⟨fus4,h⟩:=zbg h
 unfold fuel at fus4
 try simp -implicitDefEqProofs only[go_sem]
 refine zbe (fun x:(Nat×(Unit))×(Unit)=>envL [(0,.p (.lst (a0.map zn))),(1,.p (.val (.int .i64 a1))),(2,.p (.val (.int .i64 a2))),(3,.p (.val (.int .i64 a3))),(9,.p (.val (.int .i64 ((x.1.1:Nat):Int))))]) (fun x=>heapL []) () h (weakL (by simp -implicitDefEqProofs only[go_sem]<;>((repeat' apply And.intro)<;>rfl))) ?_ ?_
 ·intro i4 s4 g4 nxts4 Rs4 his4 hNs4 h
  have hws4:=zt (k:=i4) his4 (by omega)
  try dsimp only at h
  obtain⟨e5,c5,g5,q5,h⟩:=zbu zn h
  try simp -implicitDefEqProofs only[go_sem,his4,hws4,c5,g5]
  refine zg (fun b6=>?_) (fun b6=>?_)
  ·replace h:=zd h b6
   try simp -implicitDefEqProofs only[go_sem,his4,hws4,c5,g5,b6]
   refine zc (fun b7=>?_) (fun b7=>?_)
   ·replace h:=zd h b7
    try simp -implicitDefEqProofs only[go_sem,his4,hws4,c5,g5,b6,b7]
    refine zc (fun b8=>?_) (fun b8=>?_)
    ·replace h:=zd h b8
     cases h
     try simp -implicitDefEqProofs only[go_sem,his4,hws4,c5,g5,b6,b7,b8]
     refine⟨by decide,_,.refl _,?_⟩
     simp -implicitDefEqProofs only[go_sem,his4,hws4,c5,g5,b6,b7,b8]<;>((repeat' apply And.intro)<;>rfl)
    ·replace h:=ze h b8
     try simp -implicitDefEqProofs only[go_sem,his4,hws4,c5,g5,b6,b7,b8]
     exact hNs4 () () h (weakL (by simp -implicitDefEqProofs only[go_sem,his4,hws4,c5,g5,b6,b7,b8]<;>((repeat' apply And.intro)<;>rfl)))
   ·replace h:=ze h b7
    obtain⟨r9,hr9,h⟩:=zm h
    try simp -implicitDefEqProofs only[go_sem,his4,hws4,c5,g5,b6,b7]
    refine callG (zjb a0 e5.dst a2 (IntKind.i64.wrap (a3 - 1)) r9 hr9) (by simp -implicitDefEqProofs only[go_sem,his4,hws4,c5,g5,b6,b7]<;>rfl) (zb _) (by first | exact pers | exact scal rfl) ?_
    try simp -implicitDefEqProofs only[go_sem,his4,hws4,c5,g5,b6,b7]
    refine zc (fun b10=>?_) (fun b10=>?_)
    ·replace h:=zd h b10
     try simp -implicitDefEqProofs only[go_sem,his4,hws4,c5,g5,b6,b7,b10]
     refine zfg [(0,.q),(1,.q),(2,.q),(3,.q),(5,.q),(6,.q),(7,.q),(8,.q),(9,.q),(10,.q),(11,.q),(12,.q),(13,.q),(14,.q),(4,.w),(15,.s),(16,.q)] (by kernel_rfl) ?_
     obtain⟨r11,hr11,h⟩:=zm h
     try simp -implicitDefEqProofs only[go_sem,his4,hws4,c5,g5,b6,b7,b10]
     refine calldG (show zh _ _ _ (fun v=>v = .lst (r11.map zn)) from (ih a0 e5.dst a2 (IntKind.i64.wrap (a3 - 1)) r11 hr11).toV1) (by simp -implicitDefEqProofs only[go_sem,his4,hws4,c5,g5,b6,b7,b10]<;>rfl) (zb _) (by first | exact pers | exact scal rfl) ?_
     obtain⟨c12,h⟩:=zbg h
     have k13:=eq_true (show (1+r11.length) * 32≤140737488355328 by omega)
     have k14:=eq_true (zjx (n:=4) (f:=zn) (fun _=>rfl) r11)
     have a15:=zyi zn [e5] r11 (c:=[[.val (.int .i64 e5.rule),.val (.int .i64 e5.src),.val (.int .i64 e5.dst),.val (.int .i64 e5.strict)]]) rfl
     cases h
     try simp -implicitDefEqProofs only[go_sem,his4,hws4,c5,g5,b6,b7,b10,c12,k13,k14,a15]
     refine⟨by decide,_,.refl _,?_⟩
     simp -implicitDefEqProofs only[go_sem,his4,hws4,c5,g5,b6,b7,b10,c12,k13,k14,a15]<;>((repeat' apply And.intro)<;>rfl)
    ·replace h:=ze h b10
     try simp -implicitDefEqProofs only[go_sem,his4,hws4,c5,g5,b6,b7,b10]
     exact hNs4 () () h (weakL (by simp -implicitDefEqProofs only[go_sem,his4,hws4,c5,g5,b6,b7,b10]<;>((repeat' apply And.intro)<;>rfl)))
  ·replace h:=ze h b6
   try simp -implicitDefEqProofs only[go_sem,his4,hws4,c5,g5,b6]
   exact hNs4 () () h (weakL (by simp -implicitDefEqProofs only[go_sem,his4,hws4,c5,g5,b6]<;>((repeat' apply And.intro)<;>rfl)))
 ·intro i4 s4 g4 Rs4 hes4 h
  have hns4:¬ (i4<a0.length):=by omega
  try dsimp only at h
  cases h
  try simp -implicitDefEqProofs only[go_sem,hns4]
  refine⟨by decide,_,.refl _,?_⟩
  simp -implicitDefEqProofs only[go_sem,hns4]<;>((repeat' apply And.intro)<;>rfl)
theorem zhb (a0:List Int) (a1:Int) (r:Int×Bool) (h:zdc a0 a1=some r):zh Tryz.prog 241 [.lst (a0.map encI),.val (.int .i64 a1)] (fun v=>v = .tup [.val (.int .i64 r.1),.val (.bool r.2)]):=by
 refine zh.ple ?_
 refine zf [] Ty.mixed Tryz.func241 rfl (by kernel_rfl) (by simp[Tryz.ntmps241]) ?_; rw[Tryz.ntmps241,Tryz.results241]
 unfold zdc at h
 try simp -implicitDefEqProofs only[go_sem]
 refine zkt (fun x:(Int×Int)×(Unit)=>envL [(0,.p (.lst (a0.map encI))),(1,.p (.val (.int .i64 a1))),(6,.p (.val (.int .i64 ((a0.length:Nat):Int)))),(7,.p (.val (.int .i64 x.1.1))),(8,.p (.val (.int .i64 x.1.2)))]) (fun x=>heapL []) () h (weakL (by simp -implicitDefEqProofs only[go_sem]<;>((repeat' apply And.intro)<;>rfl))) ?_
 intro s2 g2 nxts2 Rs2 hNs2 h
 try dsimp only at h
 try simp -implicitDefEqProofs only[go_sem]
 refine zc (fun b3=>?_) (fun b3=>?_)
 ·replace h:=zd h b3
  have z4:=show (0:Int)≤1 by decide
  have z5:=show min 1 64=1 from rfl
  obtain⟨e6,c6a,c6b,g6,q6,h⟩:=zce encI h
  have c6n:=zbv c6a c6b
  obtain⟨r7,hr7,h⟩:=zm h
  try simp -implicitDefEqProofs only[go_sem,b3,z4,z5,c6a,c6b,c6n,g6]
  refine callG (zu8 e6 a1 r7 hr7) (by simp -implicitDefEqProofs only[go_sem,b3,z4,z5,c6a,c6b,c6n,g6]<;>rfl) (zb _) (by first | exact pers | exact scal rfl) ?_
  try simp -implicitDefEqProofs only[go_sem,b3,z4,z5,c6a,c6b,c6n,g6]
  refine zc (fun b8=>?_) (fun b8=>?_)
  ·replace h:=zd h b8
   try simp -implicitDefEqProofs only[go_sem,b3,z4,z5,c6a,c6b,c6n,g6,b8]
   exact hNs2 ((IntKind.i64.wrap ((IntKind.i64.wrap ((IntKind.u64.wrap (IntKind.i64.wrap (s2.1+s2.2))).fdiv (2 ^ 1)))+1)),s2.2) () h (weakL (by simp -implicitDefEqProofs only[go_sem,b3,z4,z5,c6a,c6b,c6n,g6,b8]<;>((repeat' apply And.intro)<;>rfl)))
  ·replace h:=ze h b8
   try simp -implicitDefEqProofs only[go_sem,b3,z4,z5,c6a,c6b,c6n,g6,b8]
   exact hNs2 (s2.1,(IntKind.i64.wrap ((IntKind.u64.wrap (IntKind.i64.wrap (s2.1+s2.2))).fdiv (2 ^ 1)))) () h (weakL (by simp -implicitDefEqProofs only[go_sem,b3,z4,z5,c6a,c6b,c6n,g6,b8]<;>((repeat' apply And.intro)<;>rfl)))
 ·replace h:=ze h b3
  try dsimp only at h
  try simp -implicitDefEqProofs only[go_sem,b3]
  refine zq (fun b9=>?_) (fun b9=>?_)
  ·replace h:=zd h b9
   obtain⟨e10,c10a,c10b,g10,q10,h⟩:=zce encI h
   have c10n:=zbv c10a c10b
   try simp -implicitDefEqProofs only[go_sem,b3,b9,c10a,c10b,c10n,g10]
   refine zw (fun b11=>?_) (fun b11=>?_)
   ·replace h:=zd h b11
    cases h
    try simp -implicitDefEqProofs only[go_sem,b3,b9,c10a,c10b,c10n,g10,b11]
    all_goals((repeat' apply And.intro)<;>rfl)
   ·replace h:=ze h b11
    obtain⟨r12,hr12,h⟩:=zm h
    try simp -implicitDefEqProofs only[go_sem,b3,b9,c10a,c10b,c10n,g10,b11]
    refine callG (zl7 e10 r12 hr12) (by simp -implicitDefEqProofs only[go_sem,b3,b9,c10a,c10b,c10n,g10,b11]<;>rfl) (zb _) (by first | exact pers | exact scal rfl) ?_
    try simp -implicitDefEqProofs only[go_sem,b3,b9,c10a,c10b,c10n,g10,b11]
    refine zq (fun b13=>?_) (fun b13=>?_)
    ·replace h:=zd h b13
     obtain⟨r14,hr14,h⟩:=zm h
     try simp -implicitDefEqProofs only[go_sem,b3,b9,c10a,c10b,c10n,g10,b11,b13]
     refine callG (zl7 a1 r14 hr14) (by simp -implicitDefEqProofs only[go_sem,b3,b9,c10a,c10b,c10n,g10,b11,b13]<;>rfl) (zb _) (by first | exact pers | exact scal rfl) ?_
     cases h
     try simp -implicitDefEqProofs only[go_sem,b3,b9,c10a,c10b,c10n,g10,b11,b13]
     all_goals((repeat' apply And.intro)<;>rfl)
    ·replace h:=ze h b13
     cases h
     try simp -implicitDefEqProofs only[go_sem,b3,b9,c10a,c10b,c10n,g10,b11,b13]
     all_goals((repeat' apply And.intro)<;>rfl)
  ·replace h:=ze h b9
   cases h
   try simp -implicitDefEqProofs only[go_sem,b3,b9]
   all_goals((repeat' apply And.intro)<;>rfl)

theorem zvn (a0:zl) (a1:z8) (a2:List Int) (a3:List Int) (r:Bool) (h:zhe a0 a1 a2 a3=some r):zh Tryz.prog 152 [.agg [.lst (a0.nodes.map encNode),.lst (a0.edges.map encEdgeT)],.agg [.lst (a1.nodes.map encI),.lst (a1.edges.map encEdge)],.lst (a2.map encI),.lst (a3.map encI)] (fun v=>v = .val (.bool r)):=by
 refine zh.ple ?_
 refine zf [] Ty.mixed Tryz.func152 rfl (by kernel_rfl) (by simp[Tryz.ntmps152]) ?_; rw[Tryz.ntmps152,Tryz.results152]
 unfold zhe at h
 obtain⟨r4,hr4,h⟩:=zm h
 try simp -implicitDefEqProofs only[go_sem]
 refine callG (zf7 a2 (fun x5=>zgp x5 (⟨a0.nodes,a0.edges⟩:zl) (⟨a1.nodes,a1.edges⟩:z8)) 194 [] [.eptr [.lst (((⟨a0.nodes,a0.edges⟩:zl).nodes).map encNode),.lst (((⟨a0.nodes,a0.edges⟩:zl).edges).map encEdgeT)] 0,.eptr [.lst (((⟨a1.nodes,a1.edges⟩:z8).nodes).map encI),.lst (((⟨a1.nodes,a1.edges⟩:z8).edges).map encEdge)] 0] (fun x5 r h=>ztr x5 (⟨a0.nodes,a0.edges⟩:zl) (⟨a1.nodes,a1.edges⟩:z8) r h) r4 hr4) (by simp -implicitDefEqProofs only[go_sem]<;>rfl) (zb _) (by first | exact pers | exact scal rfl) ?_
 try simp -implicitDefEqProofs only[go_sem]
 refine zw (fun b6=>?_) (fun b6=>?_)
 ·replace h:=zd h b6
  cases h
  try simp -implicitDefEqProofs only[go_sem,b6]
  all_goals((repeat' apply And.intro)<;>rfl)
 ·replace h:=ze h b6
  obtain⟨r7,hr7,h⟩:=zm h
  try simp -implicitDefEqProofs only[go_sem,b6]
  refine callG (zf7 a3 (fun x8=>zgn x8 a1 (⟨a0.nodes,a0.edges⟩:zl)) 195 [] [.eptr [.lst (a1.nodes.map encI),.lst (a1.edges.map encEdge)] 0,.eptr [.lst (((⟨a0.nodes,a0.edges⟩:zl).nodes).map encNode),.lst (((⟨a0.nodes,a0.edges⟩:zl).edges).map encEdgeT)] 0] (fun x8 r h=>ztg x8 a1 (⟨a0.nodes,a0.edges⟩:zl) r h) r7 hr7) (by simp -implicitDefEqProofs only[go_sem,b6]<;>rfl) (zb _) (by first | exact pers | exact scal rfl) ?_
  cases h
  try simp -implicitDefEqProofs only[go_sem,b6]
  all_goals((repeat' apply And.intro)<;>rfl)

theorem znq (a0:Int) (a1:List zc3) (r:Int) (h:zdn a0 a1=some r):zh Tryz.prog 164 [.val (.int .i64 a0),.lst (a1.map zb7)] (fun v=>v = .val (.int .i64 r)):=by
 refine zh.ple ?_
 refine zf [] Ty.mixed Tryz.func164 rfl (by kernel_rfl) (by simp[Tryz.ntmps164]) ?_; rw[Tryz.ntmps164,Tryz.results164]
 unfold zdn at h
 try simp -implicitDefEqProofs only[go_sem]
 refine zw (fun b2=>?_) (fun b2=>?_)
 ·replace h:=zd h b2
  cases h
  try simp -implicitDefEqProofs only[go_sem,b2]
  all_goals((repeat' apply And.intro)<;>rfl)
 ·replace h:=ze h b2
  try simp -implicitDefEqProofs only[go_sem,b2]
  refine zc (fun b3=>?_) (fun b3=>?_)
  ·replace h:=zd h b3
   cases h
   try simp -implicitDefEqProofs only[go_sem,b2,b3]
   all_goals((repeat' apply And.intro)<;>rfl)
  ·replace h:=ze h b3
   try simp -implicitDefEqProofs only[go_sem,b2,b3]
   refine zc (fun b4=>?_) (fun b4=>?_)
   ·replace h:=zd h b4
    cases h
    try simp -implicitDefEqProofs only[go_sem,b2,b3,b4]
    all_goals((repeat' apply And.intro)<;>rfl)
   ·replace h:=ze h b4
    obtain⟨fus5,h⟩:=zbg h
    unfold fuel at fus5
    try simp -implicitDefEqProofs only[go_sem,b2,b3,b4]
    refine zbe (fun x:(Nat×(Unit))×(Unit)=>envL [(0,.p (.val (.int .i64 a0))),(1,.p (.lst (a1.map zb7))),(5,.p (.val (.int .i64 ((x.1.1:Nat):Int))))]) (fun x=>heapL []) () h (weakL (by simp -implicitDefEqProofs only[go_sem,b2,b3,b4]<;>((repeat' apply And.intro)<;>rfl))) ?_ ?_
    ·intro i5 s5 g5 nxts5 Rs5 his5 hNs5 h
     have hws5:=zt (k:=i5) his5 (by omega)
     try dsimp only at h
     obtain⟨e6,c6,g6,q6,h⟩:=zbu zb7 h
     obtain⟨r7,hr7,h⟩:=zm h
     try simp -implicitDefEqProofs only[go_sem,b2,b3,b4,his5,hws5,c6,g6]
     refine callG (zo9 a0 e6 r7 hr7) (by simp -implicitDefEqProofs only[go_sem,b2,b3,b4,his5,hws5,c6,g6]<;>rfl) (zb _) (by first | exact pers | exact scal rfl) ?_
     try simp -implicitDefEqProofs only[go_sem,b2,b3,b4,his5,hws5,c6,g6]
     refine zg (fun b8=>?_) (fun b8=>?_)
     ·replace h:=zd h b8
      try simp -implicitDefEqProofs only[go_sem,b2,b3,b4,his5,hws5,c6,g6,b8]
      exact hNs5 () () h (weakL (by simp -implicitDefEqProofs only[go_sem,b2,b3,b4,his5,hws5,c6,g6,b8]<;>((repeat' apply And.intro)<;>rfl)))
     ·replace h:=ze h b8
      cases h
      try simp -implicitDefEqProofs only[go_sem,b2,b3,b4,his5,hws5,c6,g6,b8]
      all_goals((repeat' apply And.intro)<;>rfl)
    ·intro i5 s5 g5 Rs5 hes5 h
     have hns5:¬ (i5<a1.length):=by omega
     try dsimp only at h
     cases h
     try simp -implicitDefEqProofs only[go_sem,b2,b3,b4,hns5]
     all_goals((repeat' apply And.intro)<;>rfl)

theorem zkc (a0:List Int) (a1:Int) (r:(List Int)) (h:zge a0 a1=some r):zbt Tryz.prog 154 [.lst (a0.map encI),.val (.int .i64 a1)] (fun v=>v = .row 3 1 (r.map encI)):=by
 refine zbt.rle ?_
 refine zbx [18] Ty.mixed Tryz.func154 rfl (by kernel_rfl) (by simp[Tryz.ntmps154]) ?_; rw[Tryz.ntmps154,Tryz.results154]
 unfold zge at h
 obtain⟨fus2,h⟩:=zbg h
 unfold fuel at fus2
 try simp -implicitDefEqProofs only[go_sem]
 refine zbe (fun x:(Nat×((List Int)))×(Nat)=>envL [(0,.p (.lst (a0.map encI))),(5,.row 2645 x.2),(7,.p (.val (.int .i64 a1))),(8,.p (.val (.int .i64 ((x.1.1:Nat):Int))))]) (fun x=>heapL [(2645,.row x.2 3 1 (x.1.2.map encI))]) 0 h (by refine Weak.trans (zhi 5 2645 3 1 rfl rfl (by decide)) ?_; exact (weakL (by simp -implicitDefEqProofs only[go_sem]<;>((repeat' apply And.intro)<;>rfl)))) ?_ ?_
 ·intro i2 s2 g2 nxts2 Rs2 his2 hNs2 h
  have hws2:=zt (k:=i2) his2 (by omega)
  have hjs2:((i2:Nat):Int)<a1:=by omega
  try dsimp only at h
  obtain⟨r3,hr3,h⟩:=zm h
  try simp -implicitDefEqProofs only[go_sem,his2,hws2,hjs2]
  refine callG (zpd a0 ((i2:Nat):Int) r3 hr3) (by simp -implicitDefEqProofs only[go_sem,his2,hws2,hjs2]<;>rfl) (zb _) (by first | exact pers | exact scal rfl) ?_
  try simp -implicitDefEqProofs only[go_sem,his2,hws2,hjs2]
  refine zg (fun b4=>?_) (fun b4=>?_)
  ·replace h:=zd h b4
   try simp -implicitDefEqProofs only[go_sem,his2,hws2,hjs2,b4]
   exact hNs2 s2 g2 h (weakL (by simp -implicitDefEqProofs only[go_sem,his2,hws2,hjs2,b4]<;>((repeat' apply And.intro)<;>rfl)))
  ·replace h:=ze h b4
   obtain⟨c5,h⟩:=zbg h
   have k6:=eq_true (show (s2.length+1) * 8≤140737488355328 by omega)
   have a7:=zfc encI s2 [((i2:Nat):Int)] (c:=[[.val (.int .i64 ((i2:Nat):Int))]]) rfl
   try simp -implicitDefEqProofs only[go_sem,his2,hws2,hjs2,b4,c5,k6,a7]
   exact hNs2 (s2++[((i2:Nat):Int)]) (g2+1) h (weakL (by simp -implicitDefEqProofs only[go_sem,his2,hws2,hjs2,b4,c5,k6,a7]<;>((repeat' apply And.intro)<;>rfl)))
 ·intro i2 s2 g2 Rs2 hes2 h
  have hns2:¬ (((i2:Nat):Int)<a1):=by omega
  try dsimp only at h
  cases h
  try simp -implicitDefEqProofs only[go_sem,hns2]
  refine⟨by decide,_,.refl _,?_⟩
  simp -implicitDefEqProofs only[go_sem,hns2]<;>((repeat' apply And.intro)<;>rfl)

theorem zoo (n:Nat):∀ (a0:zp) (a1:Int) (r:Int) (h:zei n a0 a1=some r),zh Tryz.prog 81 [.agg (zz a0),.val (.int .i64 a1)] (fun v=>v = .val (.int .i64 r)):=by
 induction n with
 | zero=>intro a0 a1 r h; cases h
 | succ n ih =>
 intro a0 a1 r h
 refine zh.ple ?_
 refine zf [] Ty.mixed Tryz.func81 rfl (by kernel_rfl) (by simp[Tryz.ntmps81]) ?_; rw[Tryz.ntmps81,Tryz.results81]
 unfold zei at h
 obtain⟨r2,hr2,h⟩:=zm h
 try simp -implicitDefEqProofs only[go_sem]
 refine callG (zig a0.pattern r2 hr2) (by simp -implicitDefEqProofs only[go_sem]<;>rfl) (zb _) (by first | exact pers | exact scal rfl) ?_
 try simp -implicitDefEqProofs only[go_sem]
 refine zq (fun b3=>?_) (fun b3=>?_)
 ·replace h:=zd h b3
  obtain⟨r4,hr4,h⟩:=zm h
  try simp -implicitDefEqProofs only[go_sem,b3]
  refine callG (zkw a0.map 140 r4 hr4) (by simp -implicitDefEqProofs only[go_sem,b3]<;>rfl) (zb _) (by first | exact pers | exact scal rfl) ?_
  try simp -implicitDefEqProofs only[go_sem,b3]
  refine zg (fun b5=>?_) (fun b5=>?_)
  ·replace h:=zd h b5
   try simp -implicitDefEqProofs only[go_sem,b3,b5]
   refine zkt (fun x:(Int×Int)×(Unit)=>envL [(1,.p (.val (.int .i64 x.1.1))),(2,.ptr 2 0),(5,.p (.val (.int .i64 x.1.2)))]) (fun x=>heapL [(2,.box ((zz a0).map .p))]) () h (weakL (by simp -implicitDefEqProofs only[go_sem,b3,b5]<;>((repeat' apply And.intro)<;>rfl))) ?_
   intro s6 g6 nxts6 Rs6 hNs6 h
   try dsimp only at h
   try simp -implicitDefEqProofs only[go_sem,b3,b5]
   refine zq (fun b7=>?_) (fun b7=>?_)
   ·replace h:=zd h b7
    try simp -implicitDefEqProofs only[go_sem,b3,b5,b7]
    refine zc (fun b8=>?_) (fun b8=>?_)
    ·replace h:=zd h b8
     obtain⟨e9,c9a,c9b,g9,q9,h⟩:=zce zz h
     have c9n:=zbv c9a c9b
     obtain⟨r10,hr10,h⟩:=zm h
     try simp -implicitDefEqProofs only[go_sem,b3,b5,b7,b8,c9a,c9b,c9n,g9]
     refine callG (ih e9 s6.1 r10 hr10) (by simp -implicitDefEqProofs only[go_sem,b3,b5,b7,b8,c9a,c9b,c9n,g9]<;>rfl) (zb _) (by first | exact pers | exact scal rfl) ?_
     try simp -implicitDefEqProofs only[go_sem,b3,b5,b7,b8,c9a,c9b,c9n,g9]
     exact hNs6 (r10,(IntKind.i64.wrap (s6.2+1))) () h (weakL (by simp -implicitDefEqProofs only[go_sem,b3,b5,b7,b8,c9a,c9b,c9n,g9]<;>((repeat' apply And.intro)<;>rfl)))
    ·replace h:=ze h b8
     try dsimp only at h
     cases h
     try simp -implicitDefEqProofs only[go_sem,b3,b5,b7,b8]
     all_goals((repeat' apply And.intro)<;>rfl)
   ·replace h:=ze h b7
    try dsimp only at h
    cases h
    try simp -implicitDefEqProofs only[go_sem,b3,b5,b7]
    all_goals((repeat' apply And.intro)<;>rfl)
  ·replace h:=ze h b5
   cases h
   try simp -implicitDefEqProofs only[go_sem,b3,b5]
   all_goals((repeat' apply And.intro)<;>rfl)
 ·replace h:=ze h b3
  cases h
  try simp -implicitDefEqProofs only[go_sem,b3]
  all_goals((repeat' apply And.intro)<;>rfl)

theorem zj5 (a0:z8) (a1:zdb) (r:Int) (h:zcf a0 a1=some r):zh Tryz.prog 136 [.agg [.lst (a0.nodes.map encI),.lst (a0.edges.map encEdge)],.agg [.lst (a1.nodes.map encI),.lst (a1.edges.map encI)]] (fun v=>v = .val (.int .i64 r)):=by
 refine zh.ple ?_
 refine zf [] Ty.mixed Tryz.func136 rfl (by kernel_rfl) (by simp[Tryz.ntmps136]) ?_; rw[Tryz.ntmps136,Tryz.results136]
 unfold zcf at h
 obtain⟨r2,hr2,h⟩:=zm h
 try simp -implicitDefEqProofs only[go_sem]
 refine callG (ze8 a0 r2 hr2) (by simp -implicitDefEqProofs only[go_sem]<;>rfl) (zb _) (by first | exact pers | exact scal rfl) ?_
 try simp -implicitDefEqProofs only[go_sem]
 refine zg (fun b3=>?_) (fun b3=>?_)
 ·replace h:=zd h b3
  obtain⟨r4,hr4,h⟩:=zm h
  try simp -implicitDefEqProofs only[go_sem,b3]
  refine callG (znu (⟨a0.nodes,a0.edges⟩:z8) (⟨a1.nodes,a1.edges⟩:zdb) r4 hr4) (by simp -implicitDefEqProofs only[go_sem,b3]<;>rfl) (zb _) (by first | exact pers | exact scal rfl) ?_
  cases h
  try simp -implicitDefEqProofs only[go_sem,b3]
  all_goals((repeat' apply And.intro)<;>rfl)
 ·replace h:=ze h b3
  cases h
  try simp -implicitDefEqProofs only[go_sem,b3]
  all_goals((repeat' apply And.intro)<;>rfl)

theorem znt (a0:zl) (a1:Int) (r:(List Int)×Int) (h:ze6 a0 a1=some r):zbt Tryz.prog 65 [.agg [.lst (a0.nodes.map encNode),.lst (a0.edges.map encEdgeT)],.val (.int .i64 a1)] (fun v=>v = .tup [.row 3 1 (r.1.map encI),.p (.val (.int .i64 r.2))]):=by
 refine zbt.rle ?_
 refine zbx [30] Ty.mixed Tryz.func65 rfl (by kernel_rfl) (by simp[Tryz.ntmps65]) ?_; rw[Tryz.ntmps65,Tryz.results65]
 unfold ze6 at h
 obtain⟨r2,hr2,h⟩:=zm h
 try simp -implicitDefEqProofs only[go_sem]
 refine callG (znz a0 a1 a1 r2 hr2) (by simp -implicitDefEqProofs only[go_sem]<;>rfl) (zb _) (by first | exact pers | exact scal rfl) ?_
 try simp -implicitDefEqProofs only[go_sem]
 refine zg (fun b3=>?_) (fun b3=>?_)
 ·replace h:=zd h b3
  obtain⟨fus4,h⟩:=zbg h
  unfold fuel at fus4
  try simp -implicitDefEqProofs only[go_sem,b3]
  refine zbe (fun x:(Nat×((List Int)))×(Nat)=>envL [(1,.p (.val (.int .i64 a1))),(2,.ptr 2 0),(7,.row 5207 x.2),(8,.p (.val (.int .i64 ((x.1.1:Nat):Int))))]) (fun x=>heapL [(2,.box [.p (.lst (a0.nodes.map encNode)),.p (.lst (a0.edges.map encEdgeT))]),(5207,.row x.2 3 1 (x.1.2.map encI))]) 0 h (by refine Weak.trans (zhi 7 5207 3 1 rfl rfl (by decide)) ?_; exact (weakL (by simp -implicitDefEqProofs only[go_sem,b3]<;>((repeat' apply And.intro)<;>rfl)))) ?_ ?_
  ·intro i4 s4 g4 nxts4 Rs4 his4 hNs4 h
   have hws4:=zt (k:=i4) his4 (by omega)
   try dsimp only at h
   obtain⟨r5,hr5,h⟩:=zm h
   try simp -implicitDefEqProofs only[go_sem,b3,his4,hws4]
   refine callG (znj fuel a0 ((i4:Nat):Int) a1 r5 hr5) (by simp -implicitDefEqProofs only[go_sem,b3,his4,hws4]<;>rfl) (zb _) (by first | exact pers | exact scal rfl) ?_
   try simp -implicitDefEqProofs only[go_sem,b3,his4,hws4]
   refine zc (fun b6=>?_) (fun b6=>?_)
   ·replace h:=zd h b6
    obtain⟨c7,h⟩:=zbg h
    have k8:=eq_true (show (s4.length+1) * 8≤140737488355328 by omega)
    have a9:=zfc encI s4 [((i4:Nat):Int)] (c:=[[.val (.int .i64 ((i4:Nat):Int))]]) rfl
    try simp -implicitDefEqProofs only[go_sem,b3,his4,hws4,b6,c7,k8,a9]
    exact hNs4 (s4++[((i4:Nat):Int)]) (g4+1) h (weakL (by simp -implicitDefEqProofs only[go_sem,b3,his4,hws4,b6,c7,k8,a9]<;>((repeat' apply And.intro)<;>rfl)))
   ·replace h:=ze h b6
    try simp -implicitDefEqProofs only[go_sem,b3,his4,hws4,b6]
    exact hNs4 s4 g4 h (weakL (by simp -implicitDefEqProofs only[go_sem,b3,his4,hws4,b6]<;>((repeat' apply And.intro)<;>rfl)))
  ·intro i4 s4 g4 Rs4 hes4 h
   have hns4:¬ (i4<a0.nodes.length):=by omega
   try dsimp only at h
   cases h
   try simp -implicitDefEqProofs only[go_sem,b3,hns4]
   refine⟨by decide,_,.refl _,?_⟩
   simp -implicitDefEqProofs only[go_sem,b3,hns4]<;>((repeat' apply And.intro)<;>rfl)
 ·replace h:=ze h b3
  cases h
  try simp -implicitDefEqProofs only[go_sem,b3]
  refine⟨by decide,_,.refl _,?_⟩
  simp -implicitDefEqProofs only[go_sem,b3]<;>((repeat' apply And.intro)<;>rfl)
theorem zj6 (a0:zl) (a1:z7) (r:Int) (h:zfe a0 a1=some r):zh Tryz.prog 149 [.agg [.lst (a0.nodes.map encNode),.lst (a0.edges.map encEdgeT)],.agg (zb2 a1)] (fun v=>v = .val (.int .i64 r)):=by
 refine zh.ple ?_
 refine zf [56] Ty.mixed Tryz.func149 rfl (by kernel_rfl) (by simp[Tryz.ntmps149]) ?_; rw[Tryz.ntmps149,Tryz.results149]
 unfold zfe at h
 obtain⟨r2,hr2,h⟩:=zm h
 try simp -implicitDefEqProofs only[go_sem]
 refine callG (zmk a0 r2 hr2) (by simp -implicitDefEqProofs only[go_sem]<;>rfl) (zb _) (by first | exact pers | exact scal rfl) ?_
 try simp -implicitDefEqProofs only[go_sem]
 refine zg (fun b3=>?_) (fun b3=>?_)
 ·replace h:=zd h b3
  obtain⟨r4,hr4,h⟩:=zm h
  try simp -implicitDefEqProofs only[go_sem,b3]
  refine callG (ziy a1.graph r4 hr4) (by simp -implicitDefEqProofs only[go_sem,b3]<;>rfl) (zb _) (by first | exact pers | exact scal rfl) ?_
  try simp -implicitDefEqProofs only[go_sem,b3]
  refine zg (fun b5=>?_) (fun b5=>?_)
  ·replace h:=zd h b5
   obtain⟨r6,hr6,h⟩:=zm h
   try simp -implicitDefEqProofs only[go_sem,b3,b5]
   refine callG (zf7 a1.graph.nodes (fun x7=>zgj x7 a0) 182 [] [.eptr [.lst (a0.nodes.map encNode),.lst (a0.edges.map encEdgeT)] 0] (fun x7 r h=>zqz x7 a0 r h) r6 hr6) (by simp -implicitDefEqProofs only[go_sem,b3,b5]<;>rfl) (zb _) (by first | exact pers | exact scal rfl) ?_
   try simp -implicitDefEqProofs only[go_sem,b3,b5]
   refine zw (fun b8=>?_) (fun b8=>?_)
   ·replace h:=zd h b8
    cases h
    try simp -implicitDefEqProofs only[go_sem,b3,b5,b8]
    all_goals((repeat' apply And.intro)<;>rfl)
   ·replace h:=ze h b8
    obtain⟨r9,hr9,h⟩:=zm h
    try simp -implicitDefEqProofs only[go_sem,b3,b5,b8]
    refine callG (ziw a1.graph.edges (fun x10=>zgi x10 a0) 184 [] [.eptr [.lst (a0.nodes.map encNode),.lst (a0.edges.map encEdgeT)] 0] (fun x10 r h=>zqt x10 a0 r h) r9 hr9) (by simp -implicitDefEqProofs only[go_sem,b3,b5,b8]<;>rfl) (zb _) (by first | exact pers | exact scal rfl) ?_
    try simp -implicitDefEqProofs only[go_sem,b3,b5,b8]
    refine zc (fun b11=>?_) (fun b11=>?_)
    ·replace h:=zd h b11
     cases h
     try simp -implicitDefEqProofs only[go_sem,b3,b5,b8,b11]
     all_goals((repeat' apply And.intro)<;>rfl)
    ·replace h:=ze h b11
     obtain⟨r12,hr12,h⟩:=zm h
     try simp -implicitDefEqProofs only[go_sem,b3,b5,b8,b11]
     refine callG (zgw a1.vars 0 12 r12 hr12) (by simp -implicitDefEqProofs only[go_sem,b3,b5,b8,b11]<;>rfl) (zb _) (by first | exact pers | exact scal rfl) ?_
     try simp -implicitDefEqProofs only[go_sem,b3,b5,b8,b11]
     refine zg (fun b13=>?_) (fun b13=>?_)
     ·replace h:=zd h b13
      try simp -implicitDefEqProofs only[go_sem,b3,b5,b8,b11,b13]
      refine zw (fun b14=>?_) (fun b14=>?_)
      ·replace h:=zd h b14
       cases h
       try simp -implicitDefEqProofs only[go_sem,b3,b5,b8,b11,b13,b14]
       all_goals((repeat' apply And.intro)<;>rfl)
      ·replace h:=ze h b14
       try simp -implicitDefEqProofs only[go_sem,b3,b5,b8,b11,b13,b14]
       refine zc (fun b15=>?_) (fun b15=>?_)
       ·replace h:=zd h b15
        cases h
        try simp -implicitDefEqProofs only[go_sem,b3,b5,b8,b11,b13,b14,b15]
        all_goals((repeat' apply And.intro)<;>rfl)
       ·replace h:=ze h b15
        obtain⟨⟨c16a,c16b⟩,h⟩:=zbg h
        have k17:=eq_true (show a1.vars * ((1:Nat):Int)≤140737488355328 by omega)
        have m18:=zvh zk2 a1.vars.toNat false (c:=[.val (.bool false)]) rfl
        obtain⟨fus19,h⟩:=zbg h
        unfold fuel at fus19
        try simp -implicitDefEqProofs only[go_sem,b3,b5,b8,b11,b13,b14,b15,c16a,c16b,k17,m18]
        refine zbe (fun x:(Nat×((List Bool)))×(Nat)=>envL [(2,.ptr 2 0),(3,.ptr 3 0),(8,.row 56 x.2),(58,.p (.lst (a1.slots.map zbs))),(59,.p (.val (.int .i64 ((a1.slots.length:Nat):Int)))),(60,.p (.val (.int .i64 ((x.1.1:Nat):Int))))]) (fun x=>heapL [(2,.box [.p (.lst (a0.nodes.map encNode)),.p (.lst (a0.edges.map encEdgeT))]),(3,.box ((zb2 a1).map .p)),(56,.row x.2 4 1 (x.1.2.map zk2))]) 0 h (weakL (by simp -implicitDefEqProofs only[go_sem,b3,b5,b8,b11,b13,b14,b15,c16a,c16b,k17,m18]<;>((repeat' apply And.intro)<;>rfl))) ?_ ?_
        ·intro i19 s19 g19 nxts19 Rs19 his19 hNs19 h
         have hws19:=zt (k:=i19) his19 (by omega)
         try dsimp only at h
         obtain⟨e20,c20,g20,q20,h⟩:=zbu zbs h
         obtain⟨r21,hr21,h⟩:=zm h
         try simp -implicitDefEqProofs only[go_sem,b3,b5,b8,b11,b13,b14,b15,c16a,c16b,k17,m18,his19,hws19,c20,g20]
         refine callG (ztp a0 a1 e20 r21 hr21) (by simp -implicitDefEqProofs only[go_sem,b3,b5,b8,b11,b13,b14,b15,c16a,c16b,k17,m18,his19,hws19,c20,g20]<;>rfl) (zb _) (by first | exact pers | exact scal rfl) ?_
         try simp -implicitDefEqProofs only[go_sem,b3,b5,b8,b11,b13,b14,b15,c16a,c16b,k17,m18,his19,hws19,c20,g20]
         refine zq (fun b22=>?_) (fun b22=>?_)
         ·replace h:=zd h b22
          obtain⟨r23,hr23,h⟩:=zm h
          try simp -implicitDefEqProofs only[go_sem,b3,b5,b8,b11,b13,b14,b15,c16a,c16b,k17,m18,his19,hws19,c20,g20,b22]
          refine callG (zgw e20.term.var (-1) (IntKind.i64.wrap (a1.vars - 1)) r23 hr23) (by simp -implicitDefEqProofs only[go_sem,b3,b5,b8,b11,b13,b14,b15,c16a,c16b,k17,m18,his19,hws19,c20,g20,b22]<;>rfl) (zb _) (by first | exact pers | exact scal rfl) ?_
          try simp -implicitDefEqProofs only[go_sem,b3,b5,b8,b11,b13,b14,b15,c16a,c16b,k17,m18,his19,hws19,c20,g20,b22]
          refine zq (fun b24=>?_) (fun b24=>?_)
          ·replace h:=zd h b24
           obtain⟨r25,hr25,h⟩:=zm h
           try simp -implicitDefEqProofs only[go_sem,b3,b5,b8,b11,b13,b14,b15,c16a,c16b,k17,m18,his19,hws19,c20,g20,b22,b24]
           refine callG (zgw e20.term.add (-1000000) 1000000 r25 hr25) (by simp -implicitDefEqProofs only[go_sem,b3,b5,b8,b11,b13,b14,b15,c16a,c16b,k17,m18,his19,hws19,c20,g20,b22,b24]<;>rfl) (zb _) (by first | exact pers | exact scal rfl) ?_
           try simp -implicitDefEqProofs only[go_sem,b3,b5,b8,b11,b13,b14,b15,c16a,c16b,k17,m18,his19,hws19,c20,g20,b22,b24]
           refine zg (fun b26=>?_) (fun b26=>?_)
           ·replace h:=zd h b26
            try simp -implicitDefEqProofs only[go_sem,b3,b5,b8,b11,b13,b14,b15,c16a,c16b,k17,m18,his19,hws19,c20,g20,b22,b24,b26]
            refine zc (fun b27=>?_) (fun b27=>?_)
            ·replace h:=zd h b27
             obtain⟨e28,c28a,c28b,g28,q28,h⟩:=zce zk2 h
             have c28n:=zbv c28a c28b
             have s29:=zs8 zk2 s19 e20.term.var.toNat true (c:=[.val (.bool true)]) rfl
             try simp -implicitDefEqProofs only[go_sem,b3,b5,b8,b11,b13,b14,b15,c16a,c16b,k17,m18,his19,hws19,c20,g20,b22,b24,b26,b27,c28a,c28b,c28n,g28,s29]
             exact hNs19 (s19.set e20.term.var.toNat true) g19 h (weakL (by simp -implicitDefEqProofs only[go_sem,b3,b5,b8,b11,b13,b14,b15,c16a,c16b,k17,m18,his19,hws19,c20,g20,b22,b24,b26,b27,c28a,c28b,c28n,g28,s29]<;>((repeat' apply And.intro)<;>rfl)))
            ·replace h:=ze h b27
             try simp -implicitDefEqProofs only[go_sem,b3,b5,b8,b11,b13,b14,b15,c16a,c16b,k17,m18,his19,hws19,c20,g20,b22,b24,b26,b27]
             exact hNs19 s19 g19 h (weakL (by simp -implicitDefEqProofs only[go_sem,b3,b5,b8,b11,b13,b14,b15,c16a,c16b,k17,m18,his19,hws19,c20,g20,b22,b24,b26,b27]<;>((repeat' apply And.intro)<;>rfl)))
           ·replace h:=ze h b26
            cases h
            try simp -implicitDefEqProofs only[go_sem,b3,b5,b8,b11,b13,b14,b15,c16a,c16b,k17,m18,his19,hws19,c20,g20,b22,b24,b26]
            all_goals((repeat' apply And.intro)<;>rfl)
          ·replace h:=ze h b24
           cases h
           try simp -implicitDefEqProofs only[go_sem,b3,b5,b8,b11,b13,b14,b15,c16a,c16b,k17,m18,his19,hws19,c20,g20,b22,b24]
           all_goals((repeat' apply And.intro)<;>rfl)
         ·replace h:=ze h b22
          cases h
          try simp -implicitDefEqProofs only[go_sem,b3,b5,b8,b11,b13,b14,b15,c16a,c16b,k17,m18,his19,hws19,c20,g20,b22]
          all_goals((repeat' apply And.intro)<;>rfl)
        ·intro i19 s19 g19 Rs19 hes19 h
         have hns19:¬ (i19<a1.slots.length):=by omega
         try dsimp only at h
         obtain⟨r30,hr30,h⟩:=zm h
         try simp -implicitDefEqProofs only[go_sem,b3,b5,b8,b11,b13,b14,b15,c16a,c16b,k17,m18,hns19]
         refine callG (zrz a1.vars a1.tests r30 hr30) (by simp -implicitDefEqProofs only[go_sem,b3,b5,b8,b11,b13,b14,b15,c16a,c16b,k17,m18,hns19]<;>rfl) (zb _) (by first | exact pers | exact scal rfl) ?_
         try simp -implicitDefEqProofs only[go_sem,b3,b5,b8,b11,b13,b14,b15,c16a,c16b,k17,m18,hns19]
         refine zg (fun b31=>?_) (fun b31=>?_)
         ·replace h:=zd h b31
          obtain⟨r32,hr32,h⟩:=zm h
          try simp -implicitDefEqProofs only[go_sem,b3,b5,b8,b11,b13,b14,b15,c16a,c16b,k17,m18,hns19,b31]
          refine callG (zos s19 false r32 hr32) (by simp -implicitDefEqProofs only[go_sem,b3,b5,b8,b11,b13,b14,b15,c16a,c16b,k17,m18,hns19,b31]<;>rfl) (zb _) (by first | exact pers | exact scal rfl) ?_
          try simp -implicitDefEqProofs only[go_sem,b3,b5,b8,b11,b13,b14,b15,c16a,c16b,k17,m18,hns19,b31]
          refine zc (fun b33=>?_) (fun b33=>?_)
          ·replace h:=zd h b33
           cases h
           try simp -implicitDefEqProofs only[go_sem,b3,b5,b8,b11,b13,b14,b15,c16a,c16b,k17,m18,hns19,b31,b33]
           all_goals((repeat' apply And.intro)<;>rfl)
          ·replace h:=ze h b33
           cases h
           try simp -implicitDefEqProofs only[go_sem,b3,b5,b8,b11,b13,b14,b15,c16a,c16b,k17,m18,hns19,b31,b33]
           all_goals((repeat' apply And.intro)<;>rfl)
         ·replace h:=ze h b31
          cases h
          try simp -implicitDefEqProofs only[go_sem,b3,b5,b8,b11,b13,b14,b15,c16a,c16b,k17,m18,hns19,b31]
          all_goals((repeat' apply And.intro)<;>rfl)
     ·replace h:=ze h b13
      cases h
      try simp -implicitDefEqProofs only[go_sem,b3,b5,b8,b11,b13]
      all_goals((repeat' apply And.intro)<;>rfl)
  ·replace h:=ze h b5
   cases h
   try simp -implicitDefEqProofs only[go_sem,b3,b5]
   all_goals((repeat' apply And.intro)<;>rfl)
 ·replace h:=ze h b3
  cases h
  try simp -implicitDefEqProofs only[go_sem,b3]
  all_goals((repeat' apply And.intro)<;>rfl)
theorem zho (a0:zl) (a1:z7) (r:Int) (h:zcs a0 a1=some r):zh Tryz.prog 126 [.agg [.lst (a0.nodes.map encNode),.lst (a0.edges.map encEdgeT)],.agg (zb2 a1)] (fun v=>v = .val (.int .i64 r)):=by
 refine zh.ple ?_
 refine zf [] Ty.mixed Tryz.func126 rfl (by kernel_rfl) (by simp[Tryz.ntmps126]) ?_; rw[Tryz.ntmps126,Tryz.results126]
 unfold zcs at h
 obtain⟨r2,hr2,h⟩:=zm h
 try simp -implicitDefEqProofs only[go_sem]
 refine callG (zgh a0 r2 hr2) (by simp -implicitDefEqProofs only[go_sem]<;>rfl) (zb _) (by first | exact pers | exact scal rfl) ?_
 try simp -implicitDefEqProofs only[go_sem]
 refine zg (fun b3=>?_) (fun b3=>?_)
 ·replace h:=zd h b3
  obtain⟨r4,hr4,h⟩:=zm h
  try simp -implicitDefEqProofs only[go_sem,b3]
  refine callG (ze8 a1.graph r4 hr4) (by simp -implicitDefEqProofs only[go_sem,b3]<;>rfl) (zb _) (by first | exact pers | exact scal rfl) ?_
  try simp -implicitDefEqProofs only[go_sem,b3]
  refine zg (fun b5=>?_) (fun b5=>?_)
  ·replace h:=zd h b5
   obtain⟨r6,hr6,h⟩:=zm h
   try simp -implicitDefEqProofs only[go_sem,b3,b5]
   refine callG (zj2 a0 a1.graph r6 hr6) (by simp -implicitDefEqProofs only[go_sem,b3,b5]<;>rfl) (zb _) (by first | exact pers | exact scal rfl) ?_
   try simp -implicitDefEqProofs only[go_sem,b3,b5]
   refine zg (fun b7=>?_) (fun b7=>?_)
   ·replace h:=zd h b7
    try simp -implicitDefEqProofs only[go_sem,b3,b5,b7]
    refine zw (fun b8=>?_) (fun b8=>?_)
    ·replace h:=zd h b8
     cases h
     try simp -implicitDefEqProofs only[go_sem,b3,b5,b7,b8]
     all_goals((repeat' apply And.intro)<;>rfl)
    ·replace h:=ze h b8
     try simp -implicitDefEqProofs only[go_sem,b3,b5,b7,b8]
     refine zc (fun b9=>?_) (fun b9=>?_)
     ·replace h:=zd h b9
      cases h
      try simp -implicitDefEqProofs only[go_sem,b3,b5,b7,b8,b9]
      all_goals((repeat' apply And.intro)<;>rfl)
     ·replace h:=ze h b9
      try simp -implicitDefEqProofs only[go_sem,b3,b5,b7,b8,b9]
      refine zw (fun b10=>?_) (fun b10=>?_)
      ·replace h:=zd h b10
       cases h
       try simp -implicitDefEqProofs only[go_sem,b3,b5,b7,b8,b9,b10]
       all_goals((repeat' apply And.intro)<;>rfl)
      ·replace h:=ze h b10
       try simp -implicitDefEqProofs only[go_sem,b3,b5,b7,b8,b9,b10]
       refine zc (fun b11=>?_) (fun b11=>?_)
       ·replace h:=zd h b11
        cases h
        try simp -implicitDefEqProofs only[go_sem,b3,b5,b7,b8,b9,b10,b11]
        all_goals((repeat' apply And.intro)<;>rfl)
       ·replace h:=ze h b11
        obtain⟨fus12,h⟩:=zbg h
        unfold fuel at fus12
        try simp -implicitDefEqProofs only[go_sem,b3,b5,b7,b8,b9,b10,b11]
        refine zbe (fun x:(Nat×(Unit))×(Unit)=>envL [(2,.ptr 2 0),(3,.ptr 3 0),(8,.p (.val (.int .i64 ((x.1.1:Nat):Int))))]) (fun x=>heapL [(2,.box [.p (.lst (a0.nodes.map encNode)),.p (.lst (a0.edges.map encEdgeT))]),(3,.box ((zb2 a1).map .p))]) () h (weakL (by simp -implicitDefEqProofs only[go_sem,b3,b5,b7,b8,b9,b10,b11]<;>((repeat' apply And.intro)<;>rfl))) ?_ ?_
        ·intro i12 s12 g12 nxts12 Rs12 his12 hNs12 h
         have hws12:=zt (k:=i12) his12 (by omega)
         try dsimp only at h
         obtain⟨e13,c13,g13,q13,h⟩:=zbu zbs h
         obtain⟨r14,hr14,h⟩:=zm h
         try simp -implicitDefEqProofs only[go_sem,b3,b5,b7,b8,b9,b10,b11,his12,hws12,c13,g13]
         refine callG (zok (⟨a0.nodes,a0.edges⟩:zl) a1 e13.node e13.attr r14 hr14) (by simp -implicitDefEqProofs only[go_sem,b3,b5,b7,b8,b9,b10,b11,his12,hws12,c13,g13]<;>rfl) (zb _) (by first | exact pers | exact scal rfl) ?_
         try simp -implicitDefEqProofs only[go_sem,b3,b5,b7,b8,b9,b10,b11,his12,hws12,c13,g13]
         refine zq (fun b15=>?_) (fun b15=>?_)
         ·replace h:=zd h b15
          try simp -implicitDefEqProofs only[go_sem,b3,b5,b7,b8,b9,b10,b11,his12,hws12,c13,g13,b15]
          refine zw (fun b16=>?_) (fun b16=>?_)
          ·replace h:=zd h b16
           cases h
           try simp -implicitDefEqProofs only[go_sem,b3,b5,b7,b8,b9,b10,b11,his12,hws12,c13,g13,b15,b16]
           all_goals((repeat' apply And.intro)<;>rfl)
          ·replace h:=ze h b16
           try simp -implicitDefEqProofs only[go_sem,b3,b5,b7,b8,b9,b10,b11,his12,hws12,c13,g13,b15,b16]
           refine zw (fun b17=>?_) (fun b17=>?_)
           ·replace h:=zd h b17
            cases h
            try simp -implicitDefEqProofs only[go_sem,b3,b5,b7,b8,b9,b10,b11,his12,hws12,c13,g13,b15,b16,b17]
            all_goals((repeat' apply And.intro)<;>rfl)
           ·replace h:=ze h b17
            obtain⟨r18,hr18,h⟩:=zm h
            try simp -implicitDefEqProofs only[go_sem,b3,b5,b7,b8,b9,b10,b11,his12,hws12,c13,g13,b15,b16,b17]
            refine callG (zms e13.term.add r18 hr18) (by simp -implicitDefEqProofs only[go_sem,b3,b5,b7,b8,b9,b10,b11,his12,hws12,c13,g13,b15,b16,b17]<;>rfl) (zb _) (by first | exact pers | exact scal rfl) ?_
            try simp -implicitDefEqProofs only[go_sem,b3,b5,b7,b8,b9,b10,b11,his12,hws12,c13,g13,b15,b16,b17]
            refine zg (fun b19=>?_) (fun b19=>?_)
            ·replace h:=zd h b19
             try simp -implicitDefEqProofs only[go_sem,b3,b5,b7,b8,b9,b10,b11,his12,hws12,c13,g13,b15,b16,b17,b19]
             exact hNs12 () () h (weakL (by simp -implicitDefEqProofs only[go_sem,b3,b5,b7,b8,b9,b10,b11,his12,hws12,c13,g13,b15,b16,b17,b19]<;>((repeat' apply And.intro)<;>rfl)))
            ·replace h:=ze h b19
             cases h
             try simp -implicitDefEqProofs only[go_sem,b3,b5,b7,b8,b9,b10,b11,his12,hws12,c13,g13,b15,b16,b17,b19]
             all_goals((repeat' apply And.intro)<;>rfl)
         ·replace h:=ze h b15
          cases h
          try simp -implicitDefEqProofs only[go_sem,b3,b5,b7,b8,b9,b10,b11,his12,hws12,c13,g13,b15]
          all_goals((repeat' apply And.intro)<;>rfl)
        ·intro i12 s12 g12 Rs12 hes12 h
         have hns12:¬ (i12<a1.slots.length):=by omega
         try dsimp only at h
         obtain⟨r20,hr20,h⟩:=zm h
         try simp -implicitDefEqProofs only[go_sem,b3,b5,b7,b8,b9,b10,b11,hns12]
         refine callG (znq a1.vars a1.tests r20 hr20) (by simp -implicitDefEqProofs only[go_sem,b3,b5,b7,b8,b9,b10,b11,hns12]<;>rfl) (zb _) (by first | exact pers | exact scal rfl) ?_
         try simp -implicitDefEqProofs only[go_sem,b3,b5,b7,b8,b9,b10,b11,hns12]
         refine zg (fun b21=>?_) (fun b21=>?_)
         ·replace h:=zd h b21
          obtain⟨fus22,h⟩:=zbg h
          unfold fuel at fus22
          try simp -implicitDefEqProofs only[go_sem,b3,b5,b7,b8,b9,b10,b11,hns12,b21]
          refine zbe (fun x:(Nat×(Unit))×(Unit)=>envL [(3,.ptr 3 0),(13,.p (.val (.int .i64 ((x.1.1:Nat):Int))))]) (fun x=>heapL [(3,.box [.p (.lst (a1.graph.nodes.map encI)),.p (.lst (a1.graph.edges.map encEdge)),.p (.lst (a1.slots.map zbs)),.p (.val (.int .i64 a1.vars)),.p (.lst (a1.tests.map zb7))])]) () h (weakL (by simp -implicitDefEqProofs only[go_sem,b3,b5,b7,b8,b9,b10,b11,hns12,b21]<;>((repeat' apply And.intro)<;>rfl))) ?_ ?_
          ·intro i22 s22 g22 nxts22 Rs22 his22 hNs22 h
           have hws22:=zt (k:=i22) his22 (by omega)
           have hjs22:((i22:Nat):Int)<a1.vars:=by omega
           try dsimp only at h
           obtain⟨r23,hr23,h⟩:=zm h
           try simp -implicitDefEqProofs only[go_sem,b3,b5,b7,b8,b9,b10,b11,hns12,b21,his22,hws22,hjs22]
           refine callG (znf (⟨a1.graph,a1.slots,a1.vars,a1.tests⟩:z7) ((i22:Nat):Int) r23 hr23) (by simp -implicitDefEqProofs only[go_sem,b3,b5,b7,b8,b9,b10,b11,hns12,b21,his22,hws22,hjs22]<;>rfl) (zb _) (by first | exact pers | exact scal rfl) ?_
           try simp -implicitDefEqProofs only[go_sem,b3,b5,b7,b8,b9,b10,b11,hns12,b21,his22,hws22,hjs22]
           refine zg (fun b24=>?_) (fun b24=>?_)
           ·replace h:=zd h b24
            try simp -implicitDefEqProofs only[go_sem,b3,b5,b7,b8,b9,b10,b11,hns12,b21,his22,hws22,hjs22,b24]
            exact hNs22 () () h (weakL (by simp -implicitDefEqProofs only[go_sem,b3,b5,b7,b8,b9,b10,b11,hns12,b21,his22,hws22,hjs22,b24]<;>((repeat' apply And.intro)<;>rfl)))
           ·replace h:=ze h b24
            cases h
            try simp -implicitDefEqProofs only[go_sem,b3,b5,b7,b8,b9,b10,b11,hns12,b21,his22,hws22,hjs22,b24]
            all_goals((repeat' apply And.intro)<;>rfl)
          ·intro i22 s22 g22 Rs22 hes22 h
           have hns22:¬ (((i22:Nat):Int)<a1.vars):=by omega
           try dsimp only at h
           cases h
           try simp -implicitDefEqProofs only[go_sem,b3,b5,b7,b8,b9,b10,b11,hns12,b21,hns22]
           all_goals((repeat' apply And.intro)<;>rfl)
         ·replace h:=ze h b21
          cases h
          try simp -implicitDefEqProofs only[go_sem,b3,b5,b7,b8,b9,b10,b11,hns12,b21]
          all_goals((repeat' apply And.intro)<;>rfl)
   ·replace h:=ze h b7
    cases h
    try simp -implicitDefEqProofs only[go_sem,b3,b5,b7]
    all_goals((repeat' apply And.intro)<;>rfl)
  ·replace h:=ze h b5
   cases h
   try simp -implicitDefEqProofs only[go_sem,b3,b5]
   all_goals((repeat' apply And.intro)<;>rfl)
 ·replace h:=ze h b3
  cases h
  try simp -implicitDefEqProofs only[go_sem,b3]
  all_goals((repeat' apply And.intro)<;>rfl)
theorem zmx (a0:z8) (a1:zdb) (r:z8×zby×Int) (h:zeo a0 a1=some r):zbt Tryz.prog 99 [.agg [.lst (a0.nodes.map encI),.lst (a0.edges.map encEdge)],.agg [.lst (a1.nodes.map encI),.lst (a1.edges.map encI)]] (fun v=>v = .tup [.agg [.row 3 1 (r.1.nodes.map encI),.row 117 3 (r.1.edges.map encEdge)],.agg [.row 3 1 (r.2.1.nodes.map encI),.row 3 1 (r.2.1.edges.map encI)],.p (.val (.int .i64 r.2.2))]):=by
 refine zbt.rle ?_
 refine zbx [39,73,76,79,80,83] Ty.mixed Tryz.func99 rfl (by kernel_rfl) (by simp[Tryz.ntmps99]) ?_; rw[Tryz.ntmps99,Tryz.results99]
 unfold zeo at h
 obtain⟨r2,hr2,h⟩:=zm h
 try simp -implicitDefEqProofs only[go_sem]
 refine callG (zj5 a0 a1 r2 hr2) (by simp -implicitDefEqProofs only[go_sem]<;>rfl) (zb _) (by first | exact pers | exact scal rfl) ?_
 try simp -implicitDefEqProofs only[go_sem]
 refine zg (fun b3=>?_) (fun b3=>?_)
 ·replace h:=zd h b3
  obtain⟨fus4,h⟩:=zbg h
  unfold fuel at fus4
  try simp -implicitDefEqProofs only[go_sem,b3]
  refine zbe (fun x:(Nat×((List Int)))×(Nat)=>envL [(2,.ptr 2 0),(3,.ptr 3 0),(4,.ptr 4 0),(5,.ptr 5 0),(8,.ptr 8 0),(9,.p (.val (.int .i64 ((x.1.1:Nat):Int))))]) (fun x=>heapL [(2,.box [.p (.lst (a0.nodes.map encI)),.p (.lst (a0.edges.map encEdge))]),(3,.box [.p (.lst (a1.nodes.map encI)),.p (.lst (a1.edges.map encI))]),(4,.box [.p (.val (.slice none 0 0)),.p (.val (.slice none 0 0))]),(5,.box [.p (.val (.slice none 0 0)),.p (.val (.slice none 0 0))]),(8,.box [.row 4779 x.2,.p (.val (.slice none 0 0))]),(4779,.row x.2 3 1 (x.1.2.map encI))]) 0 h (by refine Weak.trans (zlp 8 0 4779 3 1 _ rfl rfl rfl (by decide)) ?_; exact (weakL (by simp -implicitDefEqProofs only[go_sem,b3]<;>((repeat' apply And.intro)<;>rfl)))) ?_ ?_
  ·intro i4 s4 g4 nxts4 Rs4 his4 hNs4 h
   have hws4:=zt (k:=i4) his4 (by omega)
   try dsimp only at h
   try simp -implicitDefEqProofs only[go_sem,b3,his4,hws4]
   refine zfg [(0,.p),(2,.q),(3,.q),(4,.q),(5,.q),(6,.q),(7,.q),(8,.q),(9,.q),(10,.q),(11,.p),(1,.q),(12,.w),(13,.q),(14,.w)] (by kernel_rfl) ?_
   obtain⟨e5,c5,g5,q5,h⟩:=zbu encI h
   obtain⟨e6,c6a,c6b,g6,q6,h⟩:=zce encI h
   have c6n:=zbv c6a c6b
   obtain⟨c7,h⟩:=zbg h
   have k8:=eq_true (show (s4.length+1) * 8≤140737488355328 by omega)
   have a9:=zfc encI s4 [e6] (c:=[[.val (.int .i64 e6)]]) rfl
   try simp -implicitDefEqProofs only[go_sem,b3,his4,hws4,c5,g5,c6a,c6b,c6n,g6,c7,k8,a9]
   exact hNs4 (s4++[e6]) (g4+1) h (weakL (by simp -implicitDefEqProofs only[go_sem,b3,his4,hws4,c5,g5,c6a,c6b,c6n,g6,c7,k8,a9]<;>((repeat' apply And.intro)<;>rfl)))
  ·intro i4 s4 g4 Rs4 hes4 h
   have hns4:¬ (i4<a1.nodes.length):=by omega
   try dsimp only at h
   obtain⟨fus10,h⟩:=zbg h
   unfold fuel at fus10
   try simp -implicitDefEqProofs only[go_sem,b3,hns4]
   refine zbe (fun x:(Nat×((List Edge)))×(Nat)=>envL [(2,.ptr 2 0),(3,.ptr 3 0),(4,.ptr 4 0),(5,.ptr 5 0),(8,.ptr 8 0),(10,.p (.val (.int .i64 ((x.1.1:Nat):Int))))]) (fun x=>heapL [(2,.box [.p (.lst (a0.nodes.map encI)),.p (.lst (a0.edges.map encEdge))]),(3,.box [.p (.lst (a1.nodes.map encI)),.p (.lst (a1.edges.map encI))]),(4,.box [.p (.val (.slice none 0 0)),.p (.val (.slice none 0 0))]),(5,.box [.p (.val (.slice none 0 0)),.p (.val (.slice none 0 0))]),(8,.box [.row 4779 g4,.row 4813 x.2]),(4779,.row g4 3 1 (s4.map encI)),(4813,.row x.2 117 3 (x.1.2.map encEdge))]) 0 h (by refine Weak.trans (zlp 8 1 4813 117 3 _ rfl rfl rfl (by decide)) ?_; exact (weakL (by simp -implicitDefEqProofs only[go_sem,b3,hns4]<;>((repeat' apply And.intro)<;>rfl)))) ?_ ?_
   ·intro i10 s10 g10 nxts10 Rs10 his10 hNs10 h
    have hws10:=zt (k:=i10) his10 (by omega)
    try dsimp only at h
    try simp -implicitDefEqProofs only[go_sem,b3,hns4,his10,hws10]
    refine zbn [.q,.q,.q,.q,.q,.q,.q,.q,.q,.w,.s] (by kernel_rfl) ?_
    obtain⟨e11,c11,g11,q11,h⟩:=zbu encI h
    obtain⟨e12,c12a,c12b,g12,q12,h⟩:=zce encEdge h
    have c12n:=zbv c12a c12b
    try simp -implicitDefEqProofs only[go_sem,b3,hns4,his10,hws10,c11,g11,c12a,c12b,c12n,g12]
    refine zfg [(0,.p),(2,.q),(3,.q),(4,.q),(5,.q),(6,.q),(7,.q),(8,.q),(9,.q),(10,.q),(11,.q),(12,.q),(13,.q),(14,.q),(15,.p),(1,.q),(16,.w),(17,.q),(18,.w)] (by kernel_rfl) ?_
    obtain⟨r13,hr13,h⟩:=zm h
    try simp -implicitDefEqProofs only[go_sem,b3,hns4,his10,hws10,c11,g11,c12a,c12b,c12n,g12]
    refine calldG (zj4 a1.nodes e12.src r13 hr13) (by simp -implicitDefEqProofs only[go_sem,b3,hns4,his10,hws10,c11,g11,c12a,c12b,c12n,g12]<;>rfl) (zb _) (by first | exact pers | exact scal rfl) ?_
    obtain⟨r14,hr14,h⟩:=zm h
    try simp -implicitDefEqProofs only[go_sem,b3,hns4,his10,hws10,c11,g11,c12a,c12b,c12n,g12]
    refine calldG (zj4 a1.nodes e12.dst r14 hr14) (by simp -implicitDefEqProofs only[go_sem,b3,hns4,his10,hws10,c11,g11,c12a,c12b,c12n,g12]<;>rfl) (zb _) (by first | exact pers | exact scal rfl) ?_
    obtain⟨c15,h⟩:=zbg h
    have k16:=eq_true (show (s10.length+1) * 24≤140737488355328 by omega)
    have a17:=zfc encEdge s10 [(⟨e12.type,r13,r14⟩:Edge)] (c:=[[.val (.int .i64 e12.type),.val (.int .i64 r13),.val (.int .i64 r14)]]) rfl
    try simp -implicitDefEqProofs only[go_sem,b3,hns4,his10,hws10,c11,g11,c12a,c12b,c12n,g12,c15,k16,a17]
    exact hNs10 (s10++[(⟨e12.type,r13,r14⟩:Edge)]) (g10+1) h (weakL (by simp -implicitDefEqProofs only[go_sem,b3,hns4,his10,hws10,c11,g11,c12a,c12b,c12n,g12,c15,k16,a17]<;>((repeat' apply And.intro)<;>rfl)))
   ·intro i10 s10 g10 Rs10 hes10 h
    have hns10:¬ (i10<a1.edges.length):=by omega
    try dsimp only at h
    try simp -implicitDefEqProofs only[go_sem,b3,hns4,hns10]
    refine zfg [(0,.b),(2,.q),(3,.q),(6,.b),(7,.b),(1,.w),(4,.s),(5,.w),(8,.s),(9,.p),(10,.w),(11,.w),(12,.q)] (by kernel_rfl) ?_
    obtain⟨c18,h⟩:=zbg h
    have k19:=eq_true (show (a1.nodes.length) * 8≤140737488355328 by omega)
    have k20:=eq_true (zjx (n:=1) (f:=encI) (fun _=>rfl) a1.nodes)
    obtain⟨c21,h⟩:=zbg h
    have k22:=eq_true (show (a1.edges.length) * 8≤140737488355328 by omega)
    have k23:=eq_true (zjx (n:=1) (f:=encI) (fun _=>rfl) a1.edges)
    cases h
    try simp -implicitDefEqProofs only[go_sem,b3,hns4,hns10,c18,k19,k20,c21,k22,k23]
    refine⟨by decide,_,.refl _,?_⟩
    simp -implicitDefEqProofs only[go_sem,b3,hns4,hns10,c18,k19,k20,c21,k22,k23]<;>((repeat' apply And.intro)<;>rfl)
 ·replace h:=ze h b3
  cases h
  try simp -implicitDefEqProofs only[go_sem,b3]
  refine⟨by decide,_,.refl _,?_⟩
  simp -implicitDefEqProofs only[go_sem,b3]<;>((repeat' apply And.intro)<;>rfl)
theorem zxs (a0:zl) (a1:zu) (r:Int) (h:zjq a0 a1=some r):zh Tryz.prog 150 [.agg [.lst (a0.nodes.map encNode),.lst (a0.edges.map encEdgeT)],.agg (zbj a1)] (fun v=>v = .val (.int .i64 r)):=by
 refine zh.ple ?_
 refine zf [] Ty.mixed Tryz.func150 rfl (by kernel_rfl) (by simp[Tryz.ntmps150]) ?_; rw[Tryz.ntmps150,Tryz.results150]
 unfold zjq at h
 obtain⟨r2,hr2,h⟩:=zm h
 try simp -implicitDefEqProofs only[go_sem]
 refine callG (ziy a1.right.graph r2 hr2) (by simp -implicitDefEqProofs only[go_sem]<;>rfl) (zb _) (by first | exact pers | exact scal rfl) ?_
 try simp -implicitDefEqProofs only[go_sem]
 refine zg (fun b3=>?_) (fun b3=>?_)
 ·replace h:=zd h b3
  obtain⟨r4,hr4,h⟩:=zm h
  try simp -implicitDefEqProofs only[go_sem,b3]
  refine callG (zzo (⟨a0.nodes,a0.edges⟩:zl) a1.right.graph r4 hr4) (by simp -implicitDefEqProofs only[go_sem,b3]<;>rfl) (zb _) (by first | exact pers | exact scal rfl) ?_
  try simp -implicitDefEqProofs only[go_sem,b3]
  refine zg (fun b5=>?_) (fun b5=>?_)
  ·replace h:=zd h b5
   try simp -implicitDefEqProofs only[go_sem,b3,b5]
   refine zq (fun b6=>?_) (fun b6=>?_)
   ·replace h:=zd h b6
    try simp -implicitDefEqProofs only[go_sem,b3,b5,b6]
    refine zc (fun b7=>?_) (fun b7=>?_)
    ·replace h:=zd h b7
     cases h
     try simp -implicitDefEqProofs only[go_sem,b3,b5,b6,b7]
     all_goals((repeat' apply And.intro)<;>rfl)
    ·replace h:=ze h b7
     try simp -implicitDefEqProofs only[go_sem,b3,b5,b6,b7]
     refine zc (fun b8=>?_) (fun b8=>?_)
     ·replace h:=zd h b8
      cases h
      try simp -implicitDefEqProofs only[go_sem,b3,b5,b6,b7,b8]
      all_goals((repeat' apply And.intro)<;>rfl)
     ·replace h:=ze h b8
      obtain⟨fus9,h⟩:=zbg h
      unfold fuel at fus9
      try simp -implicitDefEqProofs only[go_sem,b3,b5,b6,b7,b8]
      refine zbe (fun x:(Nat×(Unit))×(Unit)=>envL [(2,.ptr 2 0),(3,.ptr 3 0),(46,.p (.val (.int .i64 ((a1.right.slots.length:Nat):Int)))),(47,.p (.val (.int .i64 ((x.1.1:Nat):Int))))]) (fun x=>heapL [(2,.box [.p (.lst (a0.nodes.map encNode)),.p (.lst (a0.edges.map encEdgeT))]),(3,.box [.p (.val (.string a1.name)),.p (.lst (a1.left.graph.nodes.map encI)),.p (.lst (a1.left.graph.edges.map encEdge)),.p (.lst (a1.left.slots.map zbs)),.p (.val (.int .i64 a1.left.vars)),.p (.lst (a1.left.tests.map zb7)),.p (.lst (a1.right.graph.nodes.map encI)),.p (.lst (a1.right.graph.edges.map encEdge)),.p (.lst (a1.right.slots.map zbs)),.p (.val (.int .i64 a1.right.vars)),.p (.lst (a1.right.tests.map zb7)),.p (.lst (a1.keep.nodes.map encI)),.p (.lst (a1.keep.edges.map encI)),.p (.lst (a1.into.nodes.map encI)),.p (.lst (a1.into.edges.map encI)),.p (.val (.bool a1.injective)),.p (.val (.int .i64 a1.condition.kind)),.p (.lst (a1.condition.kids.map zz)),.p (.lst (a1.condition.map.nodes.map encI)),.p (.lst (a1.condition.map.edges.map encI)),.p (.lst (a1.condition.pattern.graph.nodes.map encI)),.p (.lst (a1.condition.pattern.graph.edges.map encEdge)),.p (.lst (a1.condition.pattern.slots.map zbs)),.p (.val (.int .i64 a1.condition.pattern.vars)),.p (.lst (a1.condition.pattern.tests.map zb7))])]) () h (weakL (by simp -implicitDefEqProofs only[go_sem,b3,b5,b6,b7,b8]<;>((repeat' apply And.intro)<;>rfl))) ?_ ?_
      ·intro i9 s9 g9 nxts9 Rs9 his9 hNs9 h
       have hws9:=zt (k:=i9) his9 (by omega)
       try dsimp only at h
       obtain⟨r10,hr10,h⟩:=zm h
       try simp -implicitDefEqProofs only[go_sem,b3,b5,b6,b7,b8,his9,hws9]
       refine callG (z00 (⟨a0.nodes,a0.edges⟩:zl) (⟨a1.name,a1.left,a1.right,a1.keep,a1.into,a1.injective,a1.condition⟩:zu) ((i9:Nat):Int) r10 hr10) (by simp -implicitDefEqProofs only[go_sem,b3,b5,b6,b7,b8,his9,hws9]<;>rfl) (zb _) (by first | exact pers | exact scal rfl) ?_
       try simp -implicitDefEqProofs only[go_sem,b3,b5,b6,b7,b8,his9,hws9]
       refine zg (fun b11=>?_) (fun b11=>?_)
       ·replace h:=zd h b11
        try simp -implicitDefEqProofs only[go_sem,b3,b5,b6,b7,b8,his9,hws9,b11]
        exact hNs9 () () h (weakL (by simp -implicitDefEqProofs only[go_sem,b3,b5,b6,b7,b8,his9,hws9,b11]<;>((repeat' apply And.intro)<;>rfl)))
       ·replace h:=ze h b11
        cases h
        try simp -implicitDefEqProofs only[go_sem,b3,b5,b6,b7,b8,his9,hws9,b11]
        all_goals((repeat' apply And.intro)<;>rfl)
      ·intro i9 s9 g9 Rs9 hes9 h
       have hns9:¬ (i9<a1.right.slots.length):=by omega
       try dsimp only at h
       cases h
       try simp -implicitDefEqProofs only[go_sem,b3,b5,b6,b7,b8,hns9]
       all_goals((repeat' apply And.intro)<;>rfl)
   ·replace h:=ze h b6
    cases h
    try simp -implicitDefEqProofs only[go_sem,b3,b5,b6]
    all_goals((repeat' apply And.intro)<;>rfl)
  ·replace h:=ze h b5
   cases h
   try simp -implicitDefEqProofs only[go_sem,b3,b5]
   all_goals((repeat' apply And.intro)<;>rfl)
 ·replace h:=ze h b3
  cases h
  try simp -implicitDefEqProofs only[go_sem,b3]
  all_goals((repeat' apply And.intro)<;>rfl)
theorem zu5 (a0:zu) (r:(List Int)×(List Int)) (h:zhd a0=some r):zbt Tryz.prog 117 [.agg (zbj a0)] (fun v=>v = .tup [.row 3 1 (r.1.map encI),.row 3 1 (r.2.map encI)]):=by
 refine zbt.rle ?_
 refine zbx [] Ty.mixed Tryz.func117 rfl (by kernel_rfl) (by simp[Tryz.ntmps117]) ?_; rw[Tryz.ntmps117,Tryz.results117]
 unfold zhd at h
 try simp -implicitDefEqProofs only[go_sem]
 refine zfg [(0,.q),(1,.q),(2,.q),(3,.q),(4,.q),(5,.q),(6,.q),(7,.q),(9,.q),(10,.q),(11,.q),(12,.q),(13,.q),(14,.q),(15,.q),(16,.q),(8,.f),(17,.f),(18,.q),(19,.q)] (by kernel_rfl) ?_
 obtain⟨r1,hr1,h⟩:=zm h
 try simp -implicitDefEqProofs only[go_sem]
 refine calldfG 1192 (zkc a0.keep.nodes ((a0.left.graph.nodes.length:Nat):Int) r1 hr1) (by simp -implicitDefEqProofs only[go_sem]<;>rfl) (zb _) (by first | exact persF | exact flatF rfl | exact flatF (by simp[RV.flat,RV.flatL,PV.scalar,isVal,encI])) (by simp -implicitDefEqProofs only[go_sem]) (by simp -implicitDefEqProofs only[go_sem]) ?_
 obtain⟨r2,hr2,h⟩:=zm h
 try simp -implicitDefEqProofs only[go_sem]
 refine calldfG 1336 (zkc a0.keep.edges ((a0.left.graph.edges.length:Nat):Int) r2 hr2) (by simp -implicitDefEqProofs only[go_sem]<;>rfl) (zb _) (by first | exact persF | exact flatF rfl | exact flatF (by simp[RV.flat,RV.flatL,PV.scalar,isVal,encI])) (by simp -implicitDefEqProofs only[go_sem]) (by simp -implicitDefEqProofs only[go_sem]) ?_
 cases h
 try simp -implicitDefEqProofs only[go_sem]
 refine⟨by decide,_,.refl _,?_⟩
 simp -implicitDefEqProofs only[go_sem]<;>((repeat' apply And.intro)<;>rfl)

theorem zpi (a0:zp) (r:Bool) (h:zg2 a0=some r):zh Tryz.prog 57 [.agg (zz a0)] (fun v=>v = .val (.bool r)):=by
 refine zh.ple ?_
 refine zf [] Ty.mixed Tryz.func57 rfl (by kernel_rfl) (by simp[Tryz.ntmps57]) ?_; rw[Tryz.ntmps57,Tryz.results57]
 unfold zg2 at h
 obtain⟨r1,hr1,h⟩:=zm h
 try simp -implicitDefEqProofs only[go_sem]
 refine callG (zoo fuel a0 40 r1 hr1) (by simp -implicitDefEqProofs only[go_sem]<;>rfl) (zb _) (by first | exact pers | exact scal rfl) ?_
 cases h
 try simp -implicitDefEqProofs only[go_sem]
 all_goals((repeat' apply And.intro)<;>rfl)

theorem znn (a0:zp) (r:Int) (h:zda a0=some r):zh Tryz.prog 168 [.agg (zz a0)] (fun v=>v = .val (.int .i64 r)):=by
 refine zh.ple ?_
 refine zf [] Ty.mixed Tryz.func168 rfl (by kernel_rfl) (by simp[Tryz.ntmps168]) ?_; rw[Tryz.ntmps168,Tryz.results168]
 unfold zda at h
 obtain⟨r1,hr1,h⟩:=zm h
 try simp -implicitDefEqProofs only[go_sem]
 refine callG (zme fuel a0 r1 hr1) (by simp -implicitDefEqProofs only[go_sem]<;>rfl) (zb _) (by first | exact pers | exact scal rfl) ?_
 try simp -implicitDefEqProofs only[go_sem]
 refine zg (fun b2=>?_) (fun b2=>?_)
 ·replace h:=zd h b2
  obtain⟨r3,hr3,h⟩:=zm h
  try simp -implicitDefEqProofs only[go_sem,b2]
  refine callG (zmp fuel a0 r3 hr3) (by simp -implicitDefEqProofs only[go_sem,b2]<;>rfl) (zb _) (by first | exact pers | exact scal rfl) ?_
  try simp -implicitDefEqProofs only[go_sem,b2]
  refine zw (fun b4=>?_) (fun b4=>?_)
  ·replace h:=zd h b4
   cases h
   try simp -implicitDefEqProofs only[go_sem,b2,b4]
   all_goals((repeat' apply And.intro)<;>rfl)
  ·replace h:=ze h b4
   try simp -implicitDefEqProofs only[go_sem,b2,b4]
   refine zc (fun b5=>?_) (fun b5=>?_)
   ·replace h:=zd h b5
    cases h
    try simp -implicitDefEqProofs only[go_sem,b2,b4,b5]
    all_goals((repeat' apply And.intro)<;>rfl)
   ·replace h:=ze h b5
    cases h
    try simp -implicitDefEqProofs only[go_sem,b2,b4,b5]
    all_goals((repeat' apply And.intro)<;>rfl)
 ·replace h:=ze h b2
  cases h
  try simp -implicitDefEqProofs only[go_sem,b2]
  all_goals((repeat' apply And.intro)<;>rfl)
theorem zo2 (a0:List Int) (a1:Int) (r:Bool) (h:zfy a0 a1=some r):zh Tryz.prog 280 [.lst (a0.map encI),.val (.int .i64 a1)] (fun v=>v = .val (.bool r)):=by
 refine zh.ple ?_
 refine zf [] Ty.mixed Tryz.func280 rfl (by kernel_rfl) (by simp[Tryz.ntmps280]) ?_; rw[Tryz.ntmps280,Tryz.results280]
 unfold zfy at h
 obtain⟨r2,hr2,h⟩:=zm h
 try simp -implicitDefEqProofs only[go_sem]
 refine callG (zhb a0 a1 r2 hr2) (by simp -implicitDefEqProofs only[go_sem]<;>rfl) (zb _) (by first | exact pers | exact scal rfl) ?_
 cases h
 try simp -implicitDefEqProofs only[go_sem]
 all_goals((repeat' apply And.intro)<;>rfl)

theorem zo4 (a0:zu) (r:(List Int)×(List Int)) (h:zgo a0=some r):zbt Tryz.prog 119 [.agg (zbj a0)] (fun v=>v = .tup [.row 3 1 (r.1.map encI),.row 3 1 (r.2.map encI)]):=by
 refine zbt.rle ?_
 refine zbx [] Ty.mixed Tryz.func119 rfl (by kernel_rfl) (by simp[Tryz.ntmps119]) ?_; rw[Tryz.ntmps119,Tryz.results119]
 unfold zgo at h
 try simp -implicitDefEqProofs only[go_sem]
 refine zfg [(0,.q),(1,.q),(2,.q),(3,.q),(4,.q),(5,.q),(6,.q),(7,.q),(9,.q),(10,.q),(11,.q),(12,.q),(13,.q),(14,.q),(15,.q),(16,.q),(8,.f),(17,.f),(18,.q),(19,.q)] (by kernel_rfl) ?_
 obtain⟨r1,hr1,h⟩:=zm h
 try simp -implicitDefEqProofs only[go_sem]
 refine calldfG 1192 (zkc a0.into.nodes ((a0.right.graph.nodes.length:Nat):Int) r1 hr1) (by simp -implicitDefEqProofs only[go_sem]<;>rfl) (zb _) (by first | exact persF | exact flatF rfl | exact flatF (by simp[RV.flat,RV.flatL,PV.scalar,isVal,encI])) (by simp -implicitDefEqProofs only[go_sem]) (by simp -implicitDefEqProofs only[go_sem]) ?_
 obtain⟨r2,hr2,h⟩:=zm h
 try simp -implicitDefEqProofs only[go_sem]
 refine calldfG 1336 (zkc a0.into.edges ((a0.right.graph.edges.length:Nat):Int) r2 hr2) (by simp -implicitDefEqProofs only[go_sem]<;>rfl) (zb _) (by first | exact persF | exact flatF rfl | exact flatF (by simp[RV.flat,RV.flatL,PV.scalar,isVal,encI])) (by simp -implicitDefEqProofs only[go_sem]) (by simp -implicitDefEqProofs only[go_sem]) ?_
 cases h
 try simp -implicitDefEqProofs only[go_sem]
 refine⟨by decide,_,.refl _,?_⟩
 simp -implicitDefEqProofs only[go_sem]<;>((repeat' apply And.intro)<;>rfl)

theorem zsk (a0:zp) (r:Int) (h:zg7 a0=some r):zh Tryz.prog 197 [.agg (zz a0)] (fun v=>v = .val (.int .i64 r)):=by
 refine zh.ple ?_
 refine zf [] Ty.mixed Tryz.func197 rfl (by kernel_rfl) (by simp[Tryz.ntmps197]) ?_; rw[Tryz.ntmps197,Tryz.results197]
 unfold zg7 at h
 obtain⟨r1,hr1,h⟩:=zm h
 try simp -implicitDefEqProofs only[go_sem]
 refine callG (zoq fuel a0 r1 hr1) (by simp -implicitDefEqProofs only[go_sem]<;>rfl) (zb _) (by first | exact pers | exact scal rfl) ?_
 try simp -implicitDefEqProofs only[go_sem]
 refine zg (fun b2=>?_) (fun b2=>?_)
 ·replace h:=zd h b2
  obtain⟨r3,hr3,h⟩:=zm h
  try simp -implicitDefEqProofs only[go_sem,b2]
  refine callG (zqx fuel a0 r3 hr3) (by simp -implicitDefEqProofs only[go_sem,b2]<;>rfl) (zb _) (by first | exact pers | exact scal rfl) ?_
  try simp -implicitDefEqProofs only[go_sem,b2]
  refine zw (fun b4=>?_) (fun b4=>?_)
  ·replace h:=zd h b4
   cases h
   try simp -implicitDefEqProofs only[go_sem,b2,b4]
   all_goals((repeat' apply And.intro)<;>rfl)
  ·replace h:=ze h b4
   try simp -implicitDefEqProofs only[go_sem,b2,b4]
   refine zc (fun b5=>?_) (fun b5=>?_)
   ·replace h:=zd h b5
    cases h
    try simp -implicitDefEqProofs only[go_sem,b2,b4,b5]
    all_goals((repeat' apply And.intro)<;>rfl)
   ·replace h:=ze h b5
    cases h
    try simp -implicitDefEqProofs only[go_sem,b2,b4,b5]
    all_goals((repeat' apply And.intro)<;>rfl)
 ·replace h:=ze h b2
  cases h
  try simp -implicitDefEqProofs only[go_sem,b2]
  all_goals((repeat' apply And.intro)<;>rfl)
theorem zt7 (a0:z8) (a1:zdb) (r:Int) (h:zhw a0 a1=some r):zh Tryz.prog 268 [.agg [.lst (a0.nodes.map encI),.lst (a0.edges.map encEdge)],.agg [.lst (a1.nodes.map encI),.lst (a1.edges.map encI)]] (fun v=>v = .val (.int .i64 r)):=by
 refine zh.ple ?_
 refine zf [] Ty.mixed Tryz.func268 rfl (by kernel_rfl) (by simp[Tryz.ntmps268]) ?_; rw[Tryz.ntmps268,Tryz.results268]
 unfold zhw at h
 obtain⟨r2,hr2,h⟩:=zm h
 try simp -implicitDefEqProofs only[go_sem]
 refine callG (zn5 a1.nodes ((a0.nodes.length:Nat):Int) r2 hr2) (by simp -implicitDefEqProofs only[go_sem]<;>rfl) (zb _) (by first | exact pers | exact scal rfl) ?_
 try simp -implicitDefEqProofs only[go_sem]
 refine zg (fun b3=>?_) (fun b3=>?_)
 ·replace h:=zd h b3
  obtain⟨r4,hr4,h⟩:=zm h
  try simp -implicitDefEqProofs only[go_sem,b3]
  refine callG (zn5 a1.edges ((a0.edges.length:Nat):Int) r4 hr4) (by simp -implicitDefEqProofs only[go_sem,b3]<;>rfl) (zb _) (by first | exact pers | exact scal rfl) ?_
  try simp -implicitDefEqProofs only[go_sem,b3]
  refine zg (fun b5=>?_) (fun b5=>?_)
  ·replace h:=zd h b5
   obtain⟨fus6,h⟩:=zbg h
   unfold fuel at fus6
   try simp -implicitDefEqProofs only[go_sem,b3,b5]
   refine zbe (fun x:(Nat×(Unit))×(Unit)=>envL [(2,.ptr 2 0),(3,.ptr 3 0),(28,.p (.lst (a1.edges.map encI))),(29,.p (.val (.int .i64 ((a1.edges.length:Nat):Int)))),(30,.p (.val (.int .i64 ((x.1.1:Nat):Int))))]) (fun x=>heapL [(2,.box [.p (.lst (a0.nodes.map encI)),.p (.lst (a0.edges.map encEdge))]),(3,.box [.p (.lst (a1.nodes.map encI)),.p (.lst (a1.edges.map encI))])]) () h (weakL (by simp -implicitDefEqProofs only[go_sem,b3,b5]<;>((repeat' apply And.intro)<;>rfl))) ?_ ?_
   ·intro i6 s6 g6 nxts6 Rs6 his6 hNs6 h
    have hws6:=zt (k:=i6) his6 (by omega)
    try dsimp only at h
    obtain⟨e7,c7,g7,q7,h⟩:=zbu encI h
    try simp -implicitDefEqProofs only[go_sem,b3,b5,his6,hws6,c7,g7]
    refine zbn [.q,.q,.q,.q,.q,.q,.q,.q,.q,.q,.q,.q,.q,.q,.q,.q,.q,.q,.q,.q,.q,.q] (by kernel_rfl) ?_
    obtain⟨e8,c8a,c8b,g8,q8,h⟩:=zce encEdge h
    have c8n:=zbv c8a c8b
    obtain⟨r9,hr9,h⟩:=zm h
    try simp -implicitDefEqProofs only[go_sem,b3,b5,his6,hws6,c7,g7,c8a,c8b,c8n,g8]
    refine calldG (zo2 a1.nodes e8.src r9 hr9) (by simp -implicitDefEqProofs only[go_sem,b3,b5,his6,hws6,c7,g7,c8a,c8b,c8n,g8]<;>rfl) (zb _) (by first | exact pers | exact scal rfl) ?_
    try simp -implicitDefEqProofs only[go_sem,b3,b5,his6,hws6,c7,g7,c8a,c8b,c8n,g8]
    refine zdi (fun b10=>?_) (fun b10=>?_)
    ·replace h:=zd h b10
     obtain⟨r11,hr11,h⟩:=zm h
     try simp -implicitDefEqProofs only[go_sem,b3,b5,his6,hws6,c7,g7,c8a,c8b,c8n,g8,b10]
     refine calldG (zo2 a1.nodes e8.dst r11 hr11) (by simp -implicitDefEqProofs only[go_sem,b3,b5,his6,hws6,c7,g7,c8a,c8b,c8n,g8,b10]<;>rfl) (zb _) (by first | exact pers | exact scal rfl) ?_
     try simp -implicitDefEqProofs only[go_sem,b3,b5,his6,hws6,c7,g7,c8a,c8b,c8n,g8,b10]
     refine zg (fun b12=>?_) (fun b12=>?_)
     ·replace h:=zd h b12
      try simp -implicitDefEqProofs only[go_sem,b3,b5,his6,hws6,c7,g7,c8a,c8b,c8n,g8,b10,b12]
      exact hNs6 () () h (weakL (by simp -implicitDefEqProofs only[go_sem,b3,b5,his6,hws6,c7,g7,c8a,c8b,c8n,g8,b10,b12]<;>((repeat' apply And.intro)<;>rfl)))
     ·replace h:=ze h b12
      cases h
      try simp -implicitDefEqProofs only[go_sem,b3,b5,his6,hws6,c7,g7,c8a,c8b,c8n,g8,b10,b12]
      all_goals((repeat' apply And.intro)<;>rfl)
    ·replace h:=ze h b10
     cases h
     try simp -implicitDefEqProofs only[go_sem,b3,b5,his6,hws6,c7,g7,c8a,c8b,c8n,g8,b10]
     all_goals((repeat' apply And.intro)<;>rfl)
   ·intro i6 s6 g6 Rs6 hes6 h
    have hns6:¬ (i6<a1.edges.length):=by omega
    try dsimp only at h
    cases h
    try simp -implicitDefEqProofs only[go_sem,b3,b5,hns6]
    all_goals((repeat' apply And.intro)<;>rfl)
  ·replace h:=ze h b5
   cases h
   try simp -implicitDefEqProofs only[go_sem,b3,b5]
   all_goals((repeat' apply And.intro)<;>rfl)
 ·replace h:=ze h b3
  cases h
  try simp -implicitDefEqProofs only[go_sem,b3]
  all_goals((repeat' apply And.intro)<;>rfl)
theorem zo3 (a0:zu) (r:Bool) (h:zf2 a0=some r):zh Tryz.prog 28 [.agg (zbj a0)] (fun v=>v = .val (.bool r)):=by
 refine zh.ple ?_
 refine zf [] Ty.mixed Tryz.func28 rfl (by kernel_rfl) (by simp[Tryz.ntmps28]) ?_; rw[Tryz.ntmps28,Tryz.results28]
 unfold zf2 at h
 try simp -implicitDefEqProofs only[go_sem]
 refine zq (fun b1=>?_) (fun b1=>?_)
 ·replace h:=zd h b1
  obtain⟨r2,hr2,h⟩:=zm h
  try simp -implicitDefEqProofs only[go_sem,b1]
  refine callG (zig a0.left r2 hr2) (by simp -implicitDefEqProofs only[go_sem,b1]<;>rfl) (zb _) (by first | exact pers | exact scal rfl) ?_
  try simp -implicitDefEqProofs only[go_sem,b1]
  refine zq (fun b3=>?_) (fun b3=>?_)
  ·replace h:=zd h b3
   obtain⟨r4,hr4,h⟩:=zm h
   try simp -implicitDefEqProofs only[go_sem,b1,b3]
   refine callG (zig a0.right r4 hr4) (by simp -implicitDefEqProofs only[go_sem,b1,b3]<;>rfl) (zb _) (by first | exact pers | exact scal rfl) ?_
   try simp -implicitDefEqProofs only[go_sem,b1,b3]
   refine zq (fun b5=>?_) (fun b5=>?_)
   ·replace h:=zd h b5
    obtain⟨r6,hr6,h⟩:=zm h
    try simp -implicitDefEqProofs only[go_sem,b1,b3,b5]
    refine callG (zpf a0.keep 140 r6 hr6) (by simp -implicitDefEqProofs only[go_sem,b1,b3,b5]<;>rfl) (zb _) (by first | exact pers | exact scal rfl) ?_
    try simp -implicitDefEqProofs only[go_sem,b1,b3,b5]
    refine zq (fun b7=>?_) (fun b7=>?_)
    ·replace h:=zd h b7
     obtain⟨r8,hr8,h⟩:=zm h
     try simp -implicitDefEqProofs only[go_sem,b1,b3,b5,b7]
     refine callG (zkw a0.into 140 r8 hr8) (by simp -implicitDefEqProofs only[go_sem,b1,b3,b5,b7]<;>rfl) (zb _) (by first | exact pers | exact scal rfl) ?_
     try simp -implicitDefEqProofs only[go_sem,b1,b3,b5,b7]
     refine zq (fun b9=>?_) (fun b9=>?_)
     ·replace h:=zd h b9
      obtain⟨r10,hr10,h⟩:=zm h
      try simp -implicitDefEqProofs only[go_sem,b1,b3,b5,b7,b9]
      refine callG (zpi a0.condition r10 hr10) (by simp -implicitDefEqProofs only[go_sem,b1,b3,b5,b7,b9]<;>rfl) (zb _) (by first | exact pers | exact scal rfl) ?_
      cases h
      try simp -implicitDefEqProofs only[go_sem,b1,b3,b5,b7,b9]
      all_goals((repeat' apply And.intro)<;>rfl)
     ·replace h:=ze h b9
      cases h
      try simp -implicitDefEqProofs only[go_sem,b1,b3,b5,b7,b9]
      all_goals((repeat' apply And.intro)<;>rfl)
    ·replace h:=ze h b7
     cases h
     try simp -implicitDefEqProofs only[go_sem,b1,b3,b5,b7]
     all_goals((repeat' apply And.intro)<;>rfl)
   ·replace h:=ze h b5
    cases h
    try simp -implicitDefEqProofs only[go_sem,b1,b3,b5]
    all_goals((repeat' apply And.intro)<;>rfl)
  ·replace h:=ze h b3
   cases h
   try simp -implicitDefEqProofs only[go_sem,b1,b3]
   all_goals((repeat' apply And.intro)<;>rfl)
 ·replace h:=ze h b1
  cases h
  try simp -implicitDefEqProofs only[go_sem,b1]
  all_goals((repeat' apply And.intro)<;>rfl)
theorem zqy (a0:zl) (a1:z7) (a2:Int) (r:Int) (h:zd2 a0 a1 a2=some r):zh Tryz.prog 247 [.agg [.lst (a0.nodes.map encNode),.lst (a0.edges.map encEdgeT)],.agg (zb2 a1),.val (.int .i64 a2)] (fun v=>v = .val (.int .i64 r)):=by
 refine zh.ple ?_
 refine zf [] Ty.mixed Tryz.func247 rfl (by kernel_rfl) (by simp[Tryz.ntmps247]) ?_; rw[Tryz.ntmps247,Tryz.results247]
 unfold zd2 at h
 obtain⟨r3,hr3,h⟩:=zm h
 try simp -implicitDefEqProofs only[go_sem]
 refine callG (zj6 a0 a1 r3 hr3) (by simp -implicitDefEqProofs only[go_sem]<;>rfl) (zb _) (by first | exact pers | exact scal rfl) ?_
 try simp -implicitDefEqProofs only[go_sem]
 refine zg (fun b4=>?_) (fun b4=>?_)
 ·replace h:=zd h b4
  try simp -implicitDefEqProofs only[go_sem,b4]
  refine zkt (fun x:(Int)×(Unit)=>envL [(4,.ptr 4 0),(7,.p (.val (.int .i64 r3))),(8,.ptr 8 0)]) (fun x=>heapL [(4,.box [.p (.lst (a1.graph.nodes.map encI)),.p (.lst (a1.graph.edges.map encEdge)),.p (.lst (a1.slots.map zbs)),.p (.val (.int .i64 a1.vars)),.p (.lst (a1.tests.map zb7))]),(8,.box [.p (.val (.int .i64 x.1))])]) () h (weakL (by simp -implicitDefEqProofs only[go_sem,b4]<;>((repeat' apply And.intro)<;>rfl))) ?_
  intro s5 g5 nxts5 Rs5 hNs5 h
  try dsimp only at h
  try simp -implicitDefEqProofs only[go_sem,b4]
  refine zc (fun b6=>?_) (fun b6=>?_)
  ·replace h:=zd h b6
   obtain⟨r7,hr7,h⟩:=zm h
   try simp -implicitDefEqProofs only[go_sem,b4,b6]
   refine callG (ziz a1.slots (fun x8=>zf3 x8 s5) 275 [] [.eptr [.val (.int .i64 s5)] 0] (fun x8 r h=>zo8 x8 s5 r h) r7 hr7) (by simp -implicitDefEqProofs only[go_sem,b4,b6]<;>rfl) (zb _) (by first | exact pers | exact scal rfl) ?_
   try simp -implicitDefEqProofs only[go_sem,b4,b6]
   refine zg (fun b9=>?_) (fun b9=>?_)
   ·replace h:=zd h b9
    try simp -implicitDefEqProofs only[go_sem,b4,b6,b9]
    refine zsb (envL [(4,.ptr 4 0),(7,.p (.val (.int .i64 r3))),(28,.p (.val (.int .i64 s5)))]) (heapL [(4,.box [.p (.lst (a1.graph.nodes.map encI)),.p (.lst (a1.graph.edges.map encEdge)),.p (.lst (a1.slots.map zbs)),.p (.val (.int .i64 a1.vars)),.p (.lst (a1.tests.map zb7))])]) (weakL (by simp -implicitDefEqProofs only[go_sem,b4,b6,b9]<;>((repeat' apply And.intro)<;>rfl))) (by simp -implicitDefEqProofs only[go_sem,b4,b6,b9]<;>rfl) (by trivial) ?_
    try simp -implicitDefEqProofs only[go_sem,b4,b6,b9]
    exact hNs5 (IntKind.i64.wrap (s5+1)) () h (weakL (by simp -implicitDefEqProofs only[go_sem,b4,b6,b9]<;>((repeat' apply And.intro)<;>rfl)))
   ·replace h:=ze h b9
    cases h
    try simp -implicitDefEqProofs only[go_sem,b4,b6,b9]
    all_goals((repeat' apply And.intro)<;>rfl)
  ·replace h:=ze h b6
   try dsimp only at h
   cases h
   try simp -implicitDefEqProofs only[go_sem,b4,b6]
   all_goals((repeat' apply And.intro)<;>rfl)
 ·replace h:=ze h b4
  cases h
  try simp -implicitDefEqProofs only[go_sem,b4]
  all_goals((repeat' apply And.intro)<;>rfl)
theorem zny (a0:zl) (a1:Int) (a2:z7) (r:Int) (h:zck a0 a1 a2=some r):zh Tryz.prog 216 [.agg [.lst (a0.nodes.map encNode),.lst (a0.edges.map encEdgeT)],.val (.int .i64 a1),.agg (zb2 a2)] (fun v=>v = .val (.int .i64 r)):=by
 refine zh.ple ?_
 refine zf [] Ty.mixed Tryz.func216 rfl (by kernel_rfl) (by simp[Tryz.ntmps216]) ?_; rw[Tryz.ntmps216,Tryz.results216]
 unfold zck at h
 try simp -implicitDefEqProofs only[go_sem]
 refine zc (fun b3=>?_) (fun b3=>?_)
 ·replace h:=zd h b3
  cases h
  try simp -implicitDefEqProofs only[go_sem,b3]
  all_goals((repeat' apply And.intro)<;>rfl)
 ·replace h:=ze h b3
  obtain⟨r4,hr4,h⟩:=zm h
  try simp -implicitDefEqProofs only[go_sem,b3]
  refine callG (zho a0 a2 r4 hr4) (by simp -implicitDefEqProofs only[go_sem,b3]<;>rfl) (zb _) (by first | exact pers | exact scal rfl) ?_
  try simp -implicitDefEqProofs only[go_sem,b3]
  refine zg (fun b5=>?_) (fun b5=>?_)
  ·replace h:=zd h b5
   try simp -implicitDefEqProofs only[go_sem,b3,b5]
   refine zkt (fun x:(Int)×(Unit)=>envL [(5,.ptr 5 0),(7,.p (.val (.int .i64 r4))),(8,.p (.val (.int .i64 x.1)))]) (fun x=>heapL [(5,.box ((zb2 a2).map .p))]) () h (weakL (by simp -implicitDefEqProofs only[go_sem,b3,b5]<;>((repeat' apply And.intro)<;>rfl))) ?_
   intro s6 g6 nxts6 Rs6 hNs6 h
   try dsimp only at h
   try simp -implicitDefEqProofs only[go_sem,b3,b5]
   refine zc (fun b7=>?_) (fun b7=>?_)
   ·replace h:=zd h b7
    obtain⟨r8,hr8,h⟩:=zm h
    try simp -implicitDefEqProofs only[go_sem,b3,b5,b7]
    refine callG (zng a2 s6 r8 hr8) (by simp -implicitDefEqProofs only[go_sem,b3,b5,b7]<;>rfl) (zb _) (by first | exact pers | exact scal rfl) ?_
    try simp -implicitDefEqProofs only[go_sem,b3,b5,b7]
    refine zg (fun b9=>?_) (fun b9=>?_)
    ·replace h:=zd h b9
     try simp -implicitDefEqProofs only[go_sem,b3,b5,b7,b9]
     exact hNs6 (IntKind.i64.wrap (s6+1)) () h (weakL (by simp -implicitDefEqProofs only[go_sem,b3,b5,b7,b9]<;>((repeat' apply And.intro)<;>rfl)))
    ·replace h:=ze h b9
     cases h
     try simp -implicitDefEqProofs only[go_sem,b3,b5,b7,b9]
     all_goals((repeat' apply And.intro)<;>rfl)
   ·replace h:=ze h b7
    try dsimp only at h
    cases h
    try simp -implicitDefEqProofs only[go_sem,b3,b5,b7]
    all_goals((repeat' apply And.intro)<;>rfl)
  ·replace h:=ze h b5
   cases h
   try simp -implicitDefEqProofs only[go_sem,b3,b5]
   all_goals((repeat' apply And.intro)<;>rfl)
theorem zoy (a0:zu) (r:Int) (h:zcc a0=some r):zh Tryz.prog 128 [.agg (zbj a0)] (fun v=>v = .val (.int .i64 r)):=by
 refine zh.ple ?_
 refine zf [] Ty.mixed Tryz.func128 rfl (by kernel_rfl) (by simp[Tryz.ntmps128]) ?_; rw[Tryz.ntmps128,Tryz.results128]
 unfold zcc at h
 obtain⟨r1,hr1,h⟩:=zm h
 try simp -implicitDefEqProofs only[go_sem]
 refine callG (zj5 a0.left.graph a0.keep r1 hr1) (by simp -implicitDefEqProofs only[go_sem]<;>rfl) (zb _) (by first | exact pers | exact scal rfl) ?_
 try simp -implicitDefEqProofs only[go_sem]
 refine zg (fun b2=>?_) (fun b2=>?_)
 ·replace h:=zd h b2
  obtain⟨r3,hr3,h⟩:=zm h
  try simp -implicitDefEqProofs only[go_sem,b2]
  refine callfG 1352 (zmx a0.left.graph a0.keep r3 hr3) (by simp -implicitDefEqProofs only[go_sem,b2]<;>rfl) (zb _) (by first | exact persF | exact flatF rfl | exact flatF (by simp[RV.flat,RV.flatL,PV.scalar,isVal,encI,encEdge,encI,encI])) (by simp -implicitDefEqProofs only[go_sem,b2]) ?_
  obtain⟨r4,hr4,h⟩:=zm h
  try simp -implicitDefEqProofs only[go_sem,b2]
  refine callG (zhp r3.1 a0.right.graph a0.into r4 hr4) (by simp -implicitDefEqProofs only[go_sem,b2]<;>rfl) (zb _) (by first | exact pers | exact scal rfl) ?_
  cases h
  try simp -implicitDefEqProofs only[go_sem,b2]
  all_goals((repeat' apply And.intro)<;>rfl)
 ·replace h:=ze h b2
  cases h
  try simp -implicitDefEqProofs only[go_sem,b2]
  all_goals((repeat' apply And.intro)<;>rfl)
theorem zrc (n:Nat):∀ (a0:zl) (a1:z7) (a2:zp) (r:Int) (h:zcp n a0 a1 a2=some r),zh Tryz.prog 198 [.agg [.lst (a0.nodes.map encNode),.lst (a0.edges.map encEdgeT)],.agg (zb2 a1),.agg (zz a2)] (fun v=>v = .val (.int .i64 r)):=by
 induction n with
 | zero=>intro a0 a1 a2 r h; cases h
 | succ n ih =>
 intro a0 a1 a2 r h
 refine zh.ple ?_
 refine zf [] Ty.mixed Tryz.func198 rfl (by kernel_rfl) (by simp[Tryz.ntmps198]) ?_; rw[Tryz.ntmps198,Tryz.results198]
 unfold zcp at h
 try simp -implicitDefEqProofs only[go_sem]
 refine zc (fun b3=>?_) (fun b3=>?_)
 ·replace h:=zd h b3
  try simp -implicitDefEqProofs only[go_sem,b3]
  refine zc (fun b4=>?_) (fun b4=>?_)
  ·replace h:=zd h b4
   cases h
   try simp -implicitDefEqProofs only[go_sem,b3,b4]
   all_goals((repeat' apply And.intro)<;>rfl)
  ·replace h:=ze h b4
   obtain⟨r5,hr5,h⟩:=zm h
   try simp -implicitDefEqProofs only[go_sem,b3,b4]
   refine callG (zqy a0 a2.pattern a1.vars r5 hr5) (by simp -implicitDefEqProofs only[go_sem,b3,b4]<;>rfl) (zb _) (by first | exact pers | exact scal rfl) ?_
   try simp -implicitDefEqProofs only[go_sem,b3,b4]
   refine zg (fun b6=>?_) (fun b6=>?_)
   ·replace h:=zd h b6
    obtain⟨r7,hr7,h⟩:=zm h
    try simp -implicitDefEqProofs only[go_sem,b3,b4,b6]
    refine callG (zkh a1.graph a2.pattern.graph a2.map r7 hr7) (by simp -implicitDefEqProofs only[go_sem,b3,b4,b6]<;>rfl) (zb _) (by first | exact pers | exact scal rfl) ?_
    try simp -implicitDefEqProofs only[go_sem,b3,b4,b6]
    refine zg (fun b8=>?_) (fun b8=>?_)
    ·replace h:=zd h b8
     obtain⟨r9,hr9,h⟩:=zm h
     try simp -implicitDefEqProofs only[go_sem,b3,b4,b6,b8]
     refine callG (zk0 a1.graph a2.pattern.graph a2.map r9 hr9) (by simp -implicitDefEqProofs only[go_sem,b3,b4,b6,b8]<;>rfl) (zb _) (by first | exact pers | exact scal rfl) ?_
     try simp -implicitDefEqProofs only[go_sem,b3,b4,b6,b8]
     refine zg (fun b10=>?_) (fun b10=>?_)
     ·replace h:=zd h b10
      obtain⟨fus11,h⟩:=zbg h
      unfold fuel at fus11
      try simp -implicitDefEqProofs only[go_sem,b3,b4,b6,b8,b10]
      refine zbe (fun x:(Nat×(Unit))×(Unit)=>envL [(3,.ptr 3 0),(4,.ptr 4 0),(51,.p (.lst (a2.kids.map zz))),(52,.p (.val (.int .i64 ((a2.kids.length:Nat):Int)))),(53,.p (.val (.int .i64 ((x.1.1:Nat):Int))))]) (fun x=>heapL [(3,.box [.p (.lst (a0.nodes.map encNode)),.p (.lst (a0.edges.map encEdgeT))]),(4,.box ((zb2 a2.pattern).map .p))]) () h (weakL (by simp -implicitDefEqProofs only[go_sem,b3,b4,b6,b8,b10]<;>((repeat' apply And.intro)<;>rfl))) ?_ ?_
      ·intro i11 s11 g11 nxts11 Rs11 his11 hNs11 h
       have hws11:=zt (k:=i11) his11 (by omega)
       try dsimp only at h
       obtain⟨e12,c12,g12,q12,h⟩:=zbu zz h
       obtain⟨r13,hr13,h⟩:=zm h
       try simp -implicitDefEqProofs only[go_sem,b3,b4,b6,b8,b10,his11,hws11,c12,g12]
       refine callG (ih a0 a2.pattern e12 r13 hr13) (by simp -implicitDefEqProofs only[go_sem,b3,b4,b6,b8,b10,his11,hws11,c12,g12]<;>rfl) (zb _) (by first | exact pers | exact scal rfl) ?_
       try simp -implicitDefEqProofs only[go_sem,b3,b4,b6,b8,b10,his11,hws11,c12,g12]
       refine zg (fun b14=>?_) (fun b14=>?_)
       ·replace h:=zd h b14
        try simp -implicitDefEqProofs only[go_sem,b3,b4,b6,b8,b10,his11,hws11,c12,g12,b14]
        exact hNs11 () () h (weakL (by simp -implicitDefEqProofs only[go_sem,b3,b4,b6,b8,b10,his11,hws11,c12,g12,b14]<;>((repeat' apply And.intro)<;>rfl)))
       ·replace h:=ze h b14
        cases h
        try simp -implicitDefEqProofs only[go_sem,b3,b4,b6,b8,b10,his11,hws11,c12,g12,b14]
        all_goals((repeat' apply And.intro)<;>rfl)
      ·intro i11 s11 g11 Rs11 hes11 h
       have hns11:¬ (i11<a2.kids.length):=by omega
       try dsimp only at h
       cases h
       try simp -implicitDefEqProofs only[go_sem,b3,b4,b6,b8,b10,hns11]
       all_goals((repeat' apply And.intro)<;>rfl)
     ·replace h:=ze h b10
      cases h
      try simp -implicitDefEqProofs only[go_sem,b3,b4,b6,b8,b10]
      all_goals((repeat' apply And.intro)<;>rfl)
    ·replace h:=ze h b8
     cases h
     try simp -implicitDefEqProofs only[go_sem,b3,b4,b6,b8]
     all_goals((repeat' apply And.intro)<;>rfl)
   ·replace h:=ze h b6
    cases h
    try simp -implicitDefEqProofs only[go_sem,b3,b4,b6]
    all_goals((repeat' apply And.intro)<;>rfl)
 ·replace h:=ze h b3
  obtain⟨fus15,h⟩:=zbg h
  unfold fuel at fus15
  try simp -implicitDefEqProofs only[go_sem,b3]
  refine zbe (fun x:(Nat×(Unit))×(Unit)=>envL [(3,.ptr 3 0),(4,.ptr 4 0),(51,.p (.lst (a2.kids.map zz))),(52,.p (.val (.int .i64 ((a2.kids.length:Nat):Int)))),(53,.p (.val (.int .i64 ((x.1.1:Nat):Int))))]) (fun x=>heapL [(3,.box [.p (.lst (a0.nodes.map encNode)),.p (.lst (a0.edges.map encEdgeT))]),(4,.box ((zb2 a1).map .p))]) () h (weakL (by simp -implicitDefEqProofs only[go_sem,b3]<;>((repeat' apply And.intro)<;>rfl))) ?_ ?_
  ·intro i15 s15 g15 nxts15 Rs15 his15 hNs15 h
   have hws15:=zt (k:=i15) his15 (by omega)
   try dsimp only at h
   obtain⟨e16,c16,g16,q16,h⟩:=zbu zz h
   obtain⟨r17,hr17,h⟩:=zm h
   try simp -implicitDefEqProofs only[go_sem,b3,his15,hws15,c16,g16]
   refine callG (ih a0 a1 e16 r17 hr17) (by simp -implicitDefEqProofs only[go_sem,b3,his15,hws15,c16,g16]<;>rfl) (zb _) (by first | exact pers | exact scal rfl) ?_
   try simp -implicitDefEqProofs only[go_sem,b3,his15,hws15,c16,g16]
   refine zg (fun b18=>?_) (fun b18=>?_)
   ·replace h:=zd h b18
    try simp -implicitDefEqProofs only[go_sem,b3,his15,hws15,c16,g16,b18]
    exact hNs15 () () h (weakL (by simp -implicitDefEqProofs only[go_sem,b3,his15,hws15,c16,g16,b18]<;>((repeat' apply And.intro)<;>rfl)))
   ·replace h:=ze h b18
    cases h
    try simp -implicitDefEqProofs only[go_sem,b3,his15,hws15,c16,g16,b18]
    all_goals((repeat' apply And.intro)<;>rfl)
  ·intro i15 s15 g15 Rs15 hes15 h
   have hns15:¬ (i15<a2.kids.length):=by omega
   try dsimp only at h
   cases h
   try simp -implicitDefEqProofs only[go_sem,b3,hns15]
   all_goals((repeat' apply And.intro)<;>rfl)
theorem zor (n:Nat):∀ (a0:zl) (a1:z7) (a2:zp) (r:Int) (h:zb1 n a0 a1 a2=some r),zh Tryz.prog 169 [.agg [.lst (a0.nodes.map encNode),.lst (a0.edges.map encEdgeT)],.agg (zb2 a1),.agg (zz a2)] (fun v=>v = .val (.int .i64 r)):=by
 induction n with
 | zero=>intro a0 a1 a2 r h; cases h
 | succ n ih =>
 intro a0 a1 a2 r h
 refine zh.ple ?_
 refine zf [] Ty.mixed Tryz.func169 rfl (by kernel_rfl) (by simp[Tryz.ntmps169]) ?_; rw[Tryz.ntmps169,Tryz.results169]
 unfold zb1 at h
 try simp -implicitDefEqProofs only[go_sem]
 refine zc (fun b3=>?_) (fun b3=>?_)
 ·replace h:=zd h b3
  obtain⟨r4,hr4,h⟩:=zm h
  try simp -implicitDefEqProofs only[go_sem,b3]
  refine callG (zny a0 a1.vars a2.pattern r4 hr4) (by simp -implicitDefEqProofs only[go_sem,b3]<;>rfl) (zb _) (by first | exact pers | exact scal rfl) ?_
  try simp -implicitDefEqProofs only[go_sem,b3]
  refine zg (fun b5=>?_) (fun b5=>?_)
  ·replace h:=zd h b5
   obtain⟨r6,hr6,h⟩:=zm h
   try simp -implicitDefEqProofs only[go_sem,b3,b5]
   refine callG (zhp a1.graph a2.pattern.graph a2.map r6 hr6) (by simp -implicitDefEqProofs only[go_sem,b3,b5]<;>rfl) (zb _) (by first | exact pers | exact scal rfl) ?_
   try simp -implicitDefEqProofs only[go_sem,b3,b5]
   refine zg (fun b7=>?_) (fun b7=>?_)
   ·replace h:=zd h b7
    obtain⟨r8,hr8,h⟩:=zm h
    try simp -implicitDefEqProofs only[go_sem,b3,b5,b7]
    refine callG (zl4 a1.graph a2.pattern.graph a2.map r8 hr8) (by simp -implicitDefEqProofs only[go_sem,b3,b5,b7]<;>rfl) (zb _) (by first | exact pers | exact scal rfl) ?_
    try simp -implicitDefEqProofs only[go_sem,b3,b5,b7]
    refine zg (fun b9=>?_) (fun b9=>?_)
    ·replace h:=zd h b9
     obtain⟨fus10,h⟩:=zbg h
     unfold fuel at fus10
     try simp -implicitDefEqProofs only[go_sem,b3,b5,b7,b9]
     refine zbe (fun x:(Nat×(Unit))×(Unit)=>envL [(3,.ptr 3 0),(5,.ptr 5 0),(7,.ptr 7 0),(10,.p (.val (.int .i64 ((x.1.1:Nat):Int))))]) (fun x=>heapL [(3,.box [.p (.lst (a0.nodes.map encNode)),.p (.lst (a0.edges.map encEdgeT))]),(5,.box ((zz a2).map .p)),(7,.box ((zb2 a2.pattern).map .p))]) () h (weakL (by simp -implicitDefEqProofs only[go_sem,b3,b5,b7,b9]<;>((repeat' apply And.intro)<;>rfl))) ?_ ?_
     ·intro i10 s10 g10 nxts10 Rs10 his10 hNs10 h
      have hws10:=zt (k:=i10) his10 (by omega)
      try dsimp only at h
      try simp -implicitDefEqProofs only[go_sem,b3,b5,b7,b9,his10,hws10]
      refine zbn [.q,.q,.q,.q,.q,.q,.q,.q,.q] (by kernel_rfl) ?_
      obtain⟨e11,c11,g11,q11,h⟩:=zbu zz h
      obtain⟨r12,hr12,h⟩:=zm h
      try simp -implicitDefEqProofs only[go_sem,b3,b5,b7,b9,his10,hws10,c11,g11]
      refine calldG (ih a0 a2.pattern e11 r12 hr12) (by simp -implicitDefEqProofs only[go_sem,b3,b5,b7,b9,his10,hws10,c11,g11]<;>rfl) (zb _) (by first | exact pers | exact scal rfl) ?_
      try simp -implicitDefEqProofs only[go_sem,b3,b5,b7,b9,his10,hws10,c11,g11]
      refine zg (fun b13=>?_) (fun b13=>?_)
      ·replace h:=zd h b13
       try simp -implicitDefEqProofs only[go_sem,b3,b5,b7,b9,his10,hws10,c11,g11,b13]
       exact hNs10 () () h (weakL (by simp -implicitDefEqProofs only[go_sem,b3,b5,b7,b9,his10,hws10,c11,g11,b13]<;>((repeat' apply And.intro)<;>rfl)))
      ·replace h:=ze h b13
       cases h
       try simp -implicitDefEqProofs only[go_sem,b3,b5,b7,b9,his10,hws10,c11,g11,b13]
       all_goals((repeat' apply And.intro)<;>rfl)
     ·intro i10 s10 g10 Rs10 hes10 h
      have hns10:¬ (i10<a2.kids.length):=by omega
      try dsimp only at h
      cases h
      try simp -implicitDefEqProofs only[go_sem,b3,b5,b7,b9,hns10]
      all_goals((repeat' apply And.intro)<;>rfl)
    ·replace h:=ze h b9
     cases h
     try simp -implicitDefEqProofs only[go_sem,b3,b5,b7,b9]
     all_goals((repeat' apply And.intro)<;>rfl)
   ·replace h:=ze h b7
    cases h
    try simp -implicitDefEqProofs only[go_sem,b3,b5,b7]
    all_goals((repeat' apply And.intro)<;>rfl)
  ·replace h:=ze h b5
   cases h
   try simp -implicitDefEqProofs only[go_sem,b3,b5]
   all_goals((repeat' apply And.intro)<;>rfl)
 ·replace h:=ze h b3
  obtain⟨fus14,h⟩:=zbg h
  unfold fuel at fus14
  try simp -implicitDefEqProofs only[go_sem,b3]
  refine zbe (fun x:(Nat×(Unit))×(Unit)=>envL [(3,.ptr 3 0),(5,.ptr 5 0),(7,.ptr 7 0),(10,.p (.val (.int .i64 ((x.1.1:Nat):Int))))]) (fun x=>heapL [(3,.box [.p (.lst (a0.nodes.map encNode)),.p (.lst (a0.edges.map encEdgeT))]),(5,.box ((zz a2).map .p)),(7,.box ((zb2 a1).map .p))]) () h (weakL (by simp -implicitDefEqProofs only[go_sem,b3]<;>((repeat' apply And.intro)<;>rfl))) ?_ ?_
  ·intro i14 s14 g14 nxts14 Rs14 his14 hNs14 h
   have hws14:=zt (k:=i14) his14 (by omega)
   try dsimp only at h
   try simp -implicitDefEqProofs only[go_sem,b3,his14,hws14]
   refine zbn [.q,.q,.q,.q,.q,.q,.q,.q,.q] (by kernel_rfl) ?_
   obtain⟨e15,c15,g15,q15,h⟩:=zbu zz h
   obtain⟨r16,hr16,h⟩:=zm h
   try simp -implicitDefEqProofs only[go_sem,b3,his14,hws14,c15,g15]
   refine calldG (ih a0 a1 e15 r16 hr16) (by simp -implicitDefEqProofs only[go_sem,b3,his14,hws14,c15,g15]<;>rfl) (zb _) (by first | exact pers | exact scal rfl) ?_
   try simp -implicitDefEqProofs only[go_sem,b3,his14,hws14,c15,g15]
   refine zg (fun b17=>?_) (fun b17=>?_)
   ·replace h:=zd h b17
    try simp -implicitDefEqProofs only[go_sem,b3,his14,hws14,c15,g15,b17]
    exact hNs14 () () h (weakL (by simp -implicitDefEqProofs only[go_sem,b3,his14,hws14,c15,g15,b17]<;>((repeat' apply And.intro)<;>rfl)))
   ·replace h:=ze h b17
    cases h
    try simp -implicitDefEqProofs only[go_sem,b3,his14,hws14,c15,g15,b17]
    all_goals((repeat' apply And.intro)<;>rfl)
  ·intro i14 s14 g14 Rs14 hes14 h
   have hns14:¬ (i14<a2.kids.length):=by omega
   try dsimp only at h
   cases h
   try simp -implicitDefEqProofs only[go_sem,b3,hns14]
   all_goals((repeat' apply And.intro)<;>rfl)
theorem zoz (a0:zl) (a1:List zu) (r:Bool) (h:zfz a0 a1=some r):zh Tryz.prog 9 [.agg [.lst (a0.nodes.map encNode),.lst (a0.edges.map encEdgeT)],.lst (a1.map zbj)] (fun v=>v = .val (.bool r)):=by
 refine zh.ple ?_
 refine zf [] Ty.mixed Tryz.func9 rfl (by kernel_rfl) (by simp[Tryz.ntmps9]) ?_; rw[Tryz.ntmps9,Tryz.results9]
 unfold zfz at h
 obtain⟨r2,hr2,h⟩:=zm h
 try simp -implicitDefEqProofs only[go_sem]
 refine callG (zpa a0 r2 hr2) (by simp -implicitDefEqProofs only[go_sem]<;>rfl) (zb _) (by first | exact pers | exact scal rfl) ?_
 try simp -implicitDefEqProofs only[go_sem]
 refine zq (fun b3=>?_) (fun b3=>?_)
 ·replace h:=zd h b3
  try simp -implicitDefEqProofs only[go_sem,b3]
  refine zc (fun b4=>?_) (fun b4=>?_)
  ·replace h:=zd h b4
   cases h
   try simp -implicitDefEqProofs only[go_sem,b3,b4]
   all_goals((repeat' apply And.intro)<;>rfl)
  ·replace h:=ze h b4
   obtain⟨fus5,h⟩:=zbg h
   unfold fuel at fus5
   try simp -implicitDefEqProofs only[go_sem,b3,b4]
   refine zbe (fun x:(Nat×(Unit))×(Unit)=>envL [(1,.p (.lst (a1.map zbj))),(5,.p (.val (.int .i64 ((x.1.1:Nat):Int))))]) (fun x=>heapL []) () h (weakL (by simp -implicitDefEqProofs only[go_sem,b3,b4]<;>((repeat' apply And.intro)<;>rfl))) ?_ ?_
   ·intro i5 s5 g5 nxts5 Rs5 his5 hNs5 h
    have hws5:=zt (k:=i5) his5 (by omega)
    try dsimp only at h
    obtain⟨e6,c6,g6,q6,h⟩:=zbu zbj h
    obtain⟨r7,hr7,h⟩:=zm h
    try simp -implicitDefEqProofs only[go_sem,b3,b4,his5,hws5,c6,g6]
    refine callG (zo3 e6 r7 hr7) (by simp -implicitDefEqProofs only[go_sem,b3,b4,his5,hws5,c6,g6]<;>rfl) (zb _) (by first | exact pers | exact scal rfl) ?_
    try simp -implicitDefEqProofs only[go_sem,b3,b4,his5,hws5,c6,g6]
    refine zg (fun b8=>?_) (fun b8=>?_)
    ·replace h:=zd h b8
     try simp -implicitDefEqProofs only[go_sem,b3,b4,his5,hws5,c6,g6,b8]
     exact hNs5 () () h (weakL (by simp -implicitDefEqProofs only[go_sem,b3,b4,his5,hws5,c6,g6,b8]<;>((repeat' apply And.intro)<;>rfl)))
    ·replace h:=ze h b8
     cases h
     try simp -implicitDefEqProofs only[go_sem,b3,b4,his5,hws5,c6,g6,b8]
     all_goals((repeat' apply And.intro)<;>rfl)
   ·intro i5 s5 g5 Rs5 hes5 h
    have hns5:¬ (i5<a1.length):=by omega
    try dsimp only at h
    cases h
    try simp -implicitDefEqProofs only[go_sem,b3,b4,hns5]
    all_goals((repeat' apply And.intro)<;>rfl)
 ·replace h:=ze h b3
  cases h
  try simp -implicitDefEqProofs only[go_sem,b3]
  all_goals((repeat' apply And.intro)<;>rfl)
theorem zs4 (a0:z8) (a1:zdb) (r:Int) (h:zgq a0 a1=some r):zh Tryz.prog 240 [.agg [.lst (a0.nodes.map encI),.lst (a0.edges.map encEdge)],.agg [.lst (a1.nodes.map encI),.lst (a1.edges.map encI)]] (fun v=>v = .val (.int .i64 r)):=by
 refine zh.ple ?_
 refine zf [] Ty.mixed Tryz.func240 rfl (by kernel_rfl) (by simp[Tryz.ntmps240]) ?_; rw[Tryz.ntmps240,Tryz.results240]
 unfold zgq at h
 obtain⟨r2,hr2,h⟩:=zm h
 try simp -implicitDefEqProofs only[go_sem]
 refine callG (ziy a0 r2 hr2) (by simp -implicitDefEqProofs only[go_sem]<;>rfl) (zb _) (by first | exact pers | exact scal rfl) ?_
 try simp -implicitDefEqProofs only[go_sem]
 refine zg (fun b3=>?_) (fun b3=>?_)
 ·replace h:=zd h b3
  obtain⟨r4,hr4,h⟩:=zm h
  try simp -implicitDefEqProofs only[go_sem,b3]
  refine callG (zt7 (⟨a0.nodes,a0.edges⟩:z8) (⟨a1.nodes,a1.edges⟩:zdb) r4 hr4) (by simp -implicitDefEqProofs only[go_sem,b3]<;>rfl) (zb _) (by first | exact pers | exact scal rfl) ?_
  cases h
  try simp -implicitDefEqProofs only[go_sem,b3]
  all_goals((repeat' apply And.intro)<;>rfl)
 ·replace h:=ze h b3
  cases h
  try simp -implicitDefEqProofs only[go_sem,b3]
  all_goals((repeat' apply And.intro)<;>rfl)
theorem zq5 (a0:z8) (a1:zdb) (r:z8×zby×Int) (h:zew a0 a1=some r):zbt Tryz.prog 191 [.agg [.lst (a0.nodes.map encI),.lst (a0.edges.map encEdge)],.agg [.lst (a1.nodes.map encI),.lst (a1.edges.map encI)]] (fun v=>v = .tup [.agg [.row 3 1 (r.1.nodes.map encI),.row 117 3 (r.1.edges.map encEdge)],.agg [.row 3 1 (r.2.1.nodes.map encI),.row 3 1 (r.2.1.edges.map encI)],.p (.val (.int .i64 r.2.2))]):=by
 refine zbt.rle ?_
 refine zbx [37,74] Ty.mixed Tryz.func191 rfl (by kernel_rfl) (by simp[Tryz.ntmps191]) ?_; rw[Tryz.ntmps191,Tryz.results191]
 unfold zew at h
 obtain⟨r2,hr2,h⟩:=zm h
 try simp -implicitDefEqProofs only[go_sem]
 refine callG (zs4 a0 a1 r2 hr2) (by simp -implicitDefEqProofs only[go_sem]<;>rfl) (zb _) (by first | exact pers | exact scal rfl) ?_
 try simp -implicitDefEqProofs only[go_sem]
 refine zg (fun b3=>?_) (fun b3=>?_)
 ·replace h:=zd h b3
  obtain⟨fus4,h⟩:=zbg h
  unfold fuel at fus4
  try simp -implicitDefEqProofs only[go_sem,b3]
  refine zbe (fun x:(Nat×((List Int)))×(Nat)=>envL [(2,.ptr 2 0),(3,.ptr 3 0),(4,.ptr 4 0),(5,.ptr 5 0),(8,.ptr 8 0),(23,.p (.lst (a1.nodes.map encI))),(24,.p (.val (.int .i64 ((a1.nodes.length:Nat):Int)))),(25,.p (.val (.int .i64 ((x.1.1:Nat):Int))))]) (fun x=>heapL [(2,.box [.p (.lst (a0.nodes.map encI)),.p (.lst (a0.edges.map encEdge))]),(3,.box [.p (.lst (a1.nodes.map encI)),.p (.lst (a1.edges.map encI))]),(4,.box [.p (.val (.slice none 0 0)),.p (.val (.slice none 0 0))]),(5,.box [.p (.val (.slice none 0 0)),.p (.val (.slice none 0 0))]),(8,.box [.row 2498 x.2,.p (.val (.slice none 0 0))]),(2498,.row x.2 3 1 (x.1.2.map encI))]) 0 h (by refine Weak.trans (zlp 8 0 2498 3 1 _ rfl rfl rfl (by decide)) ?_; exact (weakL (by simp -implicitDefEqProofs only[go_sem,b3]<;>((repeat' apply And.intro)<;>rfl)))) ?_ ?_
  ·intro i4 s4 g4 nxts4 Rs4 his4 hNs4 h
   have hws4:=zt (k:=i4) his4 (by omega)
   try dsimp only at h
   obtain⟨e5,c5,g5,q5,h⟩:=zbu encI h
   try simp -implicitDefEqProofs only[go_sem,b3,his4,hws4,c5,g5]
   refine zfg [(0,.p),(2,.q),(3,.q),(4,.q),(5,.q),(6,.q),(7,.p),(1,.q),(8,.w),(9,.q),(10,.w)] (by kernel_rfl) ?_
   obtain⟨e6,c6a,c6b,g6,q6,h⟩:=zce encI h
   have c6n:=zbv c6a c6b
   obtain⟨c7,h⟩:=zbg h
   have k8:=eq_true (show (s4.length+1) * 8≤140737488355328 by omega)
   have a9:=zfc encI s4 [e6] (c:=[[.val (.int .i64 e6)]]) rfl
   try simp -implicitDefEqProofs only[go_sem,b3,his4,hws4,c5,g5,c6a,c6b,c6n,g6,c7,k8,a9]
   exact hNs4 (s4++[e6]) (g4+1) h (weakL (by simp -implicitDefEqProofs only[go_sem,b3,his4,hws4,c5,g5,c6a,c6b,c6n,g6,c7,k8,a9]<;>((repeat' apply And.intro)<;>rfl)))
  ·intro i4 s4 g4 Rs4 hes4 h
   have hns4:¬ (i4<a1.nodes.length):=by omega
   try dsimp only at h
   obtain⟨fus10,h⟩:=zbg h
   unfold fuel at fus10
   try simp -implicitDefEqProofs only[go_sem,b3,hns4]
   refine zbe (fun x:(Nat×((List Edge)))×(Nat)=>envL [(2,.ptr 2 0),(3,.ptr 3 0),(4,.ptr 4 0),(5,.ptr 5 0),(8,.ptr 8 0),(41,.p (.lst (a1.edges.map encI))),(42,.p (.val (.int .i64 ((a1.edges.length:Nat):Int)))),(43,.p (.val (.int .i64 ((x.1.1:Nat):Int))))]) (fun x=>heapL [(2,.box [.p (.lst (a0.nodes.map encI)),.p (.lst (a0.edges.map encEdge))]),(3,.box [.p (.lst (a1.nodes.map encI)),.p (.lst (a1.edges.map encI))]),(4,.box [.p (.val (.slice none 0 0)),.p (.val (.slice none 0 0))]),(5,.box [.p (.val (.slice none 0 0)),.p (.val (.slice none 0 0))]),(8,.box [.row 2498 g4,.row 2526 x.2]),(2498,.row g4 3 1 (s4.map encI)),(2526,.row x.2 117 3 (x.1.2.map encEdge))]) 0 h (by refine Weak.trans (zlp 8 1 2526 117 3 _ rfl rfl rfl (by decide)) ?_; exact (weakL (by simp -implicitDefEqProofs only[go_sem,b3,hns4]<;>((repeat' apply And.intro)<;>rfl)))) ?_ ?_
   ·intro i10 s10 g10 nxts10 Rs10 his10 hNs10 h
    have hws10:=zt (k:=i10) his10 (by omega)
    try dsimp only at h
    obtain⟨e11,c11,g11,q11,h⟩:=zbu encI h
    obtain⟨e12,c12a,c12b,g12,q12,h⟩:=zce encEdge h
    have c12n:=zbv c12a c12b
    obtain⟨r13,hr13,h⟩:=zm h
    try simp -implicitDefEqProofs only[go_sem,b3,hns4,his10,hws10,c11,g11,c12a,c12b,c12n,g12]
    refine callG (zhb a1.nodes e12.src r13 hr13) (by simp -implicitDefEqProofs only[go_sem,b3,hns4,his10,hws10,c11,g11,c12a,c12b,c12n,g12]<;>rfl) (zb _) (by first | exact pers | exact scal rfl) ?_
    obtain⟨r14,hr14,h⟩:=zm h
    try simp -implicitDefEqProofs only[go_sem,b3,hns4,his10,hws10,c11,g11,c12a,c12b,c12n,g12]
    refine callG (zhb a1.nodes e12.dst r14 hr14) (by simp -implicitDefEqProofs only[go_sem,b3,hns4,his10,hws10,c11,g11,c12a,c12b,c12n,g12]<;>rfl) (zb _) (by first | exact pers | exact scal rfl) ?_
    obtain⟨c15,h⟩:=zbg h
    have k16:=eq_true (show (s10.length+1) * 24≤140737488355328 by omega)
    have a17:=zfc encEdge s10 [(⟨e12.type,r13.1,r14.1⟩:Edge)] (c:=[[.val (.int .i64 e12.type),.val (.int .i64 r13.1),.val (.int .i64 r14.1)]]) rfl
    try simp -implicitDefEqProofs only[go_sem,b3,hns4,his10,hws10,c11,g11,c12a,c12b,c12n,g12,c15,k16,a17]
    exact hNs10 (s10++[(⟨e12.type,r13.1,r14.1⟩:Edge)]) (g10+1) h (weakL (by simp -implicitDefEqProofs only[go_sem,b3,hns4,his10,hws10,c11,g11,c12a,c12b,c12n,g12,c15,k16,a17]<;>((repeat' apply And.intro)<;>rfl)))
   ·intro i10 s10 g10 Rs10 hes10 h
    have hns10:¬ (i10<a1.edges.length):=by omega
    try dsimp only at h
    try simp -implicitDefEqProofs only[go_sem,b3,hns4,hns10]
    refine zfg [(0,.q),(1,.q),(2,.q),(4,.q),(5,.q),(3,.f),(6,.f),(7,.p),(8,.w),(9,.w),(10,.q)] (by kernel_rfl) ?_
    obtain⟨r18,hr18,h⟩:=zm h
    try simp -implicitDefEqProofs only[go_sem,b3,hns4,hns10]
    refine calldfG 2280 (zjo a1.nodes r18 hr18) (by simp -implicitDefEqProofs only[go_sem,b3,hns4,hns10]<;>rfl) (zb _) (by first | exact persF | exact flatF rfl | exact flatF (by simp[RV.flat,RV.flatL,PV.scalar,isVal,encI])) (by simp -implicitDefEqProofs only[go_sem,b3,hns4,hns10]) (by simp -implicitDefEqProofs only[go_sem,b3,hns4,hns10]) ?_
    obtain⟨r19,hr19,h⟩:=zm h
    try simp -implicitDefEqProofs only[go_sem,b3,hns4,hns10]
    refine calldfG 2328 (zjo a1.edges r19 hr19) (by simp -implicitDefEqProofs only[go_sem,b3,hns4,hns10]<;>rfl) (zb _) (by first | exact persF | exact flatF rfl | exact flatF (by simp[RV.flat,RV.flatL,PV.scalar,isVal,encI])) (by simp -implicitDefEqProofs only[go_sem,b3,hns4,hns10]) (by simp -implicitDefEqProofs only[go_sem,b3,hns4,hns10]) ?_
    cases h
    try simp -implicitDefEqProofs only[go_sem,b3,hns4,hns10]
    refine⟨by decide,_,.refl _,?_⟩
    simp -implicitDefEqProofs only[go_sem,b3,hns4,hns10]<;>((repeat' apply And.intro)<;>rfl)
 ·replace h:=ze h b3
  cases h
  try simp -implicitDefEqProofs only[go_sem,b3]
  refine⟨by decide,_,.refl _,?_⟩
  simp -implicitDefEqProofs only[go_sem,b3]<;>((repeat' apply And.intro)<;>rfl)
theorem znr (a0:zl) (a1:z7) (a2:zp) (r:Int) (h:zcl a0 a1 a2=some r):zh Tryz.prog 131 [.agg [.lst (a0.nodes.map encNode),.lst (a0.edges.map encEdgeT)],.agg (zb2 a1),.agg (zz a2)] (fun v=>v = .val (.int .i64 r)):=by
 refine zh.ple ?_
 refine zf [] Ty.mixed Tryz.func131 rfl (by kernel_rfl) (by simp[Tryz.ntmps131]) ?_; rw[Tryz.ntmps131,Tryz.results131]
 unfold zcl at h
 obtain⟨r3,hr3,h⟩:=zm h
 try simp -implicitDefEqProofs only[go_sem]
 refine callG (zho a0 a1 r3 hr3) (by simp -implicitDefEqProofs only[go_sem]<;>rfl) (zb _) (by first | exact pers | exact scal rfl) ?_
 try simp -implicitDefEqProofs only[go_sem]
 refine zg (fun b4=>?_) (fun b4=>?_)
 ·replace h:=zd h b4
  obtain⟨r5,hr5,h⟩:=zm h
  try simp -implicitDefEqProofs only[go_sem,b4]
  refine callG (znn a2 r5 hr5) (by simp -implicitDefEqProofs only[go_sem,b4]<;>rfl) (zb _) (by first | exact pers | exact scal rfl) ?_
  try simp -implicitDefEqProofs only[go_sem,b4]
  refine zg (fun b6=>?_) (fun b6=>?_)
  ·replace h:=zd h b6
   obtain⟨r7,hr7,h⟩:=zm h
   try simp -implicitDefEqProofs only[go_sem,b4,b6]
   refine callG (zor fuel a0 a1 a2 r7 hr7) (by simp -implicitDefEqProofs only[go_sem,b4,b6]<;>rfl) (zb _) (by first | exact pers | exact scal rfl) ?_
   cases h
   try simp -implicitDefEqProofs only[go_sem,b4,b6]
   all_goals((repeat' apply And.intro)<;>rfl)
  ·replace h:=ze h b6
   cases h
   try simp -implicitDefEqProofs only[go_sem,b4,b6]
   all_goals((repeat' apply And.intro)<;>rfl)
 ·replace h:=ze h b4
  cases h
  try simp -implicitDefEqProofs only[go_sem,b4]
  all_goals((repeat' apply And.intro)<;>rfl)
theorem zsi (a0:zl) (a1:z7) (a2:zp) (r:Int) (h:zg6 a0 a1 a2=some r):zh Tryz.prog 153 [.agg [.lst (a0.nodes.map encNode),.lst (a0.edges.map encEdgeT)],.agg (zb2 a1),.agg (zz a2)] (fun v=>v = .val (.int .i64 r)):=by
 refine zh.ple ?_
 refine zf [] Ty.mixed Tryz.func153 rfl (by kernel_rfl) (by simp[Tryz.ntmps153]) ?_; rw[Tryz.ntmps153,Tryz.results153]
 unfold zg6 at h
 obtain⟨r3,hr3,h⟩:=zm h
 try simp -implicitDefEqProofs only[go_sem]
 refine callG (zj6 a0 a1 r3 hr3) (by simp -implicitDefEqProofs only[go_sem]<;>rfl) (zb _) (by first | exact pers | exact scal rfl) ?_
 try simp -implicitDefEqProofs only[go_sem]
 refine zg (fun b4=>?_) (fun b4=>?_)
 ·replace h:=zd h b4
  obtain⟨r5,hr5,h⟩:=zm h
  try simp -implicitDefEqProofs only[go_sem,b4]
  refine callG (zsk a2 r5 hr5) (by simp -implicitDefEqProofs only[go_sem,b4]<;>rfl) (zb _) (by first | exact pers | exact scal rfl) ?_
  try simp -implicitDefEqProofs only[go_sem,b4]
  refine zg (fun b6=>?_) (fun b6=>?_)
  ·replace h:=zd h b6
   obtain⟨r7,hr7,h⟩:=zm h
   try simp -implicitDefEqProofs only[go_sem,b4,b6]
   refine callG (zrc fuel a0 a1 a2 r7 hr7) (by simp -implicitDefEqProofs only[go_sem,b4,b6]<;>rfl) (zb _) (by first | exact pers | exact scal rfl) ?_
   cases h
   try simp -implicitDefEqProofs only[go_sem,b4,b6]
   all_goals((repeat' apply And.intro)<;>rfl)
  ·replace h:=ze h b6
   cases h
   try simp -implicitDefEqProofs only[go_sem,b4,b6]
   all_goals((repeat' apply And.intro)<;>rfl)
 ·replace h:=ze h b4
  cases h
  try simp -implicitDefEqProofs only[go_sem,b4]
  all_goals((repeat' apply And.intro)<;>rfl)
end
end Go.Proofs.YthjgdkloabgcoaaGreat
