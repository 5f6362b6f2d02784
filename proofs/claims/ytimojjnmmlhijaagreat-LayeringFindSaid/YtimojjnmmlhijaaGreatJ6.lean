/- Joined texts, part 6: lemmas for the statement. No condition. -/
import Derived.Test.YtimojjnmmlhijaaGreatJ4
import Derived.Test.YtimojjnmmlhijaaGreatJ5
set_option linter.unusedSimpArgs false
set_option linter.unusedVariables false
open Nat (reduceEqDiff reduceLT reduceLeDiff reduceMul reduceAdd reduceSub)
set_option maxRecDepth 20000
namespace Go.Proofs.YtimojjnmmlhijaaGreat
open Go.Abs


noncomputable section
set_option maxHeartbeats 4000000 in
theorem znc (a0:List Int) (p1:Int→Option Bool) (k1:FuncId) (fs1 cs1:List PV) (hp1:∀ x0 r,p1 x0=some r→CallV Tryz.prog k1 (fs1++[.val (.int .i64 x0)]++cs1) (fun v=>v = .val (.bool r))) (r:Int) (h:zev a0 p1=some r):CallV Tryz.prog 74 [.lst (a0.map encI),.clo (.func k1) fs1 cs1] (fun v=>v = .val (.int .i64 r)):=by
 refine CallV.ple ?_
 refine zc [] Ty.mixed Tryz.func74 rfl (by kernel_rfl) (by simp [Tryz.ntmps74]) ?_; rw [Tryz.ntmps74,Tryz.results74]
 unfold zev at h
 obtain ⟨fus45,h⟩:=chk_s h
 unfold fuel at fus45
 try simp -implicitDefEqProofs only [go_sem]
 refine z7 (fun x:(Nat×(Unit))×(Unit)=>envL [(0,.p (.lst (a0.map encI))),(1,.p (.clo (.func k1) fs1 cs1)),(7,.p (.val (.int .i64 ((a0.length:Nat):Int)))),(8,.p (.val (.int .i64 ((x.1.1:Nat):Int))))]) (fun x=>heapL []) () h (weakL (by simp -implicitDefEqProofs only [go_sem] <;> ((repeat' apply And.intro) <;> rfl))) ?_ ?_
 ·intro i45 s45 g45 nxts45 Rs45 his45 hNs45 h
  have hws45:=zk (k:=i45) his45 (by omega)
  try dsimp only at h
  obtain ⟨e49,c49,g49,q49,h⟩:=idx_s encI h
  obtain ⟨r50,hr50,h⟩:=thn_s h
  try simp -implicitDefEqProofs only [go_sem,his45,hws45,c49,g49]
  refine callG (hp1 e49 r50 hr50) (by simp -implicitDefEqProofs only [go_sem,his45,hws45,c49,g49,zfd,ze5,Bool.or_false,Bool.false_or] <;> rfl) (za _) (by first | exact pers | exact scal rfl) ?_
  try simp -implicitDefEqProofs only [go_sem,his45,hws45,c49,g49]
  refine zb (fun b51=>?_) (fun b51=>?_)
  ·replace h:=ze h b51
   cases h
   try simp -implicitDefEqProofs only [go_sem,his45,hws45,c49,g49,b51]
   all_goals ((repeat' apply And.intro) <;> rfl)
  ·replace h:=zd h b51
   try simp -implicitDefEqProofs only [go_sem,his45,hws45,c49,g49,b51]
   exact hNs45 () () h (weakL (by simp -implicitDefEqProofs only [go_sem,his45,hws45,c49,g49,b51] <;> ((repeat' apply And.intro) <;> rfl)))
 ·intro i45 s45 g45 Rs45 hes45 h
  have hns45:¬ (i45 < a0.length):=by omega
  try dsimp only at h
  cases h
  try simp -implicitDefEqProofs only [go_sem,hns45]
  all_goals ((repeat' apply And.intro) <;> rfl)

set_option maxHeartbeats 4000000 in
theorem zk5 (a0:Int) (r:Bool) (h:ze6 a0=some r):CallV Tryz.prog 269 [.val (.int .i64 a0)] (fun v=>v = .val (.bool r)):=by
 refine CallV.ple ?_
 refine zc [] Ty.mixed Tryz.func269 rfl (by kernel_rfl) (by simp [Tryz.ntmps269]) ?_; rw [Tryz.ntmps269,Tryz.results269]
 unfold ze6 at h
 cases h
 try simp -implicitDefEqProofs only [go_sem]
 all_goals ((repeat' apply And.intro) <;> rfl)

set_option maxHeartbeats 4000000 in
theorem zkn (a0:List zi) (p1:zi→Option Bool) (k1:FuncId) (fs1 cs1:List PV) (hp1:∀ x0 r,p1 x0=some r→CallV Tryz.prog k1 (fs1++[.agg (zt x0)]++cs1) (fun v=>v = .val (.bool r))) (r:Int) (h:zdi a0 p1=some r):CallV Tryz.prog 282 [.lst (a0.map zt),.clo (.func k1) fs1 cs1] (fun v=>v = .val (.int .i64 r)):=by
 refine CallV.ple ?_
 refine zc [] Ty.mixed Tryz.func282 rfl (by kernel_rfl) (by simp [Tryz.ntmps282]) ?_; rw [Tryz.ntmps282,Tryz.results282]
 unfold zdi at h
 obtain ⟨fus690,h⟩:=chk_s h
 unfold fuel at fus690
 try simp -implicitDefEqProofs only [go_sem]
 refine z7 (fun x:(Nat×(Unit))×(Unit)=>envL [(0,.p (.lst (a0.map zt))),(1,.p (.clo (.func k1) fs1 cs1)),(7,.p (.val (.int .i64 ((a0.length:Nat):Int)))),(8,.p (.val (.int .i64 ((x.1.1:Nat):Int))))]) (fun x=>heapL []) () h (weakL (by simp -implicitDefEqProofs only [go_sem] <;> ((repeat' apply And.intro) <;> rfl))) ?_ ?_
 ·intro i690 s690 g690 nxts690 Rs690 his690 hNs690 h
  have hws690:=zk (k:=i690) his690 (by omega)
  try dsimp only at h
  obtain ⟨e694,c694,g694,q694,h⟩:=idx_s zt h
  obtain ⟨r695,hr695,h⟩:=thn_s h
  try simp -implicitDefEqProofs only [go_sem,his690,hws690,c694,g694]
  refine callG (hp1 e694 r695 hr695) (by simp -implicitDefEqProofs only [go_sem,his690,hws690,c694,g694,zfd,ze5,Bool.or_false,Bool.false_or] <;> rfl) (za _) (by first | exact pers | exact scal rfl) ?_
  try simp -implicitDefEqProofs only [go_sem,his690,hws690,c694,g694]
  refine zb (fun b696=>?_) (fun b696=>?_)
  ·replace h:=ze h b696
   cases h
   try simp -implicitDefEqProofs only [go_sem,his690,hws690,c694,g694,b696]
   all_goals ((repeat' apply And.intro) <;> rfl)
  ·replace h:=zd h b696
   try simp -implicitDefEqProofs only [go_sem,his690,hws690,c694,g694,b696]
   exact hNs690 () () h (weakL (by simp -implicitDefEqProofs only [go_sem,his690,hws690,c694,g694,b696] <;> ((repeat' apply And.intro) <;> rfl)))
 ·intro i690 s690 g690 Rs690 hes690 h
  have hns690:¬ (i690 < a0.length):=by omega
  try dsimp only at h
  cases h
  try simp -implicitDefEqProofs only [go_sem,hns690]
  all_goals ((repeat' apply And.intro) <;> rfl)

set_option maxHeartbeats 4000000 in
theorem zli (a0:Types) (a1:Graph) (a2:List Int) (a3:List Int) (r:(List Int)) (h:zd0 a0 a1 a2 a3=some r):CallF Tryz.prog 88 [.agg [.lst (a0.nodes.map encNode),.lst (a0.edges.map encEdgeT)],.agg [.lst (a1.nodes.map encI),.lst (a1.edges.map encEdge)],.lst (a2.map encI),.lst (a3.map encI)] (fun v=>v = .row 3 1 (r.map encI)):=by
 refine CallF.rle ?_
 refine zbl [27] Ty.mixed Tryz.func88 rfl (by kernel_rfl) (by simp [Tryz.ntmps88]) ?_; rw [Tryz.ntmps88,Tryz.results88]
 unfold zd0 at h
 obtain ⟨fus869,h⟩:=chk_s h
 unfold fuel at fus869
 try simp -implicitDefEqProofs only [go_sem]
 refine z7 (fun x:(Nat×((List Int)))×(Nat)=>envL [(3,.p (.lst (a3.map encI))),(4,.ptr 4 0),(5,.ptr 5 0),(9,.row 2867 x.2),(14,.p (.lst (a2.map encI))),(15,.p (.val (.int .i64 ((a2.length:Nat):Int)))),(16,.p (.val (.int .i64 ((x.1.1:Nat):Int))))]) (fun x=>heapL [(4,.box [.p (.lst (a0.nodes.map encNode)),.p (.lst (a0.edges.map encEdgeT))]),(5,.box [.p (.lst (a1.nodes.map encI)),.p (.lst (a1.edges.map encEdge))]),(2867,.row x.2 3 1 (x.1.2.map encI))]) 0 h (by refine Weak.trans (zha 9 2867 3 1 rfl rfl (by decide)) ?_; exact (weakL (by simp -implicitDefEqProofs only [go_sem] <;> ((repeat' apply And.intro) <;> rfl)))) ?_ ?_
 ·intro i869 s869 g869 nxts869 Rs869 his869 hNs869 h
  have hws869:=zk (k:=i869) his869 (by omega)
  try dsimp only at h
  obtain ⟨e875,c875,g875,q875,h⟩:=idx_s encI h
  obtain ⟨e876,c876a,c876b,g876,q876,h⟩:=atZ_s encI h
  have c876n:=zbj c876a c876b
  obtain ⟨c877,h⟩:=chk_s h
  have k878:=eq_true (show (s869.length+1) * 8≤140737488355328 by omega)
  have a879:=ze2 encI s869 [e876] (c:=[[.val (.int .i64 e876)]]) rfl
  try simp -implicitDefEqProofs only [go_sem,his869,hws869,c875,g875,c876a,c876b,c876n,g876,c877,k878,a879]
  exact hNs869 (s869++[e876]) (g869+1) h (weakL (by simp -implicitDefEqProofs only [go_sem,his869,hws869,c875,g875,c876a,c876b,c876n,g876,c877,k878,a879] <;> ((repeat' apply And.intro) <;> rfl)))
 ·intro i869 s869 g869 Rs869 hes869 h
  have hns869:¬ (i869 < a2.length):=by omega
  try dsimp only at h
  obtain ⟨fus891,h⟩:=chk_s h
  unfold fuel at fus891
  try simp -implicitDefEqProofs only [go_sem,hns869]
  refine z7 (fun x:(Nat×((List Int)))×(Nat)=>envL [(4,.ptr 4 0),(5,.ptr 5 0),(9,.row 2867 x.2),(29,.p (.lst (a3.map encI))),(30,.p (.val (.int .i64 ((a3.length:Nat):Int)))),(31,.p (.val (.int .i64 ((x.1.1:Nat):Int))))]) (fun x=>heapL [(4,.box [.p (.lst (a0.nodes.map encNode)),.p (.lst (a0.edges.map encEdgeT))]),(5,.box [.p (.lst (a1.nodes.map encI)),.p (.lst (a1.edges.map encEdge))]),(2867,.row x.2 3 1 (x.1.2.map encI))]) g869 h (weakL (by simp -implicitDefEqProofs only [go_sem,hns869] <;> ((repeat' apply And.intro) <;> rfl))) ?_ ?_
  ·intro i891 s891 g891 nxts891 Rs891 his891 hNs891 h
   have hws891:=zk (k:=i891) his891 (by omega)
   try dsimp only at h
   obtain ⟨e901,c901,g901,q901,h⟩:=idx_s encI h
   try simp -implicitDefEqProofs only [go_sem,hns869,his891,hws891,c901,g901]
   refine zbd [.p,.q,.q,.q,.q,.q,.q,.q,.q,.q,.q,.p,.w,.q] (by kernel_rfl) ?_
   obtain ⟨e906,c906a,c906b,g906,q906,h⟩:=atZ_s encEdge h
   have c906n:=zbj c906a c906b
   obtain ⟨c907,h⟩:=chk_s h
   have k908:=eq_true (show (s891.length+1) * 8≤140737488355328 by omega)
   have a909:=ze2 encI s891 [(IntKind.i64.wrap (((a0.nodes.length:Nat):Int)+e906.type))] (c:=[[.val (.int .i64 (IntKind.i64.wrap (((a0.nodes.length:Nat):Int)+e906.type)))]]) rfl
   try simp -implicitDefEqProofs only [go_sem,hns869,his891,hws891,c901,g901,c906a,c906b,c906n,g906,c907,k908,a909]
   exact hNs891 (s891++[(IntKind.i64.wrap (((a0.nodes.length:Nat):Int)+e906.type))]) (g891+1) h (weakL (by simp -implicitDefEqProofs only [go_sem,hns869,his891,hws891,c901,g901,c906a,c906b,c906n,g906,c907,k908,a909] <;> ((repeat' apply And.intro) <;> rfl)))
  ·intro i891 s891 g891 Rs891 hes891 h
   have hns891:¬ (i891 < a3.length):=by omega
   try dsimp only at h
   obtain ⟨r910,hr910,h⟩:=thn_s h
   try simp -implicitDefEqProofs only [go_sem,hns869,hns891]
   refine zr0 (zlh g891 s891 r910 hr910) (by simp -implicitDefEqProofs only [go_sem,hns869,hns891] <;> rfl) (by simp -implicitDefEqProofs only [go_sem,hns869,hns891] <;> rfl) (by simp -implicitDefEqProofs only [go_sem,hns869,hns891] <;> rfl) (fun h=>by cases h) ?_
   obtain ⟨r911,hr911,h⟩:=thn_s h
   try simp -implicitDefEqProofs only [go_sem,hns869,hns891]
   refine zvj (zj7 g891 r910 r911 hr911) (by simp -implicitDefEqProofs only [go_sem,hns869,hns891] <;> rfl) (by simp -implicitDefEqProofs only [go_sem,hns869,hns891] <;> rfl) (by simp -implicitDefEqProofs only [go_sem,hns869,hns891] <;> rfl) (fun h=>by cases h) ?_
   cases h
   try simp -implicitDefEqProofs only [go_sem,hns869,hns891]
   refine ⟨by decide,_,.refl _,?_⟩
   simp -implicitDefEqProofs only [go_sem,hns869,hns891] <;> ((repeat' apply And.intro) <;> rfl)

set_option maxHeartbeats 4000000 in
theorem zkh (a0:zbm) (a1:Int) (a2:List Int) (r:Bool) (h:zes a0 a1 a2=some r):CallV Tryz.prog 62 [.agg (zq a0),.eptr [.val (.int .i64 a1)] 0,.eptr [.lst (a2.map encI)] 0] (fun v=>v = .val (.bool r)):=by
 refine CallV.ple ?_
 refine zc [] Ty.mixed Tryz.func62 rfl (by kernel_rfl) (by simp [Tryz.ntmps62]) ?_; rw [Tryz.ntmps62,Tryz.results62]
 unfold zes at h
 try simp -implicitDefEqProofs only [go_sem]
 refine zbd [.q,.q,.q,.q,.q,.q,.q,.q,.q,.q,.q,.q,.q,.q,.q,.q,.q,.q,.q,.q,.q,.q,.q,.q,.q,.q] (by kernel_rfl) ?_
 try simp -implicitDefEqProofs only [go_sem]
 refine zcu (fun b1617=>?_) (fun b1617=>?_)
 ·replace h:=ze h b1617
  obtain ⟨e1618,c1618a,c1618b,g1618,q1618,h⟩:=atZ_s encI h
  have c1618n:=zbj c1618a c1618b
  try simp -implicitDefEqProofs only [go_sem,b1617,c1618a,c1618b,c1618n,g1618]
  refine zcu (fun b1619=>?_) (fun b1619=>?_)
  ·replace h:=ze h b1619
   obtain ⟨e1620,c1620a,c1620b,g1620,q1620,h⟩:=atZ_s encI h
   have c1620n:=zbj c1620a c1620b
   cases h
   try simp -implicitDefEqProofs only [go_sem,b1617,c1618a,c1618b,c1618n,g1618,b1619,c1620a,c1620b,c1620n,g1620]
   all_goals ((repeat' apply And.intro) <;> rfl)
  ·replace h:=zd h b1619
   cases h
   try simp -implicitDefEqProofs only [go_sem,b1617,c1618a,c1618b,c1618n,g1618,b1619]
   all_goals ((repeat' apply And.intro) <;> rfl)
 ·replace h:=zd h b1617
  cases h
  try simp -implicitDefEqProofs only [go_sem,b1617]
  all_goals ((repeat' apply And.intro) <;> rfl)

set_option maxHeartbeats 4000000 in
theorem zn5 (a0:zcr) (a1:Int) (r:Bool) (h:zfc a0 a1=some r):CallV Tryz.prog 55 [.agg [.lst (a0.nodes.map encI),.lst (a0.edges.map encI)],.val (.int .i64 a1)] (fun v=>v = .val (.bool r)):=by
 refine CallV.ple ?_
 refine zc [] Ty.mixed Tryz.func55 rfl (by kernel_rfl) (by simp [Tryz.ntmps55]) ?_; rw [Tryz.ntmps55,Tryz.results55]
 unfold zfc at h
 cases h
 try simp -implicitDefEqProofs only [go_sem]
 all_goals ((repeat' apply And.intro) <;> rfl)

set_option maxHeartbeats 4000000 in
theorem zlt (a0:Int) (r:Bool) (h:zfj a0=some r):CallV Tryz.prog 163 [.val (.int .i64 a0)] (fun v=>v = .val (.bool r)):=by
 refine CallV.ple ?_
 refine zc [] Ty.mixed Tryz.func163 rfl (by kernel_rfl) (by simp [Tryz.ntmps163]) ?_; rw [Tryz.ntmps163,Tryz.results163]
 unfold zfj at h
 try simp -implicitDefEqProofs only [go_sem]
 refine zj (fun b2222=>?_) (fun b2222=>?_)
 ·replace h:=ze h b2222
  cases h
  try simp -implicitDefEqProofs only [go_sem,b2222]
  all_goals ((repeat' apply And.intro) <;> rfl)
 ·replace h:=zd h b2222
  cases h
  try simp -implicitDefEqProofs only [go_sem,b2222]
  all_goals ((repeat' apply And.intro) <;> rfl)

set_option maxHeartbeats 4000000 in
theorem zja (a0:List Int) (a1:Int) (r:Int) (h:zdp a0 a1=some r):CallV Tryz.prog 137 [.lst (a0.map encI),.val (.int .i64 a1)] (fun v=>v = .val (.int .i64 r)):=by
 refine CallV.ple ?_
 refine zc [] Ty.mixed Tryz.func137 rfl (by kernel_rfl) (by simp [Tryz.ntmps137]) ?_; rw [Tryz.ntmps137,Tryz.results137]
 unfold zdp at h
 obtain ⟨fus2447,h⟩:=chk_s h
 unfold fuel at fus2447
 try simp -implicitDefEqProofs only [go_sem]
 refine z7 (fun x:(Nat×(Unit))×(Unit)=>envL [(0,.p (.lst (a0.map encI))),(1,.p (.val (.int .i64 a1))),(5,.p (.val (.int .i64 ((x.1.1:Nat):Int))))]) (fun x=>heapL []) () h (weakL (by simp -implicitDefEqProofs only [go_sem] <;> ((repeat' apply And.intro) <;> rfl))) ?_ ?_
 ·intro i2447 s2447 g2447 nxts2447 Rs2447 his2447 hNs2447 h
  have hws2447:=zk (k:=i2447) his2447 (by omega)
  try dsimp only at h
  obtain ⟨e2450,c2450,g2450,q2450,h⟩:=idx_s encI h
  try simp -implicitDefEqProofs only [go_sem,his2447,hws2447,c2450,g2450]
  refine zb (fun b2451=>?_) (fun b2451=>?_)
  ·replace h:=ze h b2451
   cases h
   try simp -implicitDefEqProofs only [go_sem,his2447,hws2447,c2450,g2450,b2451]
   all_goals ((repeat' apply And.intro) <;> rfl)
  ·replace h:=zd h b2451
   try simp -implicitDefEqProofs only [go_sem,his2447,hws2447,c2450,g2450,b2451]
   exact hNs2447 () () h (weakL (by simp -implicitDefEqProofs only [go_sem,his2447,hws2447,c2450,g2450,b2451] <;> ((repeat' apply And.intro) <;> rfl)))
 ·intro i2447 s2447 g2447 Rs2447 hes2447 h
  have hns2447:¬ (i2447 < a0.length):=by omega
  try dsimp only at h
  cases h
  try simp -implicitDefEqProofs only [go_sem,hns2447]
  all_goals ((repeat' apply And.intro) <;> rfl)

set_option maxHeartbeats 4000000 in
theorem ze0 (a0:List Int) (r:Bool) (h:zb9 a0=some r):CallV Tryz.prog 129 [.lst (a0.map encI)] (fun v=>v = .val (.bool r)):=by
 refine CallV.ple ?_
 refine zc [] Ty.mixed Tryz.func129 rfl (by kernel_rfl) (by simp [Tryz.ntmps129]) ?_; rw [Tryz.ntmps129,Tryz.results129]
 unfold zb9 at h
 obtain ⟨fus2923,h⟩:=chk_s h
 unfold fuel at fus2923
 try simp -implicitDefEqProofs only [go_sem]
 refine z7 (fun x:(Nat×(Unit))×(Unit)=>envL [(0,.p (.lst (a0.map encI))),(3,.p (.val (.int .i64 ((x.1.1:Nat):Int))))]) (fun x=>heapL []) () h (weakL (by simp -implicitDefEqProofs only [go_sem] <;> ((repeat' apply And.intro) <;> rfl))) ?_ ?_
 ·intro i2923 s2923 g2923 nxts2923 Rs2923 his2923 hNs2923 h
  have hws2923:=zk (k:=i2923) his2923 (by omega)
  try dsimp only at h
  obtain ⟨fus2941,h⟩:=chk_s h
  unfold fuel at fus2941
  try simp -implicitDefEqProofs only [go_sem,his2923,hws2923]
  refine z7 (fun x:(Nat×(Unit))×(Unit)=>envL [(0,.p (.lst (a0.map encI))),(3,.p (.val (.int .i64 ((i2923:Nat):Int)))),(4,.p (.val (.int .i64 ((x.1.1:Nat):Int))))]) (fun x=>heapL []) () h (weakL (by simp -implicitDefEqProofs only [go_sem,his2923,hws2923] <;> ((repeat' apply And.intro) <;> rfl))) ?_ ?_
  ·intro i2941 s2941 g2941 nxts2941 Rs2941 his2941 hNs2941 h
   have hws2941:=zk (k:=i2941) his2941 (by omega)
   try dsimp only at h
   try simp -implicitDefEqProofs only [go_sem,his2923,hws2923,his2941,hws2941]
   refine zbd [.q,.q,.q,.q,.q,.q,.q,.q,.q] (by kernel_rfl) ?_
   obtain ⟨e2945,c2945,g2945,q2945,h⟩:=idx_s encI h
   obtain ⟨e2946,c2946,g2946,q2946,h⟩:=idx_s encI h
   try simp -implicitDefEqProofs only [go_sem,his2923,hws2923,his2941,hws2941,c2945,g2945,c2946,g2946]
   refine zb (fun b2947=>?_) (fun b2947=>?_)
   ·replace h:=ze h b2947
    cases h
    try simp -implicitDefEqProofs only [go_sem,his2923,hws2923,his2941,hws2941,c2945,g2945,c2946,g2946,b2947]
    all_goals ((repeat' apply And.intro) <;> rfl)
   ·replace h:=zd h b2947
    try simp -implicitDefEqProofs only [go_sem,his2923,hws2923,his2941,hws2941,c2945,g2945,c2946,g2946,b2947]
    exact hNs2941 () () h (weakL (by simp -implicitDefEqProofs only [go_sem,his2923,hws2923,his2941,hws2941,c2945,g2945,c2946,g2946,b2947] <;> ((repeat' apply And.intro) <;> rfl)))
  ·intro i2941 s2941 g2941 Rs2941 hes2941 h
   have hns2941:¬ (i2941 < i2923):=by omega
   try dsimp only at h
   try simp -implicitDefEqProofs only [go_sem,his2923,hws2923,hns2941]
   exact hNs2923 () () h (weakL (by simp -implicitDefEqProofs only [go_sem,his2923,hws2923,hns2941] <;> ((repeat' apply And.intro) <;> rfl)))
 ·intro i2923 s2923 g2923 Rs2923 hes2923 h
  have hns2923:¬ (i2923 < a0.length):=by omega
  try dsimp only at h
  cases h
  try simp -implicitDefEqProofs only [go_sem,hns2923]
  all_goals ((repeat' apply And.intro) <;> rfl)

set_option maxHeartbeats 4000000 in
theorem zis (a0:Types) (a1:Graph) (a2:List Int) (a3:List Int) (r:(List Int)) (h:zch a0 a1 a2 a3=some r):CallF Tryz.prog 66 [.agg [.lst (a0.nodes.map encNode),.lst (a0.edges.map encEdgeT)],.agg [.lst (a1.nodes.map encI),.lst (a1.edges.map encEdge)],.lst (a2.map encI),.lst (a3.map encI)] (fun v=>v = .row 3 1 (r.map encI)):=by
 refine CallF.rle ?_
 refine zbl [72] Ty.mixed Tryz.func66 rfl (by kernel_rfl) (by simp [Tryz.ntmps66]) ?_; rw [Tryz.ntmps66,Tryz.results66]
 unfold zch at h
 obtain ⟨fus3356,h⟩:=chk_s h
 unfold fuel at fus3356
 try simp -implicitDefEqProofs only [go_sem]
 refine z7 (fun x:(Nat×((List Int)))×(Nat)=>envL [(2,.p (.lst (a2.map encI))),(3,.p (.lst (a3.map encI))),(4,.ptr 4 0),(5,.ptr 5 0),(9,.row 5354 x.2),(10,.p (.val (.int .i64 ((x.1.1:Nat):Int))))]) (fun x=>heapL [(4,.box [.p (.lst (a0.nodes.map encNode)),.p (.lst (a0.edges.map encEdgeT))]),(5,.box [.p (.lst (a1.nodes.map encI)),.p (.lst (a1.edges.map encEdge))]),(5354,.row x.2 3 1 (x.1.2.map encI))]) 0 h (by refine Weak.trans (zha 9 5354 3 1 rfl rfl (by decide)) ?_; exact (weakL (by simp -implicitDefEqProofs only [go_sem] <;> ((repeat' apply And.intro) <;> rfl)))) ?_ ?_
 ·intro i3356 s3356 g3356 nxts3356 Rs3356 his3356 hNs3356 h
  have hws3356:=zk (k:=i3356) his3356 (by omega)
  have hjs3356:((i3356:Nat):Int) < (IntKind.i64.wrap (((a0.nodes.length:Nat):Int)+((a0.edges.length:Nat):Int))):=by omega
  try dsimp only at h
  obtain ⟨fus3388,h⟩:=chk_s h
  unfold fuel at fus3388
  try simp -implicitDefEqProofs only [go_sem,his3356,hws3356,hjs3356]
  refine z7 (fun x:(Nat×(Bool))×(Unit)=>envL [(2,.p (.lst (a2.map encI))),(3,.p (.lst (a3.map encI))),(4,.ptr 4 0),(5,.ptr 5 0),(9,.row 5354 g3356),(10,.p (.val (.int .i64 ((i3356:Nat):Int)))),(11,.p (.val (.bool x.1.2))),(12,.p (.val (.int .i64 ((x.1.1:Nat):Int))))]) (fun x=>heapL [(4,.box [.p (.lst (a0.nodes.map encNode)),.p (.lst (a0.edges.map encEdgeT))]),(5,.box [.p (.lst (a1.nodes.map encI)),.p (.lst (a1.edges.map encEdge))]),(5354,.row g3356 3 1 (s3356.map encI))]) () h (weakL (by simp -implicitDefEqProofs only [go_sem,his3356,hws3356,hjs3356] <;> ((repeat' apply And.intro) <;> rfl))) ?_ ?_
  ·intro i3388 s3388 g3388 nxts3388 Rs3388 his3388 hNs3388 h
   have hws3388:=zk (k:=i3388) his3388 (by omega)
   try dsimp only at h
   try simp -implicitDefEqProofs only [go_sem,his3356,hws3356,hjs3356,his3388,hws3388]
   refine zbd [.q,.q,.q,.q,.q,.q,.q,.q,.q,.q,.q,.q,.q,.q] (by kernel_rfl) ?_
   try simp -implicitDefEqProofs only [go_sem,his3356,hws3356,hjs3356,his3388,hws3388]
   refine zex (fun b3392=>?_) (fun b3392=>?_)
   ·replace h:=ze h b3392
    try simp -implicitDefEqProofs only [go_sem,his3356,hws3356,hjs3356,his3388,hws3388,b3392]
    exact hNs3388 true () h (weakL (by simp -implicitDefEqProofs only [go_sem,his3356,hws3356,hjs3356,his3388,hws3388,b3392] <;> ((repeat' apply And.intro) <;> rfl)))
   ·replace h:=zd h b3392
    obtain ⟨e3393,c3393,g3393,q3393,h⟩:=idx_s encI h
    obtain ⟨e3394,c3394a,c3394b,g3394,q3394,h⟩:=atZ_s encI h
    have c3394n:=zbj c3394a c3394b
    try simp -implicitDefEqProofs only [go_sem,his3356,hws3356,hjs3356,his3388,hws3388,b3392,c3393,g3393,c3394a,c3394b,c3394n,g3394]
    exact hNs3388 (decide (e3394=((i3356:Nat):Int))) () h (weakL (by simp -implicitDefEqProofs only [go_sem,his3356,hws3356,hjs3356,his3388,hws3388,b3392,c3393,g3393,c3394a,c3394b,c3394n,g3394] <;> ((repeat' apply And.intro) <;> rfl)))
  ·intro i3388 s3388 g3388 Rs3388 hes3388 h
   have hns3388:¬ (i3388 < a2.length):=by omega
   try dsimp only at h
   obtain ⟨fus3400,h⟩:=chk_s h
   unfold fuel at fus3400
   try simp -implicitDefEqProofs only [go_sem,his3356,hws3356,hjs3356,hns3388]
   refine z7 (fun x:(Nat×(Bool))×(Unit)=>envL [(2,.p (.lst (a2.map encI))),(3,.p (.lst (a3.map encI))),(4,.ptr 4 0),(5,.ptr 5 0),(9,.row 5354 g3356),(10,.p (.val (.int .i64 ((i3356:Nat):Int)))),(11,.p (.val (.bool x.1.2))),(13,.p (.val (.int .i64 ((x.1.1:Nat):Int))))]) (fun x=>heapL [(4,.box [.p (.lst (a0.nodes.map encNode)),.p (.lst (a0.edges.map encEdgeT))]),(5,.box [.p (.lst (a1.nodes.map encI)),.p (.lst (a1.edges.map encEdge))]),(5354,.row g3356 3 1 (s3356.map encI))]) () h (weakL (by simp -implicitDefEqProofs only [go_sem,his3356,hws3356,hjs3356,hns3388] <;> ((repeat' apply And.intro) <;> rfl))) ?_ ?_
   ·intro i3400 s3400 g3400 nxts3400 Rs3400 his3400 hNs3400 h
    have hws3400:=zk (k:=i3400) his3400 (by omega)
    try dsimp only at h
    try simp -implicitDefEqProofs only [go_sem,his3356,hws3356,hjs3356,hns3388,his3400,hws3400]
    refine zbd [.q,.q,.q,.q,.q,.q,.q,.q,.q,.q,.q,.q,.q,.q,.q,.q,.q,.q,.q] (by kernel_rfl) ?_
    try simp -implicitDefEqProofs only [go_sem,his3356,hws3356,hjs3356,hns3388,his3400,hws3400]
    refine zex (fun b3404=>?_) (fun b3404=>?_)
    ·replace h:=ze h b3404
     try simp -implicitDefEqProofs only [go_sem,his3356,hws3356,hjs3356,hns3388,his3400,hws3400,b3404]
     exact hNs3400 true () h (weakL (by simp -implicitDefEqProofs only [go_sem,his3356,hws3356,hjs3356,hns3388,his3400,hws3400,b3404] <;> ((repeat' apply And.intro) <;> rfl)))
    ·replace h:=zd h b3404
     obtain ⟨e3405,c3405,g3405,q3405,h⟩:=idx_s encI h
     obtain ⟨e3406,c3406a,c3406b,g3406,q3406,h⟩:=atZ_s encEdge h
     have c3406n:=zbj c3406a c3406b
     try simp -implicitDefEqProofs only [go_sem,his3356,hws3356,hjs3356,hns3388,his3400,hws3400,b3404,c3405,g3405,c3406a,c3406b,c3406n,g3406]
     exact hNs3400 (decide ((IntKind.i64.wrap (((a0.nodes.length:Nat):Int)+e3406.type))=((i3356:Nat):Int))) () h (weakL (by simp -implicitDefEqProofs only [go_sem,his3356,hws3356,hjs3356,hns3388,his3400,hws3400,b3404,c3405,g3405,c3406a,c3406b,c3406n,g3406] <;> ((repeat' apply And.intro) <;> rfl)))
   ·intro i3400 s3400 g3400 Rs3400 hes3400 h
    have hns3400:¬ (i3400 < a3.length):=by omega
    try dsimp only at h
    try simp -implicitDefEqProofs only [go_sem,his3356,hws3356,hjs3356,hns3388,hns3400]
    refine zb (fun b3407=>?_) (fun b3407=>?_)
    ·replace h:=ze h b3407
     obtain ⟨c3408,h⟩:=chk_s h
     have k3409:=eq_true (show (s3356.length+1) * 8≤140737488355328 by omega)
     have a3410:=ze2 encI s3356 [((i3356:Nat):Int)] (c:=[[.val (.int .i64 ((i3356:Nat):Int))]]) rfl
     try simp -implicitDefEqProofs only [go_sem,his3356,hws3356,hjs3356,hns3388,hns3400,b3407,c3408,k3409,a3410]
     exact hNs3356 (s3356++[((i3356:Nat):Int)]) (g3356+1) h (weakL (by simp -implicitDefEqProofs only [go_sem,his3356,hws3356,hjs3356,hns3388,hns3400,b3407,c3408,k3409,a3410] <;> ((repeat' apply And.intro) <;> rfl)))
    ·replace h:=zd h b3407
     try simp -implicitDefEqProofs only [go_sem,his3356,hws3356,hjs3356,hns3388,hns3400,b3407]
     exact hNs3356 s3356 g3356 h (weakL (by simp -implicitDefEqProofs only [go_sem,his3356,hws3356,hjs3356,hns3388,hns3400,b3407] <;> ((repeat' apply And.intro) <;> rfl)))
 ·intro i3356 s3356 g3356 Rs3356 hes3356 h
  have hns3356:¬ (((i3356:Nat):Int) < (IntKind.i64.wrap (((a0.nodes.length:Nat):Int)+((a0.edges.length:Nat):Int)))):=by omega
  try dsimp only at h
  cases h
  try simp -implicitDefEqProofs only [go_sem,hns3356]
  refine ⟨by decide,_,.refl _,?_⟩
  simp -implicitDefEqProofs only [go_sem,hns3356] <;> ((repeat' apply And.intro) <;> rfl)

set_option maxHeartbeats 4000000 in
theorem zqw (a0:Int) (a1:List Int) (a2:zbr) (a3:Int) (r:Bool) (h:zfe a0 a1 a2 a3=some r):CallV Tryz.prog 46 [.val (.int .i64 a0),.eptr [.lst (a1.map encI)] 0,.eptr (zc7 a2) 0,.eptr [.val (.int .i64 a3)] 0] (fun v=>v = .val (.bool r)):=by
 refine CallV.ple ?_
 refine zc [] Ty.mixed Tryz.func46 rfl (by kernel_rfl) (by simp [Tryz.ntmps46]) ?_; rw [Tryz.ntmps46,Tryz.results46]
 unfold zfe at h
 try simp -implicitDefEqProofs only [go_sem]
 refine zbd [.q,.q,.q,.q,.q,.q,.q,.q,.q,.q,.q] (by kernel_rfl) ?_
 obtain ⟨e3698,c3698a,c3698b,g3698,q3698,h⟩:=atZ_s encI h
 have c3698n:=zbj c3698a c3698b
 obtain ⟨e3699,c3699a,c3699b,g3699,q3699,h⟩:=atZ_s encI h
 have c3699n:=zbj c3699a c3699b
 cases h
 try simp -implicitDefEqProofs only [go_sem,c3698a,c3698b,c3698n,g3698,c3699a,c3699b,c3699n,g3699]
 all_goals ((repeat' apply And.intro) <;> rfl)

end
end Go.Proofs.YtimojjnmmlhijaaGreat
set_option maxRecDepth 20000
namespace Go.Proofs.YtimojjnmmlhijaaGreat
open Go.Abs


noncomputable section
set_option maxHeartbeats 4000000 in
theorem zlp  (r:Types) (h:zd2  = some r):CallF Tryz.prog 24 [] (fun v=>v = .agg [.row 113 4 (r.nodes.map encNode),.row 115 7 (r.edges.map encEdgeT)]):=by
 refine CallF.rle ?_
 refine zbl [10,13] Ty.mixed Tryz.func24 rfl (by kernel_rfl) (by simp [Tryz.ntmps24]) ?_; rw [Tryz.ntmps24,Tryz.results24]
 unfold zd2 at h
 cases h
 try simp -implicitDefEqProofs only [go_sem]
 refine ⟨by decide,_,.refl _,?_⟩
 simp -implicitDefEqProofs only [go_sem] <;> ((repeat' apply And.intro) <;> rfl)

set_option maxHeartbeats 4000000 in
theorem zhg (a0:Int) (a1:zic) (r:Bool) (h:zdz a0 a1=some r):CallV Tryz.prog 266 [.val (.int .i64 a0),.agg [.val (.int .i64 a1.var),.val (.int .i64 a1.add)]] (fun v=>v = .val (.bool r)):=by
 refine CallV.ple ?_
 refine zc [] Ty.mixed Tryz.func266 rfl (by kernel_rfl) (by simp [Tryz.ntmps266]) ?_; rw [Tryz.ntmps266,Tryz.results266]
 unfold zdz at h
 try simp -implicitDefEqProofs only [go_sem]
 refine zj (fun b141=>?_) (fun b141=>?_)
 ·replace h:=ze h b141
  try simp -implicitDefEqProofs only [go_sem,b141]
  refine zj (fun b142=>?_) (fun b142=>?_)
  ·replace h:=ze h b142
   try simp -implicitDefEqProofs only [go_sem,b141,b142]
   refine zj (fun b143=>?_) (fun b143=>?_)
   ·replace h:=ze h b143
    cases h
    try simp -implicitDefEqProofs only [go_sem,b141,b142,b143]
    all_goals ((repeat' apply And.intro) <;> rfl)
   ·replace h:=zd h b143
    cases h
    try simp -implicitDefEqProofs only [go_sem,b141,b142,b143]
    all_goals ((repeat' apply And.intro) <;> rfl)
  ·replace h:=zd h b142
   cases h
   try simp -implicitDefEqProofs only [go_sem,b141,b142]
   all_goals ((repeat' apply And.intro) <;> rfl)
 ·replace h:=zd h b141
  cases h
  try simp -implicitDefEqProofs only [go_sem,b141]
  all_goals ((repeat' apply And.intro) <;> rfl)

set_option maxHeartbeats 4000000 in
theorem ztx (a0:Int) (a1:Types) (r:Bool) (h:zhl a0 a1=some r):CallV Tryz.prog 236 [.val (.int .i64 a0),.eptr [.lst (a1.nodes.map encNode),.lst (a1.edges.map encEdgeT)] 0] (fun v=>v = .val (.bool r)):=by
 refine CallV.ple ?_
 refine zc [] Ty.mixed Tryz.func236 rfl (by kernel_rfl) (by simp [Tryz.ntmps236]) ?_; rw [Tryz.ntmps236,Tryz.results236]
 unfold zhl at h
 cases h
 try simp -implicitDefEqProofs only [go_sem]
 all_goals ((repeat' apply And.intro) <;> rfl)

set_option maxHeartbeats 4000000 in
theorem zmv (a0:List Int) (a1:Int) (r:Int) (h:zgg a0 a1=some r):CallV Tryz.prog 279 [.lst (a0.map encI),.val (.int .i64 a1)] (fun v=>v = .val (.int .i64 r)):=by
 refine CallV.ple ?_
 refine zc [] Ty.mixed Tryz.func279 rfl (by kernel_rfl) (by simp [Tryz.ntmps279]) ?_; rw [Tryz.ntmps279,Tryz.results279]
 unfold zgg at h
 obtain ⟨fus240,h⟩:=chk_s h
 unfold fuel at fus240
 try simp -implicitDefEqProofs only [go_sem]
 refine z7 (fun x:(Nat×(Unit))×(Unit)=>envL [(0,.p (.lst (a0.map encI))),(1,.p (.val (.int .i64 a1))),(7,.p (.lst (a0.map encI))),(8,.p (.val (.int .i64 ((a0.length:Nat):Int)))),(9,.p (.val (.int .i64 ((x.1.1:Nat):Int))))]) (fun x=>heapL []) () h (weakL (by simp -implicitDefEqProofs only [go_sem] <;> ((repeat' apply And.intro) <;> rfl))) ?_ ?_
 ·intro i240 s240 g240 nxts240 Rs240 his240 hNs240 h
  have hws240:=zk (k:=i240) his240 (by omega)
  try dsimp only at h
  obtain ⟨e247,c247,g247,q247,h⟩:=idx_s encI h
  try simp -implicitDefEqProofs only [go_sem,his240,hws240,c247,g247]
  refine zn (fun b248=>?_) (fun b248=>?_)
  ·replace h:=ze h b248
   cases h
   try simp -implicitDefEqProofs only [go_sem,his240,hws240,c247,g247,b248]
   all_goals ((repeat' apply And.intro) <;> rfl)
  ·replace h:=zd h b248
   try simp -implicitDefEqProofs only [go_sem,his240,hws240,c247,g247,b248]
   refine zb (fun b249=>?_) (fun b249=>?_)
   ·replace h:=ze h b249
    cases h
    try simp -implicitDefEqProofs only [go_sem,his240,hws240,c247,g247,b248,b249]
    all_goals ((repeat' apply And.intro) <;> rfl)
   ·replace h:=zd h b249
    try simp -implicitDefEqProofs only [go_sem,his240,hws240,c247,g247,b248,b249]
    refine zj (fun b250=>?_) (fun b250=>?_)
    ·replace h:=ze h b250
     obtain ⟨e251,c251a,c251b,g251,q251,h⟩:=atZ_s encI h
     have c251n:=zbj c251a c251b
     try simp -implicitDefEqProofs only [go_sem,his240,hws240,c247,g247,b248,b249,b250,c251a,c251b,c251n,g251]
     refine zb (fun b252=>?_) (fun b252=>?_)
     ·replace h:=ze h b252
      cases h
      try simp -implicitDefEqProofs only [go_sem,his240,hws240,c247,g247,b248,b249,b250,c251a,c251b,c251n,g251,b252]
      all_goals ((repeat' apply And.intro) <;> rfl)
     ·replace h:=zd h b252
      try simp -implicitDefEqProofs only [go_sem,his240,hws240,c247,g247,b248,b249,b250,c251a,c251b,c251n,g251,b252]
      exact hNs240 () () h (weakL (by simp -implicitDefEqProofs only [go_sem,his240,hws240,c247,g247,b248,b249,b250,c251a,c251b,c251n,g251,b252] <;> ((repeat' apply And.intro) <;> rfl)))
    ·replace h:=zd h b250
     try simp -implicitDefEqProofs only [go_sem,his240,hws240,c247,g247,b248,b249,b250]
     exact hNs240 () () h (weakL (by simp -implicitDefEqProofs only [go_sem,his240,hws240,c247,g247,b248,b249,b250] <;> ((repeat' apply And.intro) <;> rfl)))
 ·intro i240 s240 g240 Rs240 hes240 h
  have hns240:¬ (i240 < a0.length):=by omega
  try dsimp only at h
  cases h
  try simp -implicitDefEqProofs only [go_sem,hns240]
  all_goals ((repeat' apply And.intro) <;> rfl)

set_option maxHeartbeats 4000000 in
theorem zmq (a0:Int) (r:Bool) (h:zgh a0=some r):CallV Tryz.prog 254 [.val (.int .i64 a0)] (fun v=>v = .val (.bool r)):=by
 refine CallV.ple ?_
 refine zc [] Ty.mixed Tryz.func254 rfl (by kernel_rfl) (by simp [Tryz.ntmps254]) ?_; rw [Tryz.ntmps254,Tryz.results254]
 unfold zgh at h
 cases h
 try simp -implicitDefEqProofs only [go_sem]
 all_goals ((repeat' apply And.intro) <;> rfl)

set_option maxHeartbeats 4000000 in
theorem zqa (a0:List Int) (a1:Int) (r:Int) (h:zg8 a0 a1=some r):CallV Tryz.prog 248 [.lst (a0.map encI),.val (.int .i64 a1)] (fun v=>v = .val (.int .i64 r)):=by
 refine CallV.ple ?_
 refine zc [] Ty.mixed Tryz.func248 rfl (by kernel_rfl) (by simp [Tryz.ntmps248]) ?_; rw [Tryz.ntmps248,Tryz.results248]
 unfold zg8 at h
 obtain ⟨fus627,h⟩:=chk_s h
 unfold fuel at fus627
 try simp -implicitDefEqProofs only [go_sem]
 refine z7 (fun x:(Nat×(Unit))×(Unit)=>envL [(0,.p (.lst (a0.map encI))),(1,.p (.val (.int .i64 a1))),(7,.p (.val (.int .i64 ((a0.length:Nat):Int)))),(8,.p (.val (.int .i64 ((x.1.1:Nat):Int))))]) (fun x=>heapL []) () h (weakL (by simp -implicitDefEqProofs only [go_sem] <;> ((repeat' apply And.intro) <;> rfl))) ?_ ?_
 ·intro i627 s627 g627 nxts627 Rs627 his627 hNs627 h
  have hws627:=zk (k:=i627) his627 (by omega)
  try dsimp only at h
  obtain ⟨e630,c630,g630,q630,h⟩:=idx_s encI h
  try simp -implicitDefEqProofs only [go_sem,his627,hws627,c630,g630]
  refine zb (fun b631=>?_) (fun b631=>?_)
  ·replace h:=ze h b631
   cases h
   try simp -implicitDefEqProofs only [go_sem,his627,hws627,c630,g630,b631]
   all_goals ((repeat' apply And.intro) <;> rfl)
  ·replace h:=zd h b631
   try simp -implicitDefEqProofs only [go_sem,his627,hws627,c630,g630,b631]
   exact hNs627 () () h (weakL (by simp -implicitDefEqProofs only [go_sem,his627,hws627,c630,g630,b631] <;> ((repeat' apply And.intro) <;> rfl)))
 ·intro i627 s627 g627 Rs627 hes627 h
  have hns627:¬ (i627 < a0.length):=by omega
  try dsimp only at h
  cases h
  try simp -implicitDefEqProofs only [go_sem,hns627]
  all_goals ((repeat' apply And.intro) <;> rfl)

set_option maxHeartbeats 4000000 in
theorem zpj (n:Nat):∀ (a0:zi) (r:Int×Int) (h:zcw n a0=some r),CallV Tryz.prog 246 [.agg (zt a0)] (fun v=>v = .tup [.val (.int .i64 r.1),.val (.int .i64 r.2)]):=by
 induction n with
 | zero=>intro a0 r h; cases h
 | succ n ih =>
 intro a0 r h
 refine CallV.ple ?_
 refine zc [] Ty.mixed Tryz.func246 rfl (by kernel_rfl) (by simp [Tryz.ntmps246]) ?_; rw [Tryz.ntmps246,Tryz.results246]
 unfold zcw at h
 obtain ⟨fus737,h⟩:=chk_s h
 unfold fuel at fus737
 try simp -implicitDefEqProofs only [go_sem]
 refine z7 (fun x:(Nat×(Int×Int))×(Unit)=>envL [(1,.ptr 1 0),(4,.p (.val (.int .i64 x.1.2.1))),(5,.p (.val (.int .i64 x.1.2.2))),(11,.p (.lst (a0.kids.map zt))),(12,.p (.val (.int .i64 ((a0.kids.length:Nat):Int)))),(13,.p (.val (.int .i64 ((x.1.1:Nat):Int))))]) (fun x=>heapL [(1,.box ((zt a0).map .p))]) () h (weakL (by simp -implicitDefEqProofs only [go_sem] <;> ((repeat' apply And.intro) <;> rfl))) ?_ ?_
 ·intro i737 s737 g737 nxts737 Rs737 his737 hNs737 h
  have hws737:=zk (k:=i737) his737 (by omega)
  try dsimp only at h
  obtain ⟨e740,c740,g740,q740,h⟩:=idx_s zt h
  obtain ⟨r741,hr741,h⟩:=thn_s h
  try simp -implicitDefEqProofs only [go_sem,his737,hws737,c740,g740]
  refine callG (ih e740 r741 hr741) (by simp -implicitDefEqProofs only [go_sem,his737,hws737,c740,g740] <;> rfl) (za _) (by first | exact pers | exact scal rfl) ?_
  try simp -implicitDefEqProofs only [go_sem,his737,hws737,c740,g740]
  exact hNs737 ((IntKind.i64.wrap (s737.1+r741.1)),(max s737.2 r741.2)) () h (weakL (by simp -implicitDefEqProofs only [go_sem,his737,hws737,c740,g740] <;> ((repeat' apply And.intro) <;> rfl)))
 ·intro i737 s737 g737 Rs737 hes737 h
  have hns737:¬ (i737 < a0.kids.length):=by omega
  try dsimp only at h
  try simp -implicitDefEqProofs only [go_sem,hns737]
  refine zb (fun b742=>?_) (fun b742=>?_)
  ·replace h:=ze h b742
   cases h
   try simp -implicitDefEqProofs only [go_sem,hns737,b742]
   all_goals ((repeat' apply And.intro) <;> rfl)
  ·replace h:=zd h b742
   cases h
   try simp -implicitDefEqProofs only [go_sem,hns737,b742]
   all_goals ((repeat' apply And.intro) <;> rfl)

set_option maxHeartbeats 4000000 in
theorem zqe (a0:List zl) (r:(List zbm)) (h:zg6 a0=some r):CallF Tryz.prog 33 [.lst (a0.map zy)] (fun v=>v = .row 52 4 (r.map zq)):=by
 refine CallF.rle ?_
 refine zbl [37] Ty.mixed Tryz.func33 rfl (by kernel_rfl) (by simp [Tryz.ntmps33]) ?_; rw [Tryz.ntmps33,Tryz.results33]
 unfold zg6 at h
 obtain ⟨fus1486,h⟩:=chk_s h
 unfold fuel at fus1486
 try simp -implicitDefEqProofs only [go_sem]
 refine z7 (fun x:(Nat×((List zbm)))×(Nat)=>envL [(3,.row 3484 x.2),(10,.p (.lst (a0.map zy))),(11,.p (.val (.int .i64 ((a0.length:Nat):Int)))),(12,.p (.val (.int .i64 ((x.1.1:Nat):Int))))]) (fun x=>heapL [(3484,.row x.2 52 4 (x.1.2.map zq))]) 0 h (by refine Weak.trans (zha 3 3484 52 4 rfl rfl (by decide)) ?_; exact (weakL (by simp -implicitDefEqProofs only [go_sem] <;> ((repeat' apply And.intro) <;> rfl)))) ?_ ?_
 ·intro i1486 s1486 g1486 nxts1486 Rs1486 his1486 hNs1486 h
  have hws1486:=zk (k:=i1486) his1486 (by omega)
  try dsimp only at h
  obtain ⟨e1539,c1539,g1539,q1539,h⟩:=idx_s zy h
  obtain ⟨fus1558,h⟩:=chk_s h
  unfold fuel at fus1558
  try simp -implicitDefEqProofs only [go_sem,his1486,hws1486,c1539,g1539]
  refine z7 (fun x:(Nat×((List zbm)))×(Nat)=>envL [(3,.row 3484 x.2),(4,.p (.val (.int .i64 ((i1486:Nat):Int)))),(5,.ptr 5 0),(10,.p (.lst (a0.map zy))),(11,.p (.val (.int .i64 ((a0.length:Nat):Int)))),(12,.p (.val (.int .i64 ((i1486:Nat):Int)))),(18,.p (.lst (e1539.deletes.map encI))),(19,.p (.val (.int .i64 ((e1539.deletes.length:Nat):Int)))),(20,.p (.val (.int .i64 ((x.1.1:Nat):Int))))]) (fun x=>heapL [(3484,.row x.2 52 4 (x.1.2.map zq)),(5,.box [.p (.lst (e1539.deletes.map encI)),.p (.lst (e1539.creates.map encI))])]) g1486 h (weakL (by simp -implicitDefEqProofs only [go_sem,his1486,hws1486,c1539,g1539] <;> ((repeat' apply And.intro) <;> rfl))) ?_ ?_
  ·intro i1558 s1558 g1558 nxts1558 Rs1558 his1558 hNs1558 h
   have hws1558:=zk (k:=i1558) his1558 (by omega)
   try dsimp only at h
   obtain ⟨e1575,c1575,g1575,q1575,h⟩:=idx_s encI h
   obtain ⟨fus1582,h⟩:=chk_s h
   unfold fuel at fus1582
   try simp -implicitDefEqProofs only [go_sem,his1486,hws1486,c1539,g1539,his1558,hws1558,c1575,g1575]
   refine z7 (fun x:(Nat×((List zbm)))×(Nat)=>envL [(3,.row 3484 x.2),(4,.p (.val (.int .i64 ((i1486:Nat):Int)))),(5,.ptr 5 0),(7,.p (.val (.int .i64 e1575))),(10,.p (.lst (a0.map zy))),(11,.p (.val (.int .i64 ((a0.length:Nat):Int)))),(12,.p (.val (.int .i64 ((i1486:Nat):Int)))),(18,.p (.lst (e1539.deletes.map encI))),(19,.p (.val (.int .i64 ((e1539.deletes.length:Nat):Int)))),(20,.p (.val (.int .i64 ((i1558:Nat):Int)))),(25,.p (.lst (e1539.creates.map encI))),(26,.p (.val (.int .i64 ((e1539.creates.length:Nat):Int)))),(27,.p (.val (.int .i64 ((x.1.1:Nat):Int))))]) (fun x=>heapL [(3484,.row x.2 52 4 (x.1.2.map zq)),(5,.box [.p (.lst (e1539.deletes.map encI)),.p (.lst (e1539.creates.map encI))])]) g1558 h (weakL (by simp -implicitDefEqProofs only [go_sem,his1486,hws1486,c1539,g1539,his1558,hws1558,c1575,g1575] <;> ((repeat' apply And.intro) <;> rfl))) ?_ ?_
   ·intro i1582 s1582 g1582 nxts1582 Rs1582 his1582 hNs1582 h
    have hws1582:=zk (k:=i1582) his1582 (by omega)
    try dsimp only at h
    obtain ⟨e1587,c1587,g1587,q1587,h⟩:=idx_s encI h
    obtain ⟨c1588,h⟩:=chk_s h
    have k1589:=eq_true (show (s1582.length+1) * 32≤140737488355328 by omega)
    have a1590:=ze2 zq s1582 [(⟨((i1486:Nat):Int),e1575,e1587,1⟩:zbm)] (c:=[[.val (.int .i64 ((i1486:Nat):Int)),.val (.int .i64 e1575),.val (.int .i64 e1587),.val (.int .i64 1)]]) rfl
    try simp -implicitDefEqProofs only [go_sem,his1486,hws1486,c1539,g1539,his1558,hws1558,c1575,g1575,his1582,hws1582,c1587,g1587,c1588,k1589,a1590]
    exact hNs1582 (s1582++[(⟨((i1486:Nat):Int),e1575,e1587,1⟩:zbm)]) (g1582+1) h (weakL (by simp -implicitDefEqProofs only [go_sem,his1486,hws1486,c1539,g1539,his1558,hws1558,c1575,g1575,his1582,hws1582,c1587,g1587,c1588,k1589,a1590] <;> ((repeat' apply And.intro) <;> rfl)))
   ·intro i1582 s1582 g1582 Rs1582 hes1582 h
    have hns1582:¬ (i1582 < e1539.creates.length):=by omega
    try dsimp only at h
    try simp -implicitDefEqProofs only [go_sem,his1486,hws1486,c1539,g1539,his1558,hws1558,c1575,g1575,hns1582]
    exact hNs1558 s1582 g1582 h (weakL (by simp -implicitDefEqProofs only [go_sem,his1486,hws1486,c1539,g1539,his1558,hws1558,c1575,g1575,hns1582] <;> ((repeat' apply And.intro) <;> rfl)))
  ·intro i1558 s1558 g1558 Rs1558 hes1558 h
   have hns1558:¬ (i1558 < e1539.deletes.length):=by omega
   try dsimp only at h
   try simp -implicitDefEqProofs only [go_sem,his1486,hws1486,c1539,g1539,hns1558]
   exact hNs1486 s1558 g1558 h (weakL (by simp -implicitDefEqProofs only [go_sem,his1486,hws1486,c1539,g1539,hns1558] <;> ((repeat' apply And.intro) <;> rfl)))
 ·intro i1486 s1486 g1486 Rs1486 hes1486 h
  have hns1486:¬ (i1486 < a0.length):=by omega
  try dsimp only at h
  cases h
  try simp -implicitDefEqProofs only [go_sem,hns1486]
  refine ⟨by decide,_,.refl _,?_⟩
  simp -implicitDefEqProofs only [go_sem,hns1486] <;> ((repeat' apply And.intro) <;> rfl)

set_option maxHeartbeats 4000000 in
theorem zk3 (a0:List Int) (a1:List Int) (r:Bool) (h:zf9 a0 a1=some r):CallV Tryz.prog 26 [.lst (a0.map encI),.lst (a1.map encI)] (fun v=>v = .val (.bool r)):=by
 refine CallV.ple ?_
 refine zc [] Ty.mixed Tryz.func26 rfl (by kernel_rfl) (by simp [Tryz.ntmps26]) ?_; rw [Tryz.ntmps26,Tryz.results26]
 unfold zf9 at h
 try simp -implicitDefEqProofs only [go_sem]
 refine zf (fun b1925=>?_) (fun b1925=>?_)
 ·replace h:=ze h b1925
  obtain ⟨fus1931,h⟩:=chk_s h
  unfold fuel at fus1931
  try simp -implicitDefEqProofs only [go_sem,b1925]
  refine z7 (fun x:(Nat×(Unit))×(Unit)=>envL [(0,.p (.lst (a0.map encI))),(1,.p (.lst (a1.map encI))),(12,.p (.val (.int .i64 ((a0.length:Nat):Int)))),(13,.p (.val (.int .i64 ((x.1.1:Nat):Int))))]) (fun x=>heapL []) () h (weakL (by simp -implicitDefEqProofs only [go_sem,b1925] <;> ((repeat' apply And.intro) <;> rfl))) ?_ ?_
  ·intro i1931 s1931 g1931 nxts1931 Rs1931 his1931 hNs1931 h
   have hws1931:=zk (k:=i1931) his1931 (by omega)
   try dsimp only at h
   try simp -implicitDefEqProofs only [go_sem,b1925,his1931,hws1931]
   refine zbd [.q,.q,.q,.q,.q,.q,.q,.q,.q] (by kernel_rfl) ?_
   obtain ⟨e1935,c1935,g1935,q1935,h⟩:=idx_s encI h
   obtain ⟨e1936,c1936,g1936,q1936,h⟩:=idx_s encI h
   try simp -implicitDefEqProofs only [go_sem,b1925,his1931,hws1931,c1935,g1935,c1936,g1936]
   refine zf (fun b1937=>?_) (fun b1937=>?_)
   ·replace h:=ze h b1937
    try simp -implicitDefEqProofs only [go_sem,b1925,his1931,hws1931,c1935,g1935,c1936,g1936,b1937]
    exact hNs1931 () () h (weakL (by simp -implicitDefEqProofs only [go_sem,b1925,his1931,hws1931,c1935,g1935,c1936,g1936,b1937] <;> ((repeat' apply And.intro) <;> rfl)))
   ·replace h:=zd h b1937
    cases h
    try simp -implicitDefEqProofs only [go_sem,b1925,his1931,hws1931,c1935,g1935,c1936,g1936,b1937]
    all_goals ((repeat' apply And.intro) <;> rfl)
  ·intro i1931 s1931 g1931 Rs1931 hes1931 h
   have hns1931:¬ (i1931 < a0.length):=by omega
   try dsimp only at h
   cases h
   try simp -implicitDefEqProofs only [go_sem,b1925,hns1931]
   all_goals ((repeat' apply And.intro) <;> rfl)
 ·replace h:=zd h b1925
  cases h
  try simp -implicitDefEqProofs only [go_sem,b1925]
  all_goals ((repeat' apply And.intro) <;> rfl)

set_option maxHeartbeats 4000000 in
theorem znx (a0:Graph) (r:Bool) (h:zfb a0=some r):CallV Tryz.prog 80 [.agg [.lst (a0.nodes.map encI),.lst (a0.edges.map encEdge)]] (fun v=>v = .val (.bool r)):=by
 refine CallV.ple ?_
 refine zc [] Ty.mixed Tryz.func80 rfl (by kernel_rfl) (by simp [Tryz.ntmps80]) ?_; rw [Tryz.ntmps80,Tryz.results80]
 unfold zfb at h
 try simp -implicitDefEqProofs only [go_sem]
 refine zj (fun b2107=>?_) (fun b2107=>?_)
 ·replace h:=ze h b2107
  cases h
  try simp -implicitDefEqProofs only [go_sem,b2107]
  all_goals ((repeat' apply And.intro) <;> rfl)
 ·replace h:=zd h b2107
  cases h
  try simp -implicitDefEqProofs only [go_sem,b2107]
  all_goals ((repeat' apply And.intro) <;> rfl)

theorem zpm (l:List zm) (r:List zm) (h:zij l=some r):CallF Tryz.prog 11 [.lst (l.map z6)] (fun v=>v = .row 49 25 (r.map z6)):=by
 obtain ⟨hl,rfl⟩:=giv_s h
 by_cases h0:l=[]
 ·subst h0
  refine CallF.lst_nil (by kernel_rfl) fun ao cap=>?_
  refine zbl [5] Ty.mixed Tryz.func11 rfl (by kernel_rfl) (by simp [Tryz.ntmps11]) ?_; rw [Tryz.ntmps11,Tryz.results11]
  simp -implicitDefEqProofs only [go_sem]
  cases ao with
  | none =>
   simp -implicitDefEqProofs only [go_sem]
   exact ⟨by decide,_,.nil _ _ (by decide),rfl⟩
  | some a =>
   simp -implicitDefEqProofs only [go_sem]
   exact ⟨fun _ h=>h.elim,by decide,_,.refl _,rfl⟩
 ·have hne:l.map z6≠[]:=by simpa using h0
  refine zbl [5] Ty.mixed Tryz.func11 rfl (by kernel_rfl) (by simp [Tryz.ntmps11]) ?_; rw [Tryz.ntmps11,Tryz.results11]
  simp -implicitDefEqProofs only [go_sem,hne]
  exact ⟨⟨by omega,zif (n:=25) (f:=z6) (fun _=>rfl) l⟩,by decide,_,.refl _,rfl⟩

set_option maxHeartbeats 4000000 in
theorem zl3 (a0:Types) (a1:Graph) (a2:List Int) (a3:List Int) (r:Bool) (h:zd7 a0 a1 a2 a3=some r):CallV Tryz.prog 130 [.agg [.lst (a0.nodes.map encNode),.lst (a0.edges.map encEdgeT)],.agg [.lst (a1.nodes.map encI),.lst (a1.edges.map encEdge)],.lst (a2.map encI),.lst (a3.map encI)] (fun v=>v = .val (.bool r)):=by
 refine CallV.ple ?_
 refine zc [] Ty.mixed Tryz.func130 rfl (by kernel_rfl) (by simp [Tryz.ntmps130]) ?_; rw [Tryz.ntmps130,Tryz.results130]
 unfold zd7 at h
 obtain ⟨fus3001,h⟩:=chk_s h
 unfold fuel at fus3001
 try simp -implicitDefEqProofs only [go_sem]
 refine z7 (fun x:(Nat×(Unit))×(Unit)=>envL [(2,.p (.lst (a2.map encI))),(3,.p (.lst (a3.map encI))),(4,.ptr 4 0),(5,.ptr 5 0),(9,.p (.val (.int .i64 ((x.1.1:Nat):Int))))]) (fun x=>heapL [(4,.box [.p (.lst (a0.nodes.map encNode)),.p (.lst (a0.edges.map encEdgeT))]),(5,.box [.p (.lst (a1.nodes.map encI)),.p (.lst (a1.edges.map encEdge))])]) () h (weakL (by simp -implicitDefEqProofs only [go_sem] <;> ((repeat' apply And.intro) <;> rfl))) ?_ ?_
 ·intro i3001 s3001 g3001 nxts3001 Rs3001 his3001 hNs3001 h
  have hws3001:=zk (k:=i3001) his3001 (by omega)
  try dsimp only at h
  try simp -implicitDefEqProofs only [go_sem,his3001,hws3001]
  refine zbd [.q,.q,.q,.q,.q,.q,.q,.q,.q,.q,.q,.q,.q] (by kernel_rfl) ?_
  obtain ⟨e3006,c3006,g3006,q3006,h⟩:=idx_s encI h
  obtain ⟨e3007,c3007a,c3007b,g3007,q3007,h⟩:=atZ_s encI h
  have c3007n:=zbj c3007a c3007b
  obtain ⟨e3008,c3008a,c3008b,g3008,q3008,h⟩:=atZ_s encNode h
  have c3008n:=zbj c3008a c3008b
  try simp -implicitDefEqProofs only [go_sem,his3001,hws3001,c3006,g3006,c3007a,c3007b,c3007n,g3007,c3008a,c3008b,c3008n,g3008]
  refine zb (fun b3009=>?_) (fun b3009=>?_)
  ·replace h:=ze h b3009
   cases h
   try simp -implicitDefEqProofs only [go_sem,his3001,hws3001,c3006,g3006,c3007a,c3007b,c3007n,g3007,c3008a,c3008b,c3008n,g3008,b3009]
   all_goals ((repeat' apply And.intro) <;> rfl)
  ·replace h:=zd h b3009
   try simp -implicitDefEqProofs only [go_sem,his3001,hws3001,c3006,g3006,c3007a,c3007b,c3007n,g3007,c3008a,c3008b,c3008n,g3008,b3009]
   exact hNs3001 () () h (weakL (by simp -implicitDefEqProofs only [go_sem,his3001,hws3001,c3006,g3006,c3007a,c3007b,c3007n,g3007,c3008a,c3008b,c3008n,g3008,b3009] <;> ((repeat' apply And.intro) <;> rfl)))
 ·intro i3001 s3001 g3001 Rs3001 hes3001 h
  have hns3001:¬ (i3001 < a2.length):=by omega
  try dsimp only at h
  obtain ⟨fus3018,h⟩:=chk_s h
  unfold fuel at fus3018
  try simp -implicitDefEqProofs only [go_sem,hns3001]
  refine z7 (fun x:(Nat×(Unit))×(Unit)=>envL [(3,.p (.lst (a3.map encI))),(4,.ptr 4 0),(5,.ptr 5 0),(10,.p (.val (.int .i64 ((x.1.1:Nat):Int))))]) (fun x=>heapL [(4,.box [.p (.lst (a0.nodes.map encNode)),.p (.lst (a0.edges.map encEdgeT))]),(5,.box [.p (.lst (a1.nodes.map encI)),.p (.lst (a1.edges.map encEdge))])]) () h (weakL (by simp -implicitDefEqProofs only [go_sem,hns3001] <;> ((repeat' apply And.intro) <;> rfl))) ?_ ?_
  ·intro i3018 s3018 g3018 nxts3018 Rs3018 his3018 hNs3018 h
   have hws3018:=zk (k:=i3018) his3018 (by omega)
   try dsimp only at h
   try simp -implicitDefEqProofs only [go_sem,hns3001,his3018,hws3018]
   refine zbd [.q,.q,.q,.q,.q,.q,.q,.q,.w,.s] (by kernel_rfl) ?_
   obtain ⟨e3025,c3025,g3025,q3025,h⟩:=idx_s encI h
   obtain ⟨e3026,c3026a,c3026b,g3026,q3026,h⟩:=atZ_s encEdge h
   have c3026n:=zbj c3026a c3026b
   try simp -implicitDefEqProofs only [go_sem,hns3001,his3018,hws3018,c3025,g3025,c3026a,c3026b,c3026n,g3026]
   refine zbd [.q,.q,.q,.q,.q,.q,.q,.q,.q,.q,.q,.q,.q,.q,.q,.q,.q] (by kernel_rfl) ?_
   obtain ⟨e3027,c3027a,c3027b,g3027,q3027,h⟩:=atZ_s encI h
   have c3027n:=zbj c3027a c3027b
   obtain ⟨e3028,c3028a,c3028b,g3028,q3028,h⟩:=atZ_s encI h
   have c3028n:=zbj c3028a c3028b
   obtain ⟨r3029,hr3029,h⟩:=thn_s h
   try simp -implicitDefEqProofs only [go_sem,hns3001,his3018,hws3018,c3025,g3025,c3026a,c3026b,c3026n,g3026,c3027a,c3027b,c3027n,g3027,c3028a,c3028b,c3028n,g3028]
   refine calldG (zne a0 e3026.type e3027 e3028 r3029 hr3029) (by simp -implicitDefEqProofs only [go_sem,hns3001,his3018,hws3018,c3025,g3025,c3026a,c3026b,c3026n,g3026,c3027a,c3027b,c3027n,g3027,c3028a,c3028b,c3028n,g3028] <;> rfl) (za _) (by first | exact pers | exact scal rfl) ?_
   try simp -implicitDefEqProofs only [go_sem,hns3001,his3018,hws3018,c3025,g3025,c3026a,c3026b,c3026n,g3026,c3027a,c3027b,c3027n,g3027,c3028a,c3028b,c3028n,g3028]
   refine zf (fun b3030=>?_) (fun b3030=>?_)
   ·replace h:=ze h b3030
    try simp -implicitDefEqProofs only [go_sem,hns3001,his3018,hws3018,c3025,g3025,c3026a,c3026b,c3026n,g3026,c3027a,c3027b,c3027n,g3027,c3028a,c3028b,c3028n,g3028,b3030]
    exact hNs3018 () () h (weakL (by simp -implicitDefEqProofs only [go_sem,hns3001,his3018,hws3018,c3025,g3025,c3026a,c3026b,c3026n,g3026,c3027a,c3027b,c3027n,g3027,c3028a,c3028b,c3028n,g3028,b3030] <;> ((repeat' apply And.intro) <;> rfl)))
   ·replace h:=zd h b3030
    cases h
    try simp -implicitDefEqProofs only [go_sem,hns3001,his3018,hws3018,c3025,g3025,c3026a,c3026b,c3026n,g3026,c3027a,c3027b,c3027n,g3027,c3028a,c3028b,c3028n,g3028,b3030]
    all_goals ((repeat' apply And.intro) <;> rfl)
  ·intro i3018 s3018 g3018 Rs3018 hes3018 h
   have hns3018:¬ (i3018 < a3.length):=by omega
   try dsimp only at h
   cases h
   try simp -implicitDefEqProofs only [go_sem,hns3001,hns3018]
   all_goals ((repeat' apply And.intro) <;> rfl)

set_option maxHeartbeats 4000000 in
theorem zl9 (n:Nat):∀ (a0:Types) (a1:Int) (a2:Int) (r:Bool) (h:zcv n a0 a1 a2=some r),CallV Tryz.prog 95 [.agg [.lst (a0.nodes.map encNode),.lst (a0.edges.map encEdgeT)],.val (.int .i64 a1),.val (.int .i64 a2)] (fun v=>v = .val (.bool r)):=by
 induction n with
 | zero=>intro a0 a1 a2 r h; cases h
 | succ n ih =>
 intro a0 a1 a2 r h
 refine CallV.ple ?_
 refine zc [] Ty.mixed Tryz.func95 rfl (by kernel_rfl) (by simp [Tryz.ntmps95]) ?_; rw [Tryz.ntmps95,Tryz.results95]
 unfold zcv at h
 try simp -implicitDefEqProofs only [go_sem]
 refine zbd [.q,.q,.q,.q,.q,.q,.q,.q,.q,.q,.q,.q,.q,.q,.q,.q,.q,.q,.q] (by kernel_rfl) ?_
 try simp -implicitDefEqProofs only [go_sem]
 refine zex (fun b3189=>?_) (fun b3189=>?_)
 ·replace h:=ze h b3189
  cases h
  try simp -implicitDefEqProofs only [go_sem,b3189]
  all_goals ((repeat' apply And.intro) <;> rfl)
 ·replace h:=zd h b3189
  try simp -implicitDefEqProofs only [go_sem,b3189]
  refine zcu (fun b3190=>?_) (fun b3190=>?_)
  ·replace h:=ze h b3190
   obtain ⟨e3191,c3191a,c3191b,g3191,q3191,h⟩:=atZ_s encNode h
   have c3191n:=zbj c3191a c3191b
   obtain ⟨r3192,hr3192,h⟩:=thn_s h
   try simp -implicitDefEqProofs only [go_sem,b3189,b3190,c3191a,c3191b,c3191n,g3191]
   refine calldG (ih a0 e3191.parent a2 r3192 hr3192) (by simp -implicitDefEqProofs only [go_sem,b3189,b3190,c3191a,c3191b,c3191n,g3191] <;> rfl) (za _) (by first | exact pers | exact scal rfl) ?_
   cases h
   try simp -implicitDefEqProofs only [go_sem,b3189,b3190,c3191a,c3191b,c3191n,g3191]
   all_goals ((repeat' apply And.intro) <;> rfl)
  ·replace h:=zd h b3190
   cases h
   try simp -implicitDefEqProofs only [go_sem,b3189,b3190]
   all_goals ((repeat' apply And.intro) <;> rfl)
end
end Go.Proofs.YtimojjnmmlhijaaGreat
set_option maxRecDepth 20000
namespace Go.Proofs.YtimojjnmmlhijaaGreat
open Go.Abs


noncomputable section
set_option maxHeartbeats 4000000 in
theorem zra (a0:List zbm) (a1:Int) (r:(List zbm)) (h:zgk a0 a1=some r):CallV Tryz.prog 32 [.lst (a0.map zq),.val (.int .i64 a1)] (fun v=>v = .lst (r.map zq)):=by
 refine CallV.ple ?_
 refine zc [45] Ty.mixed Tryz.func32 rfl (by kernel_rfl) (by simp [Tryz.ntmps32]) ?_; rw [Tryz.ntmps32,Tryz.results32]
 unfold zgk at h
 obtain ⟨fus1772,h⟩:=chk_s h
 unfold fuel at fus1772
 try simp -implicitDefEqProofs only [go_sem]
 refine z7 (fun x:(Nat×((List zbm)))×(Unit)=>envL [(0,.p (.lst (a0.map zq))),(1,.p (.val (.int .i64 a1))),(5,.p (.lst (x.1.2.map zq))),(11,.p (.lst (a0.map zq))),(12,.p (.val (.int .i64 ((a0.length:Nat):Int)))),(13,.p (.val (.int .i64 ((x.1.1:Nat):Int))))]) (fun x=>heapL []) () h (weakL (by simp -implicitDefEqProofs only [go_sem] <;> ((repeat' apply And.intro) <;> rfl))) ?_ ?_
 ·intro i1772 s1772 g1772 nxts1772 Rs1772 his1772 hNs1772 h
  have hws1772:=zk (k:=i1772) his1772 (by omega)
  try dsimp only at h
  obtain ⟨e1845,c1845,g1845,q1845,h⟩:=idx_s zq h
  obtain ⟨r1846,hr1846,h⟩:=thn_s h
  try simp -implicitDefEqProofs only [go_sem,his1772,hws1772,c1845,g1845]
  refine callfG 1336 (zoq a0 e1845.src a1 r1846 hr1846) (by simp -implicitDefEqProofs only [go_sem,his1772,hws1772,c1845,g1845] <;> rfl) (za _) (by first | exact persF | exact flatF rfl | exact flatF (by simp [RV.flat,RV.flatL,PV.scalar,isVal,encI])) (by simp -implicitDefEqProofs only [go_sem,his1772,hws1772,c1845,g1845]) ?_
  obtain ⟨e1847,c1847a,c1847b,g1847,q1847,h⟩:=atZ_s encI h
  have c1847n:=zbj c1847a c1847b
  try simp -implicitDefEqProofs only [go_sem,his1772,hws1772,c1845,g1845,c1847a,c1847b,c1847n,g1847]
  refine zn (fun b1848=>?_) (fun b1848=>?_)
  ·replace h:=ze h b1848
   try simp -implicitDefEqProofs only [go_sem,his1772,hws1772,c1845,g1845,c1847a,c1847b,c1847n,g1847,b1848]
   exact hNs1772 s1772 () h (weakL (by simp -implicitDefEqProofs only [go_sem,his1772,hws1772,c1845,g1845,c1847a,c1847b,c1847n,g1847,b1848] <;> ((repeat' apply And.intro) <;> rfl)))
  ·replace h:=zd h b1848
   try simp -implicitDefEqProofs only [go_sem,his1772,hws1772,c1845,g1845,c1847a,c1847b,c1847n,g1847,b1848]
   refine zj (fun b1849=>?_) (fun b1849=>?_)
   ·replace h:=ze h b1849
    try simp -implicitDefEqProofs only [go_sem,his1772,hws1772,c1845,g1845,c1847a,c1847b,c1847n,g1847,b1848,b1849]
    refine zb (fun b1850=>?_) (fun b1850=>?_)
    ·replace h:=ze h b1850
     try simp -implicitDefEqProofs only [go_sem,his1772,hws1772,c1845,g1845,c1847a,c1847b,c1847n,g1847,b1848,b1849,b1850]
     exact hNs1772 s1772 () h (weakL (by simp -implicitDefEqProofs only [go_sem,his1772,hws1772,c1845,g1845,c1847a,c1847b,c1847n,g1847,b1848,b1849,b1850] <;> ((repeat' apply And.intro) <;> rfl)))
    ·replace h:=zd h b1850
     try simp -implicitDefEqProofs only [go_sem,his1772,hws1772,c1845,g1845,c1847a,c1847b,c1847n,g1847,b1848,b1849,b1850]
     refine zjt (fun x:(Int×(List zbm))×(Nat)=>envL [(0,.p (.lst (a0.map zq))),(1,.p (.val (.int .i64 a1))),(5,.row 45 x.2),(7,.ptr 7 0),(8,.ptr 8 0),(9,.ptr 9 0),(11,.p (.lst (a0.map zq))),(12,.p (.val (.int .i64 ((a0.length:Nat):Int)))),(13,.p (.val (.int .i64 ((i1772:Nat):Int))))]) (fun x=>heapL [(45,.row x.2 52 4 (x.1.2.map zq)),(7,.box ((zq e1845).map .p)),(8,.box [.row 1336 0]),(9,.box [.p (.val (.int .i64 x.1.1))]),(1336,.row 0 3 1 (r1846.map encI))]) 0 h (weakL (by simp -implicitDefEqProofs only [go_sem,his1772,hws1772,c1845,g1845,c1847a,c1847b,c1847n,g1847,b1848,b1849,b1850] <;> ((repeat' apply And.intro) <;> rfl))) ?_
     intro s1861 g1861 nxts1861 Rs1861 hNs1861 h
     try dsimp only at h
     try simp -implicitDefEqProofs only [go_sem,his1772,hws1772,c1845,g1845,c1847a,c1847b,c1847n,g1847,b1848,b1849,b1850]
     refine zf (fun b1873=>?_) (fun b1873=>?_)
     ·replace h:=ze h b1873
      try dsimp only at h
      try simp -implicitDefEqProofs only [go_sem,his1772,hws1772,c1845,g1845,c1847a,c1847b,c1847n,g1847,b1848,b1849,b1850,b1873]
      exact hNs1772 s1861.2 () h (by refine Weak.trans (zm2 45 g1861 52 4 (s1861.2.map zq) [5] (by simp -implicitDefEqProofs only [go_sem,his1772,hws1772,c1845,g1845,c1847a,c1847b,c1847n,g1847,b1848,b1849,b1850,b1873] <;> rfl) (by simp -implicitDefEqProofs only [go_sem,his1772,hws1772,c1845,g1845,c1847a,c1847b,c1847n,g1847,b1848,b1849,b1850,b1873] <;> ((repeat' apply And.intro) <;> rfl)) (by decide)) ?_; exact (weakL (by simp -implicitDefEqProofs only [go_sem,his1772,hws1772,c1845,g1845,c1847a,c1847b,c1847n,g1847,b1848,b1849,b1850,b1873] <;> ((repeat' apply And.intro) <;> rfl))))
     ·replace h:=zd h b1873
      obtain ⟨r1874,hr1874,h⟩:=thn_s h
      try simp -implicitDefEqProofs only [go_sem,his1772,hws1772,c1845,g1845,c1847a,c1847b,c1847n,g1847,b1848,b1849,b1850,b1873]
      refine callG (zim a0 (fun x1875=>zes x1875 s1861.1 r1846) 62 [] [.eptr [.val (.int .i64 s1861.1)] 0,.eptr [.lst (r1846.map encI)] 0] (fun x1875 r h=>zkh x1875 s1861.1 r1846 r h) r1874 hr1874) (by simp -implicitDefEqProofs only [go_sem,his1772,hws1772,c1845,g1845,c1847a,c1847b,c1847n,g1847,b1848,b1849,b1850,b1873] <;> rfl) (za _) (by first | exact pers | exact scal rfl) ?_
      try simp -implicitDefEqProofs only [go_sem,his1772,hws1772,c1845,g1845,c1847a,c1847b,c1847n,g1847,b1848,b1849,b1850,b1873]
      refine zfr [(0,.p),(1,.q),(2,.q),(3,.q),(4,.q),(5,.p),(7,.b),(8,.b),(9,.b),(10,.b),(11,.b),(6,.w),(12,.q),(13,.w)] (by kernel_rfl) ?_
      obtain ⟨e1880,c1880a,c1880b,g1880,q1880,h⟩:=atZ_s zq h
      have c1880n:=zbj c1880a c1880b
      obtain ⟨c1881,h⟩:=chk_s h
      have k1882:=eq_true (show (s1861.2.length+1) * 32≤140737488355328 by omega)
      have a1883:=ze2 zq s1861.2 [e1880] (c:=[[.val (.int .i64 e1880.rule),.val (.int .i64 e1880.src),.val (.int .i64 e1880.dst),.val (.int .i64 e1880.strict)]]) rfl
      try simp -implicitDefEqProofs only [go_sem,his1772,hws1772,c1845,g1845,c1847a,c1847b,c1847n,g1847,b1848,b1849,b1850,b1873,c1880a,c1880b,c1880n,g1880,c1881,k1882,a1883]
      refine zth (envL [(0,.p (.lst (a0.map zq))),(1,.p (.val (.int .i64 a1))),(5,.row 45 (g1861+1)),(7,.ptr 7 0),(8,.ptr 8 0),(11,.p (.lst (a0.map zq))),(12,.p (.val (.int .i64 ((a0.length:Nat):Int)))),(13,.p (.val (.int .i64 ((i1772:Nat):Int)))),(67,.p (.val (.int .i64 e1880.dst)))]) (heapL [(7,.box ((zq e1845).map .p)),(8,.box [.row 1336 0]),(45,.row (g1861+1) 52 4 ((s1861.2++[e1880]).map zq)),(1336,.row 0 3 1 (r1846.map encI))]) (weakL (by simp -implicitDefEqProofs only [go_sem,his1772,hws1772,c1845,g1845,c1847a,c1847b,c1847n,g1847,b1848,b1849,b1850,b1873,c1880a,c1880b,c1880n,g1880,c1881,k1882,a1883] <;> ((repeat' apply And.intro) <;> rfl))) (by simp -implicitDefEqProofs only [go_sem,his1772,hws1772,c1845,g1845,c1847a,c1847b,c1847n,g1847,b1848,b1849,b1850,b1873,c1880a,c1880b,c1880n,g1880,c1881,k1882,a1883] <;> rfl) (by trivial) ?_
      try simp -implicitDefEqProofs only [go_sem,his1772,hws1772,c1845,g1845,c1847a,c1847b,c1847n,g1847,b1848,b1849,b1850,b1873,c1880a,c1880b,c1880n,g1880,c1881,k1882,a1883]
      exact hNs1861 (e1880.dst,(s1861.2++[e1880])) (g1861+1) h (weakL (by simp -implicitDefEqProofs only [go_sem,his1772,hws1772,c1845,g1845,c1847a,c1847b,c1847n,g1847,b1848,b1849,b1850,b1873,c1880a,c1880b,c1880n,g1880,c1881,k1882,a1883] <;> ((repeat' apply And.intro) <;> rfl)))
   ·replace h:=zd h b1849
    try simp -implicitDefEqProofs only [go_sem,his1772,hws1772,c1845,g1845,c1847a,c1847b,c1847n,g1847,b1848,b1849]
    refine zjt (fun x:(Int×(List zbm))×(Nat)=>envL [(0,.p (.lst (a0.map zq))),(1,.p (.val (.int .i64 a1))),(5,.row 45 x.2),(7,.ptr 7 0),(8,.ptr 8 0),(9,.ptr 9 0),(11,.p (.lst (a0.map zq))),(12,.p (.val (.int .i64 ((a0.length:Nat):Int)))),(13,.p (.val (.int .i64 ((i1772:Nat):Int))))]) (fun x=>heapL [(45,.row x.2 52 4 (x.1.2.map zq)),(7,.box ((zq e1845).map .p)),(8,.box [.row 1336 0]),(9,.box [.p (.val (.int .i64 x.1.1))]),(1336,.row 0 3 1 (r1846.map encI))]) 0 h (weakL (by simp -implicitDefEqProofs only [go_sem,his1772,hws1772,c1845,g1845,c1847a,c1847b,c1847n,g1847,b1848,b1849] <;> ((repeat' apply And.intro) <;> rfl))) ?_
    intro s1894 g1894 nxts1894 Rs1894 hNs1894 h
    try dsimp only at h
    try simp -implicitDefEqProofs only [go_sem,his1772,hws1772,c1845,g1845,c1847a,c1847b,c1847n,g1847,b1848,b1849]
    refine zf (fun b1906=>?_) (fun b1906=>?_)
    ·replace h:=ze h b1906
     try dsimp only at h
     try simp -implicitDefEqProofs only [go_sem,his1772,hws1772,c1845,g1845,c1847a,c1847b,c1847n,g1847,b1848,b1849,b1906]
     exact hNs1772 s1894.2 () h (by refine Weak.trans (zm2 45 g1894 52 4 (s1894.2.map zq) [5] (by simp -implicitDefEqProofs only [go_sem,his1772,hws1772,c1845,g1845,c1847a,c1847b,c1847n,g1847,b1848,b1849,b1906] <;> rfl) (by simp -implicitDefEqProofs only [go_sem,his1772,hws1772,c1845,g1845,c1847a,c1847b,c1847n,g1847,b1848,b1849,b1906] <;> ((repeat' apply And.intro) <;> rfl)) (by decide)) ?_; exact (weakL (by simp -implicitDefEqProofs only [go_sem,his1772,hws1772,c1845,g1845,c1847a,c1847b,c1847n,g1847,b1848,b1849,b1906] <;> ((repeat' apply And.intro) <;> rfl))))
    ·replace h:=zd h b1906
     obtain ⟨r1907,hr1907,h⟩:=thn_s h
     try simp -implicitDefEqProofs only [go_sem,his1772,hws1772,c1845,g1845,c1847a,c1847b,c1847n,g1847,b1848,b1849,b1906]
     refine callG (zim a0 (fun x1908=>zes x1908 s1894.1 r1846) 62 [] [.eptr [.val (.int .i64 s1894.1)] 0,.eptr [.lst (r1846.map encI)] 0] (fun x1908 r h=>zkh x1908 s1894.1 r1846 r h) r1907 hr1907) (by simp -implicitDefEqProofs only [go_sem,his1772,hws1772,c1845,g1845,c1847a,c1847b,c1847n,g1847,b1848,b1849,b1906] <;> rfl) (za _) (by first | exact pers | exact scal rfl) ?_
     try simp -implicitDefEqProofs only [go_sem,his1772,hws1772,c1845,g1845,c1847a,c1847b,c1847n,g1847,b1848,b1849,b1906]
     refine zfr [(0,.p),(1,.q),(2,.q),(3,.q),(4,.q),(5,.p),(7,.b),(8,.b),(9,.b),(10,.b),(11,.b),(6,.w),(12,.q),(13,.w)] (by kernel_rfl) ?_
     obtain ⟨e1913,c1913a,c1913b,g1913,q1913,h⟩:=atZ_s zq h
     have c1913n:=zbj c1913a c1913b
     obtain ⟨c1914,h⟩:=chk_s h
     have k1915:=eq_true (show (s1894.2.length+1) * 32≤140737488355328 by omega)
     have a1916:=ze2 zq s1894.2 [e1913] (c:=[[.val (.int .i64 e1913.rule),.val (.int .i64 e1913.src),.val (.int .i64 e1913.dst),.val (.int .i64 e1913.strict)]]) rfl
     try simp -implicitDefEqProofs only [go_sem,his1772,hws1772,c1845,g1845,c1847a,c1847b,c1847n,g1847,b1848,b1849,b1906,c1913a,c1913b,c1913n,g1913,c1914,k1915,a1916]
     refine zth (envL [(0,.p (.lst (a0.map zq))),(1,.p (.val (.int .i64 a1))),(5,.row 45 (g1894+1)),(7,.ptr 7 0),(8,.ptr 8 0),(11,.p (.lst (a0.map zq))),(12,.p (.val (.int .i64 ((a0.length:Nat):Int)))),(13,.p (.val (.int .i64 ((i1772:Nat):Int)))),(67,.p (.val (.int .i64 e1913.dst)))]) (heapL [(7,.box ((zq e1845).map .p)),(8,.box [.row 1336 0]),(45,.row (g1894+1) 52 4 ((s1894.2++[e1913]).map zq)),(1336,.row 0 3 1 (r1846.map encI))]) (weakL (by simp -implicitDefEqProofs only [go_sem,his1772,hws1772,c1845,g1845,c1847a,c1847b,c1847n,g1847,b1848,b1849,b1906,c1913a,c1913b,c1913n,g1913,c1914,k1915,a1916] <;> ((repeat' apply And.intro) <;> rfl))) (by simp -implicitDefEqProofs only [go_sem,his1772,hws1772,c1845,g1845,c1847a,c1847b,c1847n,g1847,b1848,b1849,b1906,c1913a,c1913b,c1913n,g1913,c1914,k1915,a1916] <;> rfl) (by trivial) ?_
     try simp -implicitDefEqProofs only [go_sem,his1772,hws1772,c1845,g1845,c1847a,c1847b,c1847n,g1847,b1848,b1849,b1906,c1913a,c1913b,c1913n,g1913,c1914,k1915,a1916]
     exact hNs1894 (e1913.dst,(s1894.2++[e1913])) (g1894+1) h (weakL (by simp -implicitDefEqProofs only [go_sem,his1772,hws1772,c1845,g1845,c1847a,c1847b,c1847n,g1847,b1848,b1849,b1906,c1913a,c1913b,c1913n,g1913,c1914,k1915,a1916] <;> ((repeat' apply And.intro) <;> rfl)))
 ·intro i1772 s1772 g1772 Rs1772 hes1772 h
  have hns1772:¬ (i1772 < a0.length):=by omega
  try dsimp only at h
  cases h
  try simp -implicitDefEqProofs only [go_sem,hns1772]
  all_goals ((repeat' apply And.intro) <;> rfl)
end
end Go.Proofs.YtimojjnmmlhijaaGreat
set_option maxRecDepth 20000
namespace Go.Proofs.YtimojjnmmlhijaaGreat
open Go.Abs


noncomputable section
set_option maxHeartbeats 4000000 in
theorem zh5 (a0:List Edge) (p1:Edge→Option Bool) (k1:FuncId) (fs1 cs1:List PV) (hp1:∀ x0 r,p1 x0=some r→CallV Tryz.prog k1 (fs1++[.agg (encEdge x0)]++cs1) (fun v=>v = .val (.bool r))) (r:Bool) (h:zc4 a0 p1=some r):CallV Tryz.prog 183 [.lst (a0.map encEdge),.clo (.func k1) fs1 cs1] (fun v=>v = .val (.bool r)):=by
 refine CallV.ple ?_
 refine zc [] Ty.mixed Tryz.func183 rfl (by kernel_rfl) (by simp [Tryz.ntmps183]) ?_; rw [Tryz.ntmps183,Tryz.results183]
 unfold zc4 at h
 obtain ⟨r68,hr68,h⟩:=thn_s h
 try simp -implicitDefEqProofs only [go_sem]
 refine callG (zmc a0 p1 k1 fs1 cs1 hp1 r68 hr68) (by simp -implicitDefEqProofs only [go_sem] <;> rfl) (za _) (by first | exact pers | exact scal rfl) ?_
 cases h
 try simp -implicitDefEqProofs only [go_sem]
 all_goals ((repeat' apply And.intro) <;> rfl)

set_option maxHeartbeats 4000000 in
theorem zj9 (a0:Graph) (a1:Graph) (a2:zbo) (r:Bool) (h:zeg a0 a1 a2=some r):CallV Tryz.prog 193 [.agg [.lst (a0.nodes.map encI),.lst (a0.edges.map encEdge)],.agg [.lst (a1.nodes.map encI),.lst (a1.edges.map encEdge)],.agg [.lst (a2.nodes.map encI),.lst (a2.edges.map encI)]] (fun v=>v = .val (.bool r)):=by
 refine CallV.ple ?_
 refine zc [] Ty.mixed Tryz.func193 rfl (by kernel_rfl) (by simp [Tryz.ntmps193]) ?_; rw [Tryz.ntmps193,Tryz.results193]
 unfold zeg at h
 try simp -implicitDefEqProofs only [go_sem]
 refine zbd [.q,.q,.q,.q,.q,.q,.q,.q,.q,.q,.q,.q,.q,.q,.q,.q,.q,.q,.q,.q,.q,.q,.q,.q] (by kernel_rfl) ?_
 obtain ⟨r609,hr609,h⟩:=thn_s h
 try simp -implicitDefEqProofs only [go_sem]
 refine calldG (zjq a0 a1 a2 r609 hr609) (by simp -implicitDefEqProofs only [go_sem] <;> rfl) (za _) (by first | exact pers | exact scal rfl) ?_
 try simp -implicitDefEqProofs only [go_sem]
 refine zcu (fun b610=>?_) (fun b610=>?_)
 ·replace h:=ze h b610
  obtain ⟨r614,hr614,h⟩:=thn_s h
  try simp -implicitDefEqProofs only [go_sem,b610]
  refine calldG (zlj a2.nodes r614 hr614) (by simp -implicitDefEqProofs only [go_sem,b610] <;> rfl) (za _) (by first | exact pers | exact scal rfl) ?_
  try simp -implicitDefEqProofs only [go_sem,b610]
  refine zcu (fun b615=>?_) (fun b615=>?_)
  ·replace h:=ze h b615
   obtain ⟨r616,hr616,h⟩:=thn_s h
   try simp -implicitDefEqProofs only [go_sem,b610,b615]
   refine calldG (zlj a2.edges r616 hr616) (by simp -implicitDefEqProofs only [go_sem,b610,b615] <;> rfl) (za _) (by first | exact pers | exact scal rfl) ?_
   cases h
   try simp -implicitDefEqProofs only [go_sem,b610,b615]
   all_goals ((repeat' apply And.intro) <;> rfl)
  ·replace h:=zd h b615
   cases h
   try simp -implicitDefEqProofs only [go_sem,b610,b615]
   all_goals ((repeat' apply And.intro) <;> rfl)
 ·replace h:=zd h b610
  cases h
  try simp -implicitDefEqProofs only [go_sem,b610]
  all_goals ((repeat' apply And.intro) <;> rfl)

set_option maxHeartbeats 4000000 in
theorem zhp (a0:zx) (r:Bool) (h:zdj a0=some r):CallV Tryz.prog 54 [.agg (zbq a0)] (fun v=>v = .val (.bool r)):=by
 refine CallV.ple ?_
 refine zc [] Ty.mixed Tryz.func54 rfl (by kernel_rfl) (by simp [Tryz.ntmps54]) ?_; rw [Tryz.ntmps54,Tryz.results54]
 unfold zdj at h
 obtain ⟨r2108,hr2108,h⟩:=thn_s h
 try simp -implicitDefEqProofs only [go_sem]
 refine callG (znx a0.graph r2108 hr2108) (by simp -implicitDefEqProofs only [go_sem] <;> rfl) (za _) (by first | exact pers | exact scal rfl) ?_
 try simp -implicitDefEqProofs only [go_sem]
 refine zj (fun b2109=>?_) (fun b2109=>?_)
 ·replace h:=ze h b2109
  try simp -implicitDefEqProofs only [go_sem,b2109]
  refine zj (fun b2110=>?_) (fun b2110=>?_)
  ·replace h:=ze h b2110
   cases h
   try simp -implicitDefEqProofs only [go_sem,b2109,b2110]
   all_goals ((repeat' apply And.intro) <;> rfl)
  ·replace h:=zd h b2110
   cases h
   try simp -implicitDefEqProofs only [go_sem,b2109,b2110]
   all_goals ((repeat' apply And.intro) <;> rfl)
 ·replace h:=zd h b2109
  cases h
  try simp -implicitDefEqProofs only [go_sem,b2109]
  all_goals ((repeat' apply And.intro) <;> rfl)

end
end Go.Proofs.YtimojjnmmlhijaaGreat
set_option maxRecDepth 20000
namespace Go.Proofs.YtimojjnmmlhijaaGreat
open Go.Abs


noncomputable section
set_option maxHeartbeats 4000000 in
theorem zh6 (a0:List zbs) (p1:zbs→Option Bool) (k1:FuncId) (fs1 cs1:List PV) (hp1:∀ x0 r,p1 x0=some r→CallV Tryz.prog k1 (fs1++[.agg (zbk x0)]++cs1) (fun v=>v = .val (.bool r))) (r:Bool) (h:zci a0 p1=some r):CallV Tryz.prog 238 [.lst (a0.map zbk),.clo (.func k1) fs1 cs1] (fun v=>v = .val (.bool r)):=by
 refine CallV.ple ?_
 refine zc [] Ty.mixed Tryz.func238 rfl (by kernel_rfl) (by simp [Tryz.ntmps238]) ?_; rw [Tryz.ntmps238,Tryz.results238]
 unfold zci at h
 obtain ⟨r216,hr216,h⟩:=thn_s h
 try simp -implicitDefEqProofs only [go_sem]
 refine callG (zmj a0 p1 k1 fs1 cs1 hp1 r216 hr216) (by simp -implicitDefEqProofs only [go_sem] <;> rfl) (za _) (by first | exact pers | exact scal rfl) ?_
 cases h
 try simp -implicitDefEqProofs only [go_sem]
 all_goals ((repeat' apply And.intro) <;> rfl)

set_option maxHeartbeats 4000000 in
theorem zn8 (a0:List Int) (a1:Int) (r:Bool) (h:ze9 a0 a1=some r):CallV Tryz.prog 199 [.lst (a0.map encI),.val (.int .i64 a1)] (fun v=>v = .val (.bool r)):=by
 refine CallV.ple ?_
 refine zc [] Ty.mixed Tryz.func199 rfl (by kernel_rfl) (by simp [Tryz.ntmps199]) ?_; rw [Tryz.ntmps199,Tryz.results199]
 unfold ze9 at h
 obtain ⟨r632,hr632,h⟩:=thn_s h
 try simp -implicitDefEqProofs only [go_sem]
 refine callG (zqa a0 a1 r632 hr632) (by simp -implicitDefEqProofs only [go_sem] <;> rfl) (za _) (by first | exact pers | exact scal rfl) ?_
 cases h
 try simp -implicitDefEqProofs only [go_sem]
 all_goals ((repeat' apply And.intro) <;> rfl)

set_option maxHeartbeats 4000000 in
theorem ziq (a0:List zl) (p1:zl→Option Bool) (k1:FuncId) (fs1 cs1:List PV) (hp1:∀ x0 r,p1 x0=some r→CallV Tryz.prog k1 (fs1++[.agg [.lst (x0.deletes.map encI),.lst (x0.creates.map encI)]]++cs1) (fun v=>v = .val (.bool r))) (r:Bool) (h:zce a0 p1=some r):CallV Tryz.prog 68 [.lst (a0.map zy),.clo (.func k1) fs1 cs1] (fun v=>v = .val (.bool r)):=by
 refine CallV.ple ?_
 refine zc [] Ty.mixed Tryz.func68 rfl (by kernel_rfl) (by simp [Tryz.ntmps68]) ?_; rw [Tryz.ntmps68,Tryz.results68]
 unfold zce at h
 obtain ⟨r1016,hr1016,h⟩:=thn_s h
 try simp -implicitDefEqProofs only [go_sem]
 refine callG (zgi a0 p1 k1 fs1 cs1 hp1 r1016 hr1016) (by simp -implicitDefEqProofs only [go_sem] <;> rfl) (za _) (by first | exact pers | exact scal rfl) ?_
 cases h
 try simp -implicitDefEqProofs only [go_sem]
 all_goals ((repeat' apply And.intro) <;> rfl)

set_option maxHeartbeats 4000000 in
theorem zmf (a0:Types) (a1:zm) (r:Int) (h:zen a0 a1=some r):CallV Tryz.prog 127 [.agg [.lst (a0.nodes.map encNode),.lst (a0.edges.map encEdgeT)],.agg (z6 a1)] (fun v=>v = .val (.int .i64 r)):=by
 refine CallV.ple ?_
 refine zc [] Ty.mixed Tryz.func127 rfl (by kernel_rfl) (by simp [Tryz.ntmps127]) ?_; rw [Tryz.ntmps127,Tryz.results127]
 unfold zen at h
 obtain ⟨r2289,hr2289,h⟩:=thn_s h
 try simp -implicitDefEqProofs only [go_sem]
 refine callG (zeq a1.right.graph r2289 hr2289) (by simp -implicitDefEqProofs only [go_sem] <;> rfl) (za _) (by first | exact pers | exact scal rfl) ?_
 try simp -implicitDefEqProofs only [go_sem]
 refine zf (fun b2290=>?_) (fun b2290=>?_)
 ·replace h:=ze h b2290
  obtain ⟨r2291,hr2291,h⟩:=thn_s h
  try simp -implicitDefEqProofs only [go_sem,b2290]
  refine callG (zjb a0 a1.right.graph r2291 hr2291) (by simp -implicitDefEqProofs only [go_sem,b2290] <;> rfl) (za _) (by first | exact pers | exact scal rfl) ?_
  try simp -implicitDefEqProofs only [go_sem,b2290]
  refine zf (fun b2292=>?_) (fun b2292=>?_)
  ·replace h:=ze h b2292
   try simp -implicitDefEqProofs only [go_sem,b2290,b2292]
   refine zj (fun b2293=>?_) (fun b2293=>?_)
   ·replace h:=ze h b2293
    try simp -implicitDefEqProofs only [go_sem,b2290,b2292,b2293]
    refine zb (fun b2294=>?_) (fun b2294=>?_)
    ·replace h:=ze h b2294
     cases h
     try simp -implicitDefEqProofs only [go_sem,b2290,b2292,b2293,b2294]
     all_goals ((repeat' apply And.intro) <;> rfl)
    ·replace h:=zd h b2294
     try simp -implicitDefEqProofs only [go_sem,b2290,b2292,b2293,b2294]
     refine zb (fun b2295=>?_) (fun b2295=>?_)
     ·replace h:=ze h b2295
      cases h
      try simp -implicitDefEqProofs only [go_sem,b2290,b2292,b2293,b2294,b2295]
      all_goals ((repeat' apply And.intro) <;> rfl)
     ·replace h:=zd h b2295
      obtain ⟨fus2323,h⟩:=chk_s h
      unfold fuel at fus2323
      try simp -implicitDefEqProofs only [go_sem,b2290,b2292,b2293,b2294,b2295]
      refine z7 (fun x:(Nat×(Unit))×(Unit)=>envL [(2,.ptr 2 0),(3,.ptr 3 0),(6,.p (.val (.int .i64 ((x.1.1:Nat):Int))))]) (fun x=>heapL [(2,.box [.p (.lst (a0.nodes.map encNode)),.p (.lst (a0.edges.map encEdgeT))]),(3,.box [.p (.val (.string a1.name)),.p (.lst (a1.left.graph.nodes.map encI)),.p (.lst (a1.left.graph.edges.map encEdge)),.p (.lst (a1.left.slots.map zbk)),.p (.val (.int .i64 a1.left.vars)),.p (.lst (a1.left.tests.map zbv)),.p (.lst (a1.right.graph.nodes.map encI)),.p (.lst (a1.right.graph.edges.map encEdge)),.p (.lst (a1.right.slots.map zbk)),.p (.val (.int .i64 a1.right.vars)),.p (.lst (a1.right.tests.map zbv)),.p (.lst (a1.keep.nodes.map encI)),.p (.lst (a1.keep.edges.map encI)),.p (.lst (a1.into.nodes.map encI)),.p (.lst (a1.into.edges.map encI)),.p (.val (.bool a1.injective)),.p (.val (.int .i64 a1.condition.kind)),.p (.lst (a1.condition.kids.map zt)),.p (.lst (a1.condition.map.nodes.map encI)),.p (.lst (a1.condition.map.edges.map encI)),.p (.lst (a1.condition.pattern.graph.nodes.map encI)),.p (.lst (a1.condition.pattern.graph.edges.map encEdge)),.p (.lst (a1.condition.pattern.slots.map zbk)),.p (.val (.int .i64 a1.condition.pattern.vars)),.p (.lst (a1.condition.pattern.tests.map zbv))])]) () h (weakL (by simp -implicitDefEqProofs only [go_sem,b2290,b2292,b2293,b2294,b2295] <;> ((repeat' apply And.intro) <;> rfl))) ?_ ?_
      ·intro i2323 s2323 g2323 nxts2323 Rs2323 his2323 hNs2323 h
       have hws2323:=zk (k:=i2323) his2323 (by omega)
       try dsimp only at h
       obtain ⟨r2326,hr2326,h⟩:=thn_s h
       try simp -implicitDefEqProofs only [go_sem,b2290,b2292,b2293,b2294,b2295,his2323,hws2323]
       refine callG (zm9 a0 a1.right ((i2323:Nat):Int) r2326 hr2326) (by simp -implicitDefEqProofs only [go_sem,b2290,b2292,b2293,b2294,b2295,his2323,hws2323] <;> rfl) (za _) (by first | exact pers | exact scal rfl) ?_
       try simp -implicitDefEqProofs only [go_sem,b2290,b2292,b2293,b2294,b2295,his2323,hws2323]
       refine zf (fun b2327=>?_) (fun b2327=>?_)
       ·replace h:=ze h b2327
        try simp -implicitDefEqProofs only [go_sem,b2290,b2292,b2293,b2294,b2295,his2323,hws2323,b2327]
        exact hNs2323 () () h (weakL (by simp -implicitDefEqProofs only [go_sem,b2290,b2292,b2293,b2294,b2295,his2323,hws2323,b2327] <;> ((repeat' apply And.intro) <;> rfl)))
       ·replace h:=zd h b2327
        cases h
        try simp -implicitDefEqProofs only [go_sem,b2290,b2292,b2293,b2294,b2295,his2323,hws2323,b2327]
        all_goals ((repeat' apply And.intro) <;> rfl)
      ·intro i2323 s2323 g2323 Rs2323 hes2323 h
       have hns2323:¬ (i2323 < a1.right.slots.length):=by omega
       try dsimp only at h
       cases h
       try simp -implicitDefEqProofs only [go_sem,b2290,b2292,b2293,b2294,b2295,hns2323]
       all_goals ((repeat' apply And.intro) <;> rfl)
   ·replace h:=zd h b2293
    cases h
    try simp -implicitDefEqProofs only [go_sem,b2290,b2292,b2293]
    all_goals ((repeat' apply And.intro) <;> rfl)
  ·replace h:=zd h b2292
   cases h
   try simp -implicitDefEqProofs only [go_sem,b2290,b2292]
   all_goals ((repeat' apply And.intro) <;> rfl)
 ·replace h:=zd h b2290
  cases h
  try simp -implicitDefEqProofs only [go_sem,b2290]
  all_goals ((repeat' apply And.intro) <;> rfl)

set_option maxHeartbeats 4000000 in
theorem zmn (a0:Types) (a1:Int) (a2:Int) (r:Int) (h:zel a0 a1 a2=some r):CallV Tryz.prog 94 [.agg [.lst (a0.nodes.map encNode),.lst (a0.edges.map encEdgeT)],.val (.int .i64 a1),.val (.int .i64 a2)] (fun v=>v = .val (.int .i64 r)):=by
 refine CallV.ple ?_
 refine zc [] Ty.mixed Tryz.func94 rfl (by kernel_rfl) (by simp [Tryz.ntmps94]) ?_; rw [Tryz.ntmps94,Tryz.results94]
 unfold zel at h
 obtain ⟨r3175,hr3175,h⟩:=thn_s h
 try simp -implicitDefEqProofs only [go_sem]
 refine callG (zfu a0 r3175 hr3175) (by simp -implicitDefEqProofs only [go_sem] <;> rfl) (za _) (by first | exact pers | exact scal rfl) ?_
 try simp -implicitDefEqProofs only [go_sem]
 refine zf (fun b3176=>?_) (fun b3176=>?_)
 ·replace h:=ze h b3176
  obtain ⟨r3178,hr3178,h⟩:=thn_s h
  try simp -implicitDefEqProofs only [go_sem,b3176]
  refine callG (zka a1 0 (IntKind.i64.wrap (((a0.nodes.length:Nat):Int) - 1)) r3178 hr3178) (by simp -implicitDefEqProofs only [go_sem,b3176] <;> rfl) (za _) (by first | exact pers | exact scal rfl) ?_
  try simp -implicitDefEqProofs only [go_sem,b3176]
  refine zj (fun b3179=>?_) (fun b3179=>?_)
  ·replace h:=ze h b3179
   obtain ⟨r3180,hr3180,h⟩:=thn_s h
   try simp -implicitDefEqProofs only [go_sem,b3176,b3179]
   refine callG (zka a2 0 (IntKind.i64.wrap (((a0.nodes.length:Nat):Int) - 1)) r3180 hr3180) (by simp -implicitDefEqProofs only [go_sem,b3176,b3179] <;> rfl) (za _) (by first | exact pers | exact scal rfl) ?_
   try simp -implicitDefEqProofs only [go_sem,b3176,b3179]
   refine zf (fun b3181=>?_) (fun b3181=>?_)
   ·replace h:=ze h b3181
    cases h
    try simp -implicitDefEqProofs only [go_sem,b3176,b3179,b3181]
    all_goals ((repeat' apply And.intro) <;> rfl)
   ·replace h:=zd h b3181
    cases h
    try simp -implicitDefEqProofs only [go_sem,b3176,b3179,b3181]
    all_goals ((repeat' apply And.intro) <;> rfl)
  ·replace h:=zd h b3179
   cases h
   try simp -implicitDefEqProofs only [go_sem,b3176,b3179]
   all_goals ((repeat' apply And.intro) <;> rfl)
 ·replace h:=zd h b3176
  cases h
  try simp -implicitDefEqProofs only [go_sem,b3176]
  all_goals ((repeat' apply And.intro) <;> rfl)
end
end Go.Proofs.YtimojjnmmlhijaaGreat
set_option maxRecDepth 20000
namespace Go.Proofs.YtimojjnmmlhijaaGreat
open Go.Abs


noncomputable section
set_option maxHeartbeats 4000000 in
theorem zr3 (a0:Types) (a1:zx) (a2:zbs) (r:Attr×Bool) (h:zgw a0 a1 a2=some r):CallV Tryz.prog 186 [.agg [.lst (a0.nodes.map encNode),.lst (a0.edges.map encEdgeT)],.agg (zbq a1),.agg (zbk a2)] (fun v=>v = .tup [.agg (encAttr r.1),.val (.bool r.2)]):=by
 refine CallV.ple ?_
 refine zc [] Ty.mixed Tryz.func186 rfl (by kernel_rfl) (by simp [Tryz.ntmps186]) ?_; rw [Tryz.ntmps186,Tryz.results186]
 unfold zgw at h
 obtain ⟨r97,hr97,h⟩:=thn_s h
 try simp -implicitDefEqProofs only [go_sem]
 refine callG (zga a2.node 0 (IntKind.i64.wrap (((a1.graph.nodes.length:Nat):Int) - 1)) r97 hr97) (by simp -implicitDefEqProofs only [go_sem] <;> rfl) (za _) (by first | exact pers | exact scal rfl) ?_
 try simp -implicitDefEqProofs only [go_sem]
 refine zf (fun b98=>?_) (fun b98=>?_)
 ·replace h:=ze h b98
  try simp -implicitDefEqProofs only [go_sem,b98]
  refine zbd [.q,.q,.q,.q,.q,.q,.q,.q,.q,.q,.q,.q,.q,.q] (by kernel_rfl) ?_
  obtain ⟨e99,c99a,c99b,g99,q99,h⟩:=atZ_s encI h
  have c99n:=zbj c99a c99b
  obtain ⟨r100,hr100,h⟩:=thn_s h
  try simp -implicitDefEqProofs only [go_sem,b98,c99a,c99b,c99n,g99]
  refine calldG (zpb a0 e99 r100 hr100) (by simp -implicitDefEqProofs only [go_sem,b98,c99a,c99b,c99n,g99] <;> rfl) (za _) (by first | exact pers | exact scal rfl) ?_
  obtain ⟨r101,hr101,h⟩:=thn_s h
  try simp -implicitDefEqProofs only [go_sem,b98,c99a,c99b,c99n,g99]
  refine callG (zga a2.attr 0 (IntKind.i64.wrap (((r100.1.length:Nat):Int) - 1)) r101 hr101) (by simp -implicitDefEqProofs only [go_sem,b98,c99a,c99b,c99n,g99] <;> rfl) (za _) (by first | exact pers | exact scal rfl) ?_
  try simp -implicitDefEqProofs only [go_sem,b98,c99a,c99b,c99n,g99]
  refine zf (fun b102=>?_) (fun b102=>?_)
  ·replace h:=ze h b102
   obtain ⟨e103,c103a,c103b,g103,q103,h⟩:=atZ_s encAttr h
   have c103n:=zbj c103a c103b
   cases h
   try simp -implicitDefEqProofs only [go_sem,b98,c99a,c99b,c99n,g99,b102,c103a,c103b,c103n,g103]
   all_goals ((repeat' apply And.intro) <;> rfl)
  ·replace h:=zd h b102
   cases h
   try simp -implicitDefEqProofs only [go_sem,b98,c99a,c99b,c99n,g99,b102]
   all_goals ((repeat' apply And.intro) <;> rfl)
 ·replace h:=zd h b98
  cases h
  try simp -implicitDefEqProofs only [go_sem,b98]
  all_goals ((repeat' apply And.intro) <;> rfl)

set_option maxHeartbeats 4000000 in
theorem znm (a0:List Bool) (a1:Bool) (r:Bool) (h:zew a0 a1=some r):CallV Tryz.prog 188 [.lst (a0.map enc_b),.val (.bool a1)] (fun v=>v = .val (.bool r)):=by
 refine CallV.ple ?_
 refine zc [] Ty.mixed Tryz.func188 rfl (by kernel_rfl) (by simp [Tryz.ntmps188]) ?_; rw [Tryz.ntmps188,Tryz.results188]
 unfold zew at h
 obtain ⟨r173,hr173,h⟩:=thn_s h
 try simp -implicitDefEqProofs only [go_sem]
 refine callG (zpo a0 a1 r173 hr173) (by simp -implicitDefEqProofs only [go_sem] <;> rfl) (za _) (by first | exact pers | exact scal rfl) ?_
 cases h
 try simp -implicitDefEqProofs only [go_sem]
 all_goals ((repeat' apply And.intro) <;> rfl)

set_option maxHeartbeats 4000000 in
theorem ztz (a0:Int) (a1:Int) (r:Bool) (h:zho a0 a1=some r):CallV Tryz.prog 206 [.val (.int .i64 a0),.val (.int .i64 a1)] (fun v=>v = .val (.bool r)):=by
 refine CallV.ple ?_
 refine zc [] Ty.mixed Tryz.func206 rfl (by kernel_rfl) (by simp [Tryz.ntmps206]) ?_; rw [Tryz.ntmps206,Tryz.results206]
 unfold zho at h
 obtain ⟨r266,hr266,h⟩:=thn_s h
 try simp -implicitDefEqProofs only [go_sem]
 refine callG (zmq a0 r266 hr266) (by simp -implicitDefEqProofs only [go_sem] <;> rfl) (za _) (by first | exact pers | exact scal rfl) ?_
 try simp -implicitDefEqProofs only [go_sem]
 refine zj (fun b267=>?_) (fun b267=>?_)
 ·replace h:=ze h b267
  obtain ⟨r268,hr268,h⟩:=thn_s h
  try simp -implicitDefEqProofs only [go_sem,b267]
  refine callG (zmq a1 r268 hr268) (by simp -implicitDefEqProofs only [go_sem,b267] <;> rfl) (za _) (by first | exact pers | exact scal rfl) ?_
  try simp -implicitDefEqProofs only [go_sem,b267]
  refine zj (fun b269=>?_) (fun b269=>?_)
  ·replace h:=ze h b269
   cases h
   try simp -implicitDefEqProofs only [go_sem,b267,b269]
   all_goals ((repeat' apply And.intro) <;> rfl)
  ·replace h:=zd h b269
   cases h
   try simp -implicitDefEqProofs only [go_sem,b267,b269]
   all_goals ((repeat' apply And.intro) <;> rfl)
 ·replace h:=zd h b267
  cases h
  try simp -implicitDefEqProofs only [go_sem,b267]
  all_goals ((repeat' apply And.intro) <;> rfl)

set_option maxHeartbeats 4000000 in
theorem zke (a0:List NodeT) (p1:NodeT→Option Bool) (k1:FuncId) (fs1 cs1:List PV) (hp1:∀ x0 r,p1 x0=some r→CallV Tryz.prog k1 (fs1++[.agg (encNode x0)]++cs1) (fun v=>v = .val (.bool r))) (r:Bool) (h:zdb a0 p1=some r):CallV Tryz.prog 85 [.lst (a0.map encNode),.clo (.func k1) fs1 cs1] (fun v=>v = .val (.bool r)):=by
 refine CallV.ple ?_
 refine zc [] Ty.mixed Tryz.func85 rfl (by kernel_rfl) (by simp [Tryz.ntmps85]) ?_; rw [Tryz.ntmps85,Tryz.results85]
 unfold zdb at h
 obtain ⟨r835,hr835,h⟩:=thn_s h
 try simp -implicitDefEqProofs only [go_sem]
 refine callG (zky a0 p1 k1 fs1 cs1 hp1 r835 hr835) (by simp -implicitDefEqProofs only [go_sem] <;> rfl) (za _) (by first | exact pers | exact scal rfl) ?_
 cases h
 try simp -implicitDefEqProofs only [go_sem]
 all_goals ((repeat' apply And.intro) <;> rfl)

set_option maxHeartbeats 4000000 in
theorem zmo (a0:Graph) (a1:zcr) (r:Int) (h:zc3 a0 a1=some r):CallV Tryz.prog 174 [.agg [.lst (a0.nodes.map encI),.lst (a0.edges.map encEdge)],.agg [.lst (a1.nodes.map encI),.lst (a1.edges.map encI)]] (fun v=>v = .val (.int .i64 r)):=by
 refine CallV.ple ?_
 refine zc [] Ty.mixed Tryz.func174 rfl (by kernel_rfl) (by simp [Tryz.ntmps174]) ?_; rw [Tryz.ntmps174,Tryz.results174]
 unfold zc3 at h
 obtain ⟨r2353,hr2353,h⟩:=thn_s h
 try simp -implicitDefEqProofs only [go_sem]
 refine callG (zht a1.nodes ((a0.nodes.length:Nat):Int) r2353 hr2353) (by simp -implicitDefEqProofs only [go_sem] <;> rfl) (za _) (by first | exact pers | exact scal rfl) ?_
 try simp -implicitDefEqProofs only [go_sem]
 refine zf (fun b2354=>?_) (fun b2354=>?_)
 ·replace h:=ze h b2354
  obtain ⟨r2355,hr2355,h⟩:=thn_s h
  try simp -implicitDefEqProofs only [go_sem,b2354]
  refine callG (zht a1.edges ((a0.edges.length:Nat):Int) r2355 hr2355) (by simp -implicitDefEqProofs only [go_sem,b2354] <;> rfl) (za _) (by first | exact pers | exact scal rfl) ?_
  try simp -implicitDefEqProofs only [go_sem,b2354]
  refine zf (fun b2356=>?_) (fun b2356=>?_)
  ·replace h:=ze h b2356
   obtain ⟨fus2374,h⟩:=chk_s h
   unfold fuel at fus2374
   try simp -implicitDefEqProofs only [go_sem,b2354,b2356]
   refine z7 (fun x:(Nat×(Unit))×(Unit)=>envL [(2,.ptr 2 0),(3,.ptr 3 0),(7,.p (.val (.int .i64 ((x.1.1:Nat):Int))))]) (fun x=>heapL [(2,.box [.p (.lst (a0.nodes.map encI)),.p (.lst (a0.edges.map encEdge))]),(3,.box [.p (.lst (a1.nodes.map encI)),.p (.lst (a1.edges.map encI))])]) () h (weakL (by simp -implicitDefEqProofs only [go_sem,b2354,b2356] <;> ((repeat' apply And.intro) <;> rfl))) ?_ ?_
   ·intro i2374 s2374 g2374 nxts2374 Rs2374 his2374 hNs2374 h
    have hws2374:=zk (k:=i2374) his2374 (by omega)
    try dsimp only at h
    try simp -implicitDefEqProofs only [go_sem,b2354,b2356,his2374,hws2374]
    refine zbd [.q,.q,.q,.q,.q,.q,.q,.q,.q,.w,.s] (by kernel_rfl) ?_
    obtain ⟨e2381,c2381,g2381,q2381,h⟩:=idx_s encI h
    obtain ⟨e2382,c2382a,c2382b,g2382,q2382,h⟩:=atZ_s encEdge h
    have c2382n:=zbj c2382a c2382b
    obtain ⟨r2383,hr2383,h⟩:=thn_s h
    try simp -implicitDefEqProofs only [go_sem,b2354,b2356,his2374,hws2374,c2381,g2381,c2382a,c2382b,c2382n,g2382]
    refine callG (zjz a1.nodes e2382.src r2383 hr2383) (by simp -implicitDefEqProofs only [go_sem,b2354,b2356,his2374,hws2374,c2381,g2381,c2382a,c2382b,c2382n,g2382] <;> rfl) (za _) (by first | exact pers | exact scal rfl) ?_
    try simp -implicitDefEqProofs only [go_sem,b2354,b2356,his2374,hws2374,c2381,g2381,c2382a,c2382b,c2382n,g2382]
    refine zj (fun b2384=>?_) (fun b2384=>?_)
    ·replace h:=ze h b2384
     obtain ⟨r2385,hr2385,h⟩:=thn_s h
     try simp -implicitDefEqProofs only [go_sem,b2354,b2356,his2374,hws2374,c2381,g2381,c2382a,c2382b,c2382n,g2382,b2384]
     refine callG (zjz a1.nodes e2382.dst r2385 hr2385) (by simp -implicitDefEqProofs only [go_sem,b2354,b2356,his2374,hws2374,c2381,g2381,c2382a,c2382b,c2382n,g2382,b2384] <;> rfl) (za _) (by first | exact pers | exact scal rfl) ?_
     try simp -implicitDefEqProofs only [go_sem,b2354,b2356,his2374,hws2374,c2381,g2381,c2382a,c2382b,c2382n,g2382,b2384]
     refine zf (fun b2386=>?_) (fun b2386=>?_)
     ·replace h:=ze h b2386
      try simp -implicitDefEqProofs only [go_sem,b2354,b2356,his2374,hws2374,c2381,g2381,c2382a,c2382b,c2382n,g2382,b2384,b2386]
      exact hNs2374 () () h (weakL (by simp -implicitDefEqProofs only [go_sem,b2354,b2356,his2374,hws2374,c2381,g2381,c2382a,c2382b,c2382n,g2382,b2384,b2386] <;> ((repeat' apply And.intro) <;> rfl)))
     ·replace h:=zd h b2386
      cases h
      try simp -implicitDefEqProofs only [go_sem,b2354,b2356,his2374,hws2374,c2381,g2381,c2382a,c2382b,c2382n,g2382,b2384,b2386]
      all_goals ((repeat' apply And.intro) <;> rfl)
    ·replace h:=zd h b2384
     cases h
     try simp -implicitDefEqProofs only [go_sem,b2354,b2356,his2374,hws2374,c2381,g2381,c2382a,c2382b,c2382n,g2382,b2384]
     all_goals ((repeat' apply And.intro) <;> rfl)
   ·intro i2374 s2374 g2374 Rs2374 hes2374 h
    have hns2374:¬ (i2374 < a1.edges.length):=by omega
    try dsimp only at h
    cases h
    try simp -implicitDefEqProofs only [go_sem,b2354,b2356,hns2374]
    all_goals ((repeat' apply And.intro) <;> rfl)
  ·replace h:=zd h b2356
   cases h
   try simp -implicitDefEqProofs only [go_sem,b2354,b2356]
   all_goals ((repeat' apply And.intro) <;> rfl)
 ·replace h:=zd h b2354
  cases h
  try simp -implicitDefEqProofs only [go_sem,b2354]
  all_goals ((repeat' apply And.intro) <;> rfl)
end
end Go.Proofs.YtimojjnmmlhijaaGreat
set_option maxRecDepth 20000
namespace Go.Proofs.YtimojjnmmlhijaaGreat
open Go.Abs


noncomputable section
set_option maxHeartbeats 4000000 in
theorem zco (a0:List Int) (p1:Int→Option Bool) (k1:FuncId) (fs1 cs1:List PV) (hp1:∀ x0 r,p1 x0=some r→CallV Tryz.prog k1 (fs1++[.val (.int .i64 x0)]++cs1) (fun v=>v = .val (.bool r))) (r:Bool) (h:zby a0 p1=some r):CallV Tryz.prog 45 [.lst (a0.map encI),.clo (.func k1) fs1 cs1] (fun v=>v = .val (.bool r)):=by
 refine CallV.ple ?_
 refine zc [] Ty.mixed Tryz.func45 rfl (by kernel_rfl) (by simp [Tryz.ntmps45]) ?_; rw [Tryz.ntmps45,Tryz.results45]
 unfold zby at h
 obtain ⟨r52,hr52,h⟩:=thn_s h
 try simp -implicitDefEqProofs only [go_sem]
 refine callG (znc a0 p1 k1 fs1 cs1 hp1 r52 hr52) (by simp -implicitDefEqProofs only [go_sem] <;> rfl) (za _) (by first | exact pers | exact scal rfl) ?_
 cases h
 try simp -implicitDefEqProofs only [go_sem]
 all_goals ((repeat' apply And.intro) <;> rfl)

set_option maxHeartbeats 4000000 in
theorem zf6 (a0:Int) (a1:List Int) (r:(List Int)) (h:zcs a0 a1=some r):CallF Tryz.prog 132 [.val (.int .i64 a0),.lst (a1.map encI)] (fun v=>v = .row 3 1 (r.map encI)):=by
 refine CallF.rle ?_
 refine zbl [19] Ty.mixed Tryz.func132 rfl (by kernel_rfl) (by simp [Tryz.ntmps132]) ?_; rw [Tryz.ntmps132,Tryz.results132]
 unfold zcs at h
 obtain ⟨fus2977,h⟩:=chk_s h
 unfold fuel at fus2977
 try simp -implicitDefEqProofs only [go_sem]
 refine z7 (fun x:(Nat×((List Int)))×(Nat)=>envL [(0,.p (.val (.int .i64 a0))),(1,.p (.lst (a1.map encI))),(5,.row 4975 x.2),(6,.p (.val (.int .i64 ((x.1.1:Nat):Int))))]) (fun x=>heapL [(4975,.row x.2 3 1 (x.1.2.map encI))]) 0 h (by refine Weak.trans (zha 5 4975 3 1 rfl rfl (by decide)) ?_; exact (weakL (by simp -implicitDefEqProofs only [go_sem] <;> ((repeat' apply And.intro) <;> rfl)))) ?_ ?_
 ·intro i2977 s2977 g2977 nxts2977 Rs2977 his2977 hNs2977 h
  have hws2977:=zk (k:=i2977) his2977 (by omega)
  have hjs2977:((i2977:Nat):Int) < a0:=by omega
  try dsimp only at h
  obtain ⟨r2983,hr2983,h⟩:=thn_s h
  try simp -implicitDefEqProofs only [go_sem,his2977,hws2977,hjs2977]
  refine callG (zny a1 ((i2977:Nat):Int) r2983 hr2983) (by simp -implicitDefEqProofs only [go_sem,his2977,hws2977,hjs2977] <;> rfl) (za _) (by first | exact pers | exact scal rfl) ?_
  try simp -implicitDefEqProofs only [go_sem,his2977,hws2977,hjs2977]
  refine zf (fun b2984=>?_) (fun b2984=>?_)
  ·replace h:=ze h b2984
   try simp -implicitDefEqProofs only [go_sem,his2977,hws2977,hjs2977,b2984]
   exact hNs2977 s2977 g2977 h (weakL (by simp -implicitDefEqProofs only [go_sem,his2977,hws2977,hjs2977,b2984] <;> ((repeat' apply And.intro) <;> rfl)))
  ·replace h:=zd h b2984
   obtain ⟨c2985,h⟩:=chk_s h
   have k2986:=eq_true (show (s2977.length+1) * 8≤140737488355328 by omega)
   have a2987:=ze2 encI s2977 [((i2977:Nat):Int)] (c:=[[.val (.int .i64 ((i2977:Nat):Int))]]) rfl
   try simp -implicitDefEqProofs only [go_sem,his2977,hws2977,hjs2977,b2984,c2985,k2986,a2987]
   exact hNs2977 (s2977++[((i2977:Nat):Int)]) (g2977+1) h (weakL (by simp -implicitDefEqProofs only [go_sem,his2977,hws2977,hjs2977,b2984,c2985,k2986,a2987] <;> ((repeat' apply And.intro) <;> rfl)))
 ·intro i2977 s2977 g2977 Rs2977 hes2977 h
  have hns2977:¬ (((i2977:Nat):Int) < a0):=by omega
  try dsimp only at h
  cases h
  try simp -implicitDefEqProofs only [go_sem,hns2977]
  refine ⟨by decide,_,.refl _,?_⟩
  simp -implicitDefEqProofs only [go_sem,hns2977] <;> ((repeat' apply And.intro) <;> rfl)

set_option maxHeartbeats 4000000 in
theorem zmh (a0:zi) (r:Bool) (h:zep a0=some r):CallV Tryz.prog 261 [.agg (zt a0)] (fun v=>v = .val (.bool r)):=by
 refine CallV.ple ?_
 refine zc [] Ty.mixed Tryz.func261 rfl (by kernel_rfl) (by simp [Tryz.ntmps261]) ?_; rw [Tryz.ntmps261,Tryz.results261]
 unfold zep at h
 try simp -implicitDefEqProofs only [go_sem]
 refine zb (fun b3035=>?_) (fun b3035=>?_)
 ·replace h:=ze h b3035
  try simp -implicitDefEqProofs only [go_sem,b3035]
  refine zj (fun b3036=>?_) (fun b3036=>?_)
  ·replace h:=ze h b3036
   obtain ⟨r3039,hr3039,h⟩:=thn_s h
   try simp -implicitDefEqProofs only [go_sem,b3035,b3036]
   refine callG (zfl a0 r3039 hr3039) (by simp -implicitDefEqProofs only [go_sem,b3035,b3036] <;> rfl) (za _) (by first | exact pers | exact scal rfl) ?_
   cases h
   try simp -implicitDefEqProofs only [go_sem,b3035,b3036]
   all_goals ((repeat' apply And.intro) <;> rfl)
  ·replace h:=zd h b3036
   cases h
   try simp -implicitDefEqProofs only [go_sem,b3035,b3036]
   all_goals ((repeat' apply And.intro) <;> rfl)
 ·replace h:=zd h b3035
  try simp -implicitDefEqProofs only [go_sem,b3035]
  refine zb (fun b3040=>?_) (fun b3040=>?_)
  ·replace h:=ze h b3040
   try simp -implicitDefEqProofs only [go_sem,b3035,b3040]
   refine zj (fun b3041=>?_) (fun b3041=>?_)
   ·replace h:=ze h b3041
    obtain ⟨r3042,hr3042,h⟩:=thn_s h
    try simp -implicitDefEqProofs only [go_sem,b3035,b3040,b3041]
    refine callG (zfl a0 r3042 hr3042) (by simp -implicitDefEqProofs only [go_sem,b3035,b3040,b3041] <;> rfl) (za _) (by first | exact pers | exact scal rfl) ?_
    cases h
    try simp -implicitDefEqProofs only [go_sem,b3035,b3040,b3041]
    all_goals ((repeat' apply And.intro) <;> rfl)
   ·replace h:=zd h b3041
    cases h
    try simp -implicitDefEqProofs only [go_sem,b3035,b3040,b3041]
    all_goals ((repeat' apply And.intro) <;> rfl)
  ·replace h:=zd h b3040
   try simp -implicitDefEqProofs only [go_sem,b3035,b3040]
   refine zb (fun b3043=>?_) (fun b3043=>?_)
   ·replace h:=ze h b3043
    try simp -implicitDefEqProofs only [go_sem,b3035,b3040,b3043]
    refine zj (fun b3044=>?_) (fun b3044=>?_)
    ·replace h:=ze h b3044
     obtain ⟨r3045,hr3045,h⟩:=thn_s h
     try simp -implicitDefEqProofs only [go_sem,b3035,b3040,b3043,b3044]
     refine callG (zfl a0 r3045 hr3045) (by simp -implicitDefEqProofs only [go_sem,b3035,b3040,b3043,b3044] <;> rfl) (za _) (by first | exact pers | exact scal rfl) ?_
     cases h
     try simp -implicitDefEqProofs only [go_sem,b3035,b3040,b3043,b3044]
     all_goals ((repeat' apply And.intro) <;> rfl)
    ·replace h:=zd h b3044
     cases h
     try simp -implicitDefEqProofs only [go_sem,b3035,b3040,b3043,b3044]
     all_goals ((repeat' apply And.intro) <;> rfl)
   ·replace h:=zd h b3043
    try simp -implicitDefEqProofs only [go_sem,b3035,b3040,b3043]
    refine zb (fun b3046=>?_) (fun b3046=>?_)
    ·replace h:=ze h b3046
     try simp -implicitDefEqProofs only [go_sem,b3035,b3040,b3043,b3046]
     refine zj (fun b3047=>?_) (fun b3047=>?_)
     ·replace h:=ze h b3047
      obtain ⟨r3048,hr3048,h⟩:=thn_s h
      try simp -implicitDefEqProofs only [go_sem,b3035,b3040,b3043,b3046,b3047]
      refine callG (zfl a0 r3048 hr3048) (by simp -implicitDefEqProofs only [go_sem,b3035,b3040,b3043,b3046,b3047] <;> rfl) (za _) (by first | exact pers | exact scal rfl) ?_
      cases h
      try simp -implicitDefEqProofs only [go_sem,b3035,b3040,b3043,b3046,b3047]
      all_goals ((repeat' apply And.intro) <;> rfl)
     ·replace h:=zd h b3047
      cases h
      try simp -implicitDefEqProofs only [go_sem,b3035,b3040,b3043,b3046,b3047]
      all_goals ((repeat' apply And.intro) <;> rfl)
    ·replace h:=zd h b3046
     try simp -implicitDefEqProofs only [go_sem,b3035,b3040,b3043,b3046]
     refine zb (fun b3049=>?_) (fun b3049=>?_)
     ·replace h:=ze h b3049
      cases h
      try simp -implicitDefEqProofs only [go_sem,b3035,b3040,b3043,b3046,b3049]
      all_goals ((repeat' apply And.intro) <;> rfl)
     ·replace h:=zd h b3049
      cases h
      try simp -implicitDefEqProofs only [go_sem,b3035,b3040,b3043,b3046,b3049]
      all_goals ((repeat' apply And.intro) <;> rfl)

set_option maxHeartbeats 4000000 in
theorem zj5 (a0:zbr) (a1:zbr) (r:Bool) (h:zc8 a0 a1=some r):CallV Tryz.prog 19 [.agg (zc7 a0),.agg (zc7 a1)] (fun v=>v = .val (.bool r)):=by
 refine CallV.ple ?_
 refine zc [] Ty.mixed Tryz.func19 rfl (by kernel_rfl) (by simp [Tryz.ntmps19]) ?_; rw [Tryz.ntmps19,Tryz.results19]
 unfold zc8 at h
 obtain ⟨r3647,hr3647,h⟩:=thn_s h
 try simp -implicitDefEqProofs only [go_sem]
 refine callG (zez a0.rules a1.rules r3647 hr3647) (by simp -implicitDefEqProofs only [go_sem] <;> rfl) (za _) (by first | exact pers | exact scal rfl) ?_
 try simp -implicitDefEqProofs only [go_sem]
 refine zj (fun b3648=>?_) (fun b3648=>?_)
 ·replace h:=ze h b3648
  obtain ⟨r3649,hr3649,h⟩:=thn_s h
  try simp -implicitDefEqProofs only [go_sem,b3648]
  refine callG (zez a0.nodes a1.nodes r3649 hr3649) (by simp -implicitDefEqProofs only [go_sem,b3648] <;> rfl) (za _) (by first | exact pers | exact scal rfl) ?_
  try simp -implicitDefEqProofs only [go_sem,b3648]
  refine zj (fun b3650=>?_) (fun b3650=>?_)
  ·replace h:=ze h b3650
   obtain ⟨r3651,hr3651,h⟩:=thn_s h
   try simp -implicitDefEqProofs only [go_sem,b3648,b3650]
   refine callG (zez a0.edges a1.edges r3651 hr3651) (by simp -implicitDefEqProofs only [go_sem,b3648,b3650] <;> rfl) (za _) (by first | exact pers | exact scal rfl) ?_
   cases h
   try simp -implicitDefEqProofs only [go_sem,b3648,b3650]
   all_goals ((repeat' apply And.intro) <;> rfl)
  ·replace h:=zd h b3650
   cases h
   try simp -implicitDefEqProofs only [go_sem,b3648,b3650]
   all_goals ((repeat' apply And.intro) <;> rfl)
 ·replace h:=zd h b3648
  cases h
  try simp -implicitDefEqProofs only [go_sem,b3648]
  all_goals ((repeat' apply And.intro) <;> rfl)
end
end Go.Proofs.YtimojjnmmlhijaaGreat
set_option maxRecDepth 20000
namespace Go.Proofs.YtimojjnmmlhijaaGreat
open Go.Abs


noncomputable section
set_option maxHeartbeats 4000000 in
theorem zrx (a0:Int) (a1:zcq) (r:Int) (h:zgx a0 a1=some r):CallV Tryz.prog 234 [.val (.int .i64 a0),.agg (zbv a1)] (fun v=>v = .val (.int .i64 r)):=by
 refine CallV.ple ?_
 refine zc [] Ty.mixed Tryz.func234 rfl (by kernel_rfl) (by simp [Tryz.ntmps234]) ?_; rw [Tryz.ntmps234,Tryz.results234]
 unfold zgx at h
 try simp -implicitDefEqProofs only [go_sem]
 refine zn (fun b140=>?_) (fun b140=>?_)
 ·replace h:=ze h b140
  obtain ⟨r144,hr144,h⟩:=thn_s h
  try simp -implicitDefEqProofs only [go_sem,b140]
  refine callG (zhg a0 a1.left r144 hr144) (by simp -implicitDefEqProofs only [go_sem,b140] <;> rfl) (za _) (by first | exact pers | exact scal rfl) ?_
  try simp -implicitDefEqProofs only [go_sem,b140]
  refine zj (fun b145=>?_) (fun b145=>?_)
  ·replace h:=ze h b145
   obtain ⟨r146,hr146,h⟩:=thn_s h
   try simp -implicitDefEqProofs only [go_sem,b140,b145]
   refine callG (zhg a0 a1.right r146 hr146) (by simp -implicitDefEqProofs only [go_sem,b140,b145] <;> rfl) (za _) (by first | exact pers | exact scal rfl) ?_
   try simp -implicitDefEqProofs only [go_sem,b140,b145]
   refine zf (fun b147=>?_) (fun b147=>?_)
   ·replace h:=ze h b147
    cases h
    try simp -implicitDefEqProofs only [go_sem,b140,b145,b147]
    all_goals ((repeat' apply And.intro) <;> rfl)
   ·replace h:=zd h b147
    cases h
    try simp -implicitDefEqProofs only [go_sem,b140,b145,b147]
    all_goals ((repeat' apply And.intro) <;> rfl)
  ·replace h:=zd h b145
   cases h
   try simp -implicitDefEqProofs only [go_sem,b140,b145]
   all_goals ((repeat' apply And.intro) <;> rfl)
 ·replace h:=zd h b140
  try simp -implicitDefEqProofs only [go_sem,b140]
  refine zf (fun b148=>?_) (fun b148=>?_)
  ·replace h:=ze h b148
   obtain ⟨r149,hr149,h⟩:=thn_s h
   try simp -implicitDefEqProofs only [go_sem,b140,b148]
   refine callG (zhg a0 a1.left r149 hr149) (by simp -implicitDefEqProofs only [go_sem,b140,b148] <;> rfl) (za _) (by first | exact pers | exact scal rfl) ?_
   try simp -implicitDefEqProofs only [go_sem,b140,b148]
   refine zj (fun b150=>?_) (fun b150=>?_)
   ·replace h:=ze h b150
    obtain ⟨r151,hr151,h⟩:=thn_s h
    try simp -implicitDefEqProofs only [go_sem,b140,b148,b150]
    refine callG (zhg a0 a1.right r151 hr151) (by simp -implicitDefEqProofs only [go_sem,b140,b148,b150] <;> rfl) (za _) (by first | exact pers | exact scal rfl) ?_
    try simp -implicitDefEqProofs only [go_sem,b140,b148,b150]
    refine zf (fun b152=>?_) (fun b152=>?_)
    ·replace h:=ze h b152
     cases h
     try simp -implicitDefEqProofs only [go_sem,b140,b148,b150,b152]
     all_goals ((repeat' apply And.intro) <;> rfl)
    ·replace h:=zd h b152
     cases h
     try simp -implicitDefEqProofs only [go_sem,b140,b148,b150,b152]
     all_goals ((repeat' apply And.intro) <;> rfl)
   ·replace h:=zd h b150
    cases h
    try simp -implicitDefEqProofs only [go_sem,b140,b148,b150]
    all_goals ((repeat' apply And.intro) <;> rfl)
  ·replace h:=zd h b148
   cases h
   try simp -implicitDefEqProofs only [go_sem,b140,b148]
   all_goals ((repeat' apply And.intro) <;> rfl)

set_option maxHeartbeats 4000000 in
theorem zcy (a0:List zi) (p1:zi→Option Bool) (k1:FuncId) (fs1 cs1:List PV) (hp1:∀ x0 r,p1 x0=some r→CallV Tryz.prog k1 (fs1++[.agg (zt x0)]++cs1) (fun v=>v = .val (.bool r))) (r:Bool) (h:zbu a0 p1=some r):CallV Tryz.prog 273 [.lst (a0.map zt),.clo (.func k1) fs1 cs1] (fun v=>v = .val (.bool r)):=by
 refine CallV.ple ?_
 refine zc [] Ty.mixed Tryz.func273 rfl (by kernel_rfl) (by simp [Tryz.ntmps273]) ?_; rw [Tryz.ntmps273,Tryz.results273]
 unfold zbu at h
 obtain ⟨r697,hr697,h⟩:=thn_s h
 try simp -implicitDefEqProofs only [go_sem]
 refine callG (zkn a0 p1 k1 fs1 cs1 hp1 r697 hr697) (by simp -implicitDefEqProofs only [go_sem] <;> rfl) (za _) (by first | exact pers | exact scal rfl) ?_
 cases h
 try simp -implicitDefEqProofs only [go_sem]
 all_goals ((repeat' apply And.intro) <;> rfl)

set_option maxHeartbeats 4000000 in
theorem zns (a0:Int) (a1:zcq) (r:Int) (h:zfg a0 a1=some r):CallV Tryz.prog 213 [.val (.int .i64 a0),.agg (zbv a1)] (fun v=>v = .val (.int .i64 r)):=by
 refine CallV.ple ?_
 refine zc [] Ty.mixed Tryz.func213 rfl (by kernel_rfl) (by simp [Tryz.ntmps213]) ?_; rw [Tryz.ntmps213,Tryz.results213]
 unfold zfg at h
 try simp -implicitDefEqProofs only [go_sem]
 refine zn (fun b2246=>?_) (fun b2246=>?_)
 ·replace h:=ze h b2246
  obtain ⟨r2251,hr2251,h⟩:=thn_s h
  try simp -implicitDefEqProofs only [go_sem,b2246]
  refine callG (zfp a0 a1.left r2251 hr2251) (by simp -implicitDefEqProofs only [go_sem,b2246] <;> rfl) (za _) (by first | exact pers | exact scal rfl) ?_
  try simp -implicitDefEqProofs only [go_sem,b2246]
  refine zf (fun b2252=>?_) (fun b2252=>?_)
  ·replace h:=ze h b2252
   obtain ⟨r2253,hr2253,h⟩:=thn_s h
   try simp -implicitDefEqProofs only [go_sem,b2246,b2252]
   refine callG (zfp a0 a1.right r2253 hr2253) (by simp -implicitDefEqProofs only [go_sem,b2246,b2252] <;> rfl) (za _) (by first | exact pers | exact scal rfl) ?_
   cases h
   try simp -implicitDefEqProofs only [go_sem,b2246,b2252]
   all_goals ((repeat' apply And.intro) <;> rfl)
  ·replace h:=zd h b2252
   cases h
   try simp -implicitDefEqProofs only [go_sem,b2246,b2252]
   all_goals ((repeat' apply And.intro) <;> rfl)
 ·replace h:=zd h b2246
  try simp -implicitDefEqProofs only [go_sem,b2246]
  refine zf (fun b2254=>?_) (fun b2254=>?_)
  ·replace h:=ze h b2254
   obtain ⟨r2255,hr2255,h⟩:=thn_s h
   try simp -implicitDefEqProofs only [go_sem,b2246,b2254]
   refine callG (zfp a0 a1.left r2255 hr2255) (by simp -implicitDefEqProofs only [go_sem,b2246,b2254] <;> rfl) (za _) (by first | exact pers | exact scal rfl) ?_
   try simp -implicitDefEqProofs only [go_sem,b2246,b2254]
   refine zf (fun b2256=>?_) (fun b2256=>?_)
   ·replace h:=ze h b2256
    obtain ⟨r2257,hr2257,h⟩:=thn_s h
    try simp -implicitDefEqProofs only [go_sem,b2246,b2254,b2256]
    refine callG (zfp a0 a1.right r2257 hr2257) (by simp -implicitDefEqProofs only [go_sem,b2246,b2254,b2256] <;> rfl) (za _) (by first | exact pers | exact scal rfl) ?_
    cases h
    try simp -implicitDefEqProofs only [go_sem,b2246,b2254,b2256]
    all_goals ((repeat' apply And.intro) <;> rfl)
   ·replace h:=zd h b2256
    cases h
    try simp -implicitDefEqProofs only [go_sem,b2246,b2254,b2256]
    all_goals ((repeat' apply And.intro) <;> rfl)
  ·replace h:=zd h b2254
   cases h
   try simp -implicitDefEqProofs only [go_sem,b2246,b2254]
   all_goals ((repeat' apply And.intro) <;> rfl)

set_option maxHeartbeats 4000000 in
theorem zk8 (a0:Graph) (a1:Graph) (a2:zbo) (r:Bool) (h:zdo a0 a1 a2=some r):CallV Tryz.prog 217 [.agg [.lst (a0.nodes.map encI),.lst (a0.edges.map encEdge)],.agg [.lst (a1.nodes.map encI),.lst (a1.edges.map encEdge)],.agg [.lst (a2.nodes.map encI),.lst (a2.edges.map encI)]] (fun v=>v = .val (.bool r)):=by
 refine CallV.ple ?_
 refine zc [] Ty.mixed Tryz.func217 rfl (by kernel_rfl) (by simp [Tryz.ntmps217]) ?_; rw [Tryz.ntmps217,Tryz.results217]
 unfold zdo at h
 obtain ⟨r3117,hr3117,h⟩:=thn_s h
 try simp -implicitDefEqProofs only [go_sem]
 refine callG (zg1 a0 a1 a2 r3117 hr3117) (by simp -implicitDefEqProofs only [go_sem] <;> rfl) (za _) (by first | exact pers | exact scal rfl) ?_
 try simp -implicitDefEqProofs only [go_sem]
 refine zj (fun b3118=>?_) (fun b3118=>?_)
 ·replace h:=ze h b3118
  obtain ⟨r3119,hr3119,h⟩:=thn_s h
  try simp -implicitDefEqProofs only [go_sem,b3118]
  refine callG (ze0 a2.nodes r3119 hr3119) (by simp -implicitDefEqProofs only [go_sem,b3118] <;> rfl) (za _) (by first | exact pers | exact scal rfl) ?_
  try simp -implicitDefEqProofs only [go_sem,b3118]
  refine zj (fun b3120=>?_) (fun b3120=>?_)
  ·replace h:=ze h b3120
   obtain ⟨r3121,hr3121,h⟩:=thn_s h
   try simp -implicitDefEqProofs only [go_sem,b3118,b3120]
   refine callG (ze0 a2.edges r3121 hr3121) (by simp -implicitDefEqProofs only [go_sem,b3118,b3120] <;> rfl) (za _) (by first | exact pers | exact scal rfl) ?_
   cases h
   try simp -implicitDefEqProofs only [go_sem,b3118,b3120]
   all_goals ((repeat' apply And.intro) <;> rfl)
  ·replace h:=zd h b3120
   cases h
   try simp -implicitDefEqProofs only [go_sem,b3118,b3120]
   all_goals ((repeat' apply And.intro) <;> rfl)
 ·replace h:=zd h b3118
  cases h
  try simp -implicitDefEqProofs only [go_sem,b3118]
  all_goals ((repeat' apply And.intro) <;> rfl)

end
end Go.Proofs.YtimojjnmmlhijaaGreat
set_option maxRecDepth 20000
namespace Go.Proofs.YtimojjnmmlhijaaGreat
open Go.Abs


noncomputable section
set_option maxHeartbeats 4000000 in
theorem zrt (a0:List zl) (a1:Int) (r:(List Int)×(List Int)×Bool) (h:zgz a0 a1=some r):CallF Tryz.prog 39 [.lst (a0.map zy),.val (.int .i64 a1)] (fun v=>v = .tup [.row 3 1 (r.1.map encI),.row 3 1 (r.2.1.map encI),.p (.val (.bool r.2.2))]):=by
 refine CallF.rle ?_
 refine zbl [18,20] Ty.mixed Tryz.func39 rfl (by kernel_rfl) (by simp [Tryz.ntmps39]) ?_; rw [Tryz.ntmps39,Tryz.results39]
 unfold zgz at h
 try simp -implicitDefEqProofs only [go_sem]
 refine zbd [.q,.q,.w,.q,.w,.q,.q] (by kernel_rfl) ?_
 obtain ⟨c997,h⟩:=chk_s h
 have k998:=eq_true (show ((a0.length:Nat):Int) * ((8:Nat):Int)≤140737488355328 by omega)
 have k999:=eq_true (show (0:Int)≤((a0.length:Nat):Int) by omega)
 have m1000:=zqz encI a0.length 0 (c:=[.val (.int .i64 0)]) rfl
 obtain ⟨⟨c1001a,c1001b⟩,h⟩:=chk_s h
 have k1002:=eq_true (show a1 * ((8:Nat):Int)≤140737488355328 by omega)
 have m1003:=zqz encI a1.toNat 0 (c:=[.val (.int .i64 0)]) rfl
 obtain ⟨r1017,hr1017,h⟩:=thn_s h
 try simp -implicitDefEqProofs only [go_sem,c997,k998,k999,m1000,c1001a,c1001b,k1002,m1003]
 refine callG (ziq a0 (fun x1018=>zf8 x1018) 69 [] [] (fun x1018 r h=>zqj x1018 r h) r1017 hr1017) (by simp -implicitDefEqProofs only [go_sem,c997,k998,k999,m1000,c1001a,c1001b,k1002,m1003] <;> rfl) (za _) (by first | exact pers | exact scal rfl) ?_
 try simp -implicitDefEqProofs only [go_sem,c997,k998,k999,m1000,c1001a,c1001b,k1002,m1003]
 refine zb (fun b1019=>?_) (fun b1019=>?_)
 ·replace h:=ze h b1019
  cases h
  try simp -implicitDefEqProofs only [go_sem,c997,k998,k999,m1000,c1001a,c1001b,k1002,m1003,b1019]
  refine ⟨by decide,_,.refl _,?_⟩
  simp -implicitDefEqProofs only [go_sem,c997,k998,k999,m1000,c1001a,c1001b,k1002,m1003,b1019] <;> ((repeat' apply And.intro) <;> rfl)
 ·replace h:=zd h b1019
  try simp -implicitDefEqProofs only [go_sem,c997,k998,k999,m1000,c1001a,c1001b,k1002,m1003,b1019]
  refine zjt (fun x:(Bool×(List Int)×(List Int))×(Nat×Nat)=>envL [(0,.p (.lst (a0.map zy))),(7,.row 18 x.2.2),(8,.row 20 x.2.1),(9,.p (.val (.bool x.1.1)))]) (fun x=>heapL [(18,.row x.2.2 3 1 (x.1.2.2.map encI)),(20,.row x.2.1 3 1 (x.1.2.1.map encI))]) (0,0) h (weakL (by simp -implicitDefEqProofs only [go_sem,c997,k998,k999,m1000,c1001a,c1001b,k1002,m1003,b1019] <;> ((repeat' apply And.intro) <;> rfl))) ?_
  intro s1141 g1141 nxts1141 Rs1141 hNs1141 h
  try dsimp only at h
  try simp -implicitDefEqProofs only [go_sem,c997,k998,k999,m1000,c1001a,c1001b,k1002,m1003,b1019]
  refine zb (fun b1263=>?_) (fun b1263=>?_)
  ·replace h:=ze h b1263
   obtain ⟨fus1305,h⟩:=chk_s h
   unfold fuel at fus1305
   try simp -implicitDefEqProofs only [go_sem,c997,k998,k999,m1000,c1001a,c1001b,k1002,m1003,b1019,b1263]
   refine z7 (fun x:(Nat×(Bool×(List Int)×(List Int)))×(Nat×Nat)=>envL [(0,.p (.lst (a0.map zy))),(7,.row 18 x.2.2),(8,.row 20 x.2.1),(9,.p (.val (.bool x.1.2.1))),(24,.p (.lst (a0.map zy))),(25,.p (.val (.int .i64 ((a0.length:Nat):Int)))),(26,.p (.val (.int .i64 ((x.1.1:Nat):Int))))]) (fun x=>heapL [(18,.row x.2.2 3 1 (x.1.2.2.2.map encI)),(20,.row x.2.1 3 1 (x.1.2.2.1.map encI))]) (g1141.1,g1141.2) h (weakL (by simp -implicitDefEqProofs only [go_sem,c997,k998,k999,m1000,c1001a,c1001b,k1002,m1003,b1019,b1263] <;> ((repeat' apply And.intro) <;> rfl))) ?_ ?_
   ·intro i1305 s1305 g1305 nxts1305 Rs1305 his1305 hNs1305 h
    have hws1305:=zk (k:=i1305) his1305 (by omega)
    try dsimp only at h
    obtain ⟨e1345,c1345,g1345,q1345,h⟩:=idx_s zy h
    obtain ⟨fus1353,h⟩:=chk_s h
    unfold fuel at fus1353
    try simp -implicitDefEqProofs only [go_sem,c997,k998,k999,m1000,c1001a,c1001b,k1002,m1003,b1019,b1263,his1305,hws1305,c1345,g1345]
    refine z7 (fun x:(Nat×(Bool×(List Int)))×(Nat)=>envL [(0,.p (.lst (a0.map zy))),(7,.row 18 x.2),(8,.row 20 g1305.1),(9,.p (.val (.bool x.1.2.1))),(10,.p (.val (.int .i64 ((i1305:Nat):Int)))),(11,.ptr 11 0),(24,.p (.lst (a0.map zy))),(25,.p (.val (.int .i64 ((a0.length:Nat):Int)))),(26,.p (.val (.int .i64 ((i1305:Nat):Int)))),(32,.p (.lst (e1345.deletes.map encI))),(33,.p (.val (.int .i64 ((e1345.deletes.length:Nat):Int)))),(34,.p (.val (.int .i64 ((x.1.1:Nat):Int))))]) (fun x=>heapL [(18,.row x.2 3 1 (x.1.2.2.map encI)),(20,.row g1305.1 3 1 (s1305.2.1.map encI)),(11,.box [.p (.lst (e1345.deletes.map encI)),.p (.lst (e1345.creates.map encI))])]) g1305.2 h (weakL (by simp -implicitDefEqProofs only [go_sem,c997,k998,k999,m1000,c1001a,c1001b,k1002,m1003,b1019,b1263,his1305,hws1305,c1345,g1345] <;> ((repeat' apply And.intro) <;> rfl))) ?_ ?_
    ·intro i1353 s1353 g1353 nxts1353 Rs1353 his1353 hNs1353 h
     have hws1353:=zk (k:=i1353) his1353 (by omega)
     try dsimp only at h
     obtain ⟨e1359,c1359,g1359,q1359,h⟩:=idx_s encI h
     try simp -implicitDefEqProofs only [go_sem,c997,k998,k999,m1000,c1001a,c1001b,k1002,m1003,b1019,b1263,his1305,hws1305,c1345,g1345,his1353,hws1353,c1359,g1359]
     refine zbd [.q,.q,.q,.q,.q,.q,.q,.q,.q] (by kernel_rfl) ?_
     obtain ⟨e1360,c1360a,c1360b,g1360,q1360,h⟩:=atZ_s encI h
     have c1360n:=zbj c1360a c1360b
     obtain ⟨e1361,c1361,g1361,q1361,h⟩:=idx_s encI h
     try simp -implicitDefEqProofs only [go_sem,c997,k998,k999,m1000,c1001a,c1001b,k1002,m1003,b1019,b1263,his1305,hws1305,c1345,g1345,his1353,hws1353,c1359,g1359,c1360a,c1360b,c1360n,g1360,c1361,g1361]
     refine zb (fun b1362=>?_) (fun b1362=>?_)
     ·replace h:=ze h b1362
      have s1363:=zok encI s1353.2 i1305 e1360 (c:=[.val (.int .i64 e1360)]) rfl
      try simp -implicitDefEqProofs only [go_sem,c997,k998,k999,m1000,c1001a,c1001b,k1002,m1003,b1019,b1263,his1305,hws1305,c1345,g1345,his1353,hws1353,c1359,g1359,c1360a,c1360b,c1360n,g1360,c1361,g1361,b1362,s1363]
      exact hNs1353 (true,(s1353.2.set i1305 e1360)) g1353 h (weakL (by simp -implicitDefEqProofs only [go_sem,c997,k998,k999,m1000,c1001a,c1001b,k1002,m1003,b1019,b1263,his1305,hws1305,c1345,g1345,his1353,hws1353,c1359,g1359,c1360a,c1360b,c1360n,g1360,c1361,g1361,b1362,s1363] <;> ((repeat' apply And.intro) <;> rfl)))
     ·replace h:=zd h b1362
      try simp -implicitDefEqProofs only [go_sem,c997,k998,k999,m1000,c1001a,c1001b,k1002,m1003,b1019,b1263,his1305,hws1305,c1345,g1345,his1353,hws1353,c1359,g1359,c1360a,c1360b,c1360n,g1360,c1361,g1361,b1362]
      exact hNs1353 (s1353.1,s1353.2) g1353 h (weakL (by simp -implicitDefEqProofs only [go_sem,c997,k998,k999,m1000,c1001a,c1001b,k1002,m1003,b1019,b1263,his1305,hws1305,c1345,g1345,his1353,hws1353,c1359,g1359,c1360a,c1360b,c1360n,g1360,c1361,g1361,b1362] <;> ((repeat' apply And.intro) <;> rfl)))
    ·intro i1353 s1353 g1353 Rs1353 hes1353 h
     have hns1353:¬ (i1353 < e1345.deletes.length):=by omega
     try dsimp only at h
     obtain ⟨fus1371,h⟩:=chk_s h
     unfold fuel at fus1371
     try simp -implicitDefEqProofs only [go_sem,c997,k998,k999,m1000,c1001a,c1001b,k1002,m1003,b1019,b1263,his1305,hws1305,c1345,g1345,hns1353]
     refine z7 (fun x:(Nat×(Bool×(List Int)))×(Nat)=>envL [(0,.p (.lst (a0.map zy))),(7,.row 18 g1353),(8,.row 20 x.2),(9,.p (.val (.bool x.1.2.1))),(10,.p (.val (.int .i64 ((i1305:Nat):Int)))),(24,.p (.lst (a0.map zy))),(25,.p (.val (.int .i64 ((a0.length:Nat):Int)))),(26,.p (.val (.int .i64 ((i1305:Nat):Int)))),(56,.p (.lst (e1345.creates.map encI))),(57,.p (.val (.int .i64 ((e1345.creates.length:Nat):Int)))),(58,.p (.val (.int .i64 ((x.1.1:Nat):Int))))]) (fun x=>heapL [(18,.row g1353 3 1 (s1353.2.map encI)),(20,.row x.2 3 1 (x.1.2.2.map encI))]) g1305.1 h (weakL (by simp -implicitDefEqProofs only [go_sem,c997,k998,k999,m1000,c1001a,c1001b,k1002,m1003,b1019,b1263,his1305,hws1305,c1345,g1345,hns1353] <;> ((repeat' apply And.intro) <;> rfl))) ?_ ?_
     ·intro i1371 s1371 g1371 nxts1371 Rs1371 his1371 hNs1371 h
      have hws1371:=zk (k:=i1371) his1371 (by omega)
      try dsimp only at h
      obtain ⟨e1377,c1377,g1377,q1377,h⟩:=idx_s encI h
      try simp -implicitDefEqProofs only [go_sem,c997,k998,k999,m1000,c1001a,c1001b,k1002,m1003,b1019,b1263,his1305,hws1305,c1345,g1345,hns1353,his1371,hws1371,c1377,g1377]
      refine zbd [.q,.q,.q,.q,.q,.q,.q,.q,.q] (by kernel_rfl) ?_
      obtain ⟨e1378,c1378a,c1378b,g1378,q1378,h⟩:=atZ_s encI h
      have c1378n:=zbj c1378a c1378b
      obtain ⟨e1379,c1379,g1379,q1379,h⟩:=idx_s encI h
      try simp -implicitDefEqProofs only [go_sem,c997,k998,k999,m1000,c1001a,c1001b,k1002,m1003,b1019,b1263,his1305,hws1305,c1345,g1345,hns1353,his1371,hws1371,c1377,g1377,c1378a,c1378b,c1378n,g1378,c1379,g1379]
      refine zb (fun b1380=>?_) (fun b1380=>?_)
      ·replace h:=ze h b1380
       have s1381:=zok encI s1371.2 e1377.toNat (IntKind.i64.wrap (e1379+1)) (c:=[.val (.int .i64 (IntKind.i64.wrap (e1379+1)))]) rfl
       try simp -implicitDefEqProofs only [go_sem,c997,k998,k999,m1000,c1001a,c1001b,k1002,m1003,b1019,b1263,his1305,hws1305,c1345,g1345,hns1353,his1371,hws1371,c1377,g1377,c1378a,c1378b,c1378n,g1378,c1379,g1379,b1380,s1381]
       exact hNs1371 (true,(s1371.2.set e1377.toNat (IntKind.i64.wrap (e1379+1)))) g1371 h (weakL (by simp -implicitDefEqProofs only [go_sem,c997,k998,k999,m1000,c1001a,c1001b,k1002,m1003,b1019,b1263,his1305,hws1305,c1345,g1345,hns1353,his1371,hws1371,c1377,g1377,c1378a,c1378b,c1378n,g1378,c1379,g1379,b1380,s1381] <;> ((repeat' apply And.intro) <;> rfl)))
      ·replace h:=zd h b1380
       try simp -implicitDefEqProofs only [go_sem,c997,k998,k999,m1000,c1001a,c1001b,k1002,m1003,b1019,b1263,his1305,hws1305,c1345,g1345,hns1353,his1371,hws1371,c1377,g1377,c1378a,c1378b,c1378n,g1378,c1379,g1379,b1380]
       exact hNs1371 (s1371.1,s1371.2) g1371 h (weakL (by simp -implicitDefEqProofs only [go_sem,c997,k998,k999,m1000,c1001a,c1001b,k1002,m1003,b1019,b1263,his1305,hws1305,c1345,g1345,hns1353,his1371,hws1371,c1377,g1377,c1378a,c1378b,c1378n,g1378,c1379,g1379,b1380] <;> ((repeat' apply And.intro) <;> rfl)))
     ·intro i1371 s1371 g1371 Rs1371 hes1371 h
      have hns1371:¬ (i1371 < e1345.creates.length):=by omega
      try dsimp only at h
      obtain ⟨e1382,c1382,g1382,q1382,h⟩:=idx_s encI h
      try simp -implicitDefEqProofs only [go_sem,c997,k998,k999,m1000,c1001a,c1001b,k1002,m1003,b1019,b1263,his1305,hws1305,c1345,g1345,hns1353,hns1371,c1382,g1382]
      refine zb (fun b1383=>?_) (fun b1383=>?_)
      ·replace h:=ze h b1383
       cases h
       try simp -implicitDefEqProofs only [go_sem,c997,k998,k999,m1000,c1001a,c1001b,k1002,m1003,b1019,b1263,his1305,hws1305,c1345,g1345,hns1353,hns1371,c1382,g1382,b1383]
       refine ⟨by decide,_,.refl _,?_⟩
       simp -implicitDefEqProofs only [go_sem,c997,k998,k999,m1000,c1001a,c1001b,k1002,m1003,b1019,b1263,his1305,hws1305,c1345,g1345,hns1353,hns1371,c1382,g1382,b1383] <;> ((repeat' apply And.intro) <;> rfl)
      ·replace h:=zd h b1383
       try simp -implicitDefEqProofs only [go_sem,c997,k998,k999,m1000,c1001a,c1001b,k1002,m1003,b1019,b1263,his1305,hws1305,c1345,g1345,hns1353,hns1371,c1382,g1382,b1383]
       exact hNs1305 (s1371.1,s1371.2,s1353.2) (g1371,g1353) h (weakL (by simp -implicitDefEqProofs only [go_sem,c997,k998,k999,m1000,c1001a,c1001b,k1002,m1003,b1019,b1263,his1305,hws1305,c1345,g1345,hns1353,hns1371,c1382,g1382,b1383] <;> ((repeat' apply And.intro) <;> rfl)))
   ·intro i1305 s1305 g1305 Rs1305 hes1305 h
    have hns1305:¬ (i1305 < a0.length):=by omega
    try dsimp only at h
    try simp -implicitDefEqProofs only [go_sem,c997,k998,k999,m1000,c1001a,c1001b,k1002,m1003,b1019,b1263,hns1305]
    exact hNs1141 (s1305.1,s1305.2.1,s1305.2.2) (g1305.1,g1305.2) h (weakL (by simp -implicitDefEqProofs only [go_sem,c997,k998,k999,m1000,c1001a,c1001b,k1002,m1003,b1019,b1263,hns1305] <;> ((repeat' apply And.intro) <;> rfl)))
  ·replace h:=zd h b1263
   try dsimp only at h
   cases h
   try simp -implicitDefEqProofs only [go_sem,c997,k998,k999,m1000,c1001a,c1001b,k1002,m1003,b1019,b1263]
   refine ⟨by decide,_,.refl _,?_⟩
   simp -implicitDefEqProofs only [go_sem,c997,k998,k999,m1000,c1001a,c1001b,k1002,m1003,b1019,b1263] <;> ((repeat' apply And.intro) <;> rfl)
end
end Go.Proofs.YtimojjnmmlhijaaGreat
set_option maxRecDepth 20000
namespace Go.Proofs.YtimojjnmmlhijaaGreat
open Go.Abs


noncomputable section
set_option maxHeartbeats 4000000 in
theorem znd (n:Nat):∀ (a0:zi) (r:Bool) (h:zbe n a0=some r),CallV Tryz.prog 245 [.agg (zt a0)] (fun v=>v = .val (.bool r)):=by
 induction n with
 | zero=>intro a0 r h; cases h
 | succ n ih =>
 intro a0 r h
 refine CallV.ple ?_
 refine zc [] Ty.mixed Tryz.func245 rfl (by kernel_rfl) (by simp [Tryz.ntmps245]) ?_; rw [Tryz.ntmps245,Tryz.results245]
 unfold zbe at h
 try simp -implicitDefEqProofs only [go_sem]
 refine zb (fun b699=>?_) (fun b699=>?_)
 ·replace h:=ze h b699
  try simp -implicitDefEqProofs only [go_sem,b699]
  refine zj (fun b700=>?_) (fun b700=>?_)
  ·replace h:=ze h b700
   obtain ⟨r701,hr701,h⟩:=thn_s h
   try simp -implicitDefEqProofs only [go_sem,b699,b700]
   refine callG (zh2 a0 r701 hr701) (by simp -implicitDefEqProofs only [go_sem,b699,b700] <;> rfl) (za _) (by first | exact pers | exact scal rfl) ?_
   try simp -implicitDefEqProofs only [go_sem,b699,b700]
   refine zj (fun b702=>?_) (fun b702=>?_)
   ·replace h:=ze h b702
    obtain ⟨r703,hr703,h⟩:=thn_s h
    try simp -implicitDefEqProofs only [go_sem,b699,b700,b702]
    refine callG (zcy a0.kids (fun x705=>zbp (fun y0=>zbe n y0) x705) 274 [] [] (fun x705 r h=>zd9 (fun y0=>zbe n y0) ih x705 r h) r703 hr703) (by simp -implicitDefEqProofs only [go_sem,b699,b700,b702] <;> rfl) (za _) (by first | exact pers | exact scal rfl) ?_
    cases h
    try simp -implicitDefEqProofs only [go_sem,b699,b700,b702]
    all_goals ((repeat' apply And.intro) <;> rfl)
   ·replace h:=zd h b702
    cases h
    try simp -implicitDefEqProofs only [go_sem,b699,b700,b702]
    all_goals ((repeat' apply And.intro) <;> rfl)
  ·replace h:=zd h b700
   cases h
   try simp -implicitDefEqProofs only [go_sem,b699,b700]
   all_goals ((repeat' apply And.intro) <;> rfl)
 ·replace h:=zd h b699
  try simp -implicitDefEqProofs only [go_sem,b699]
  refine zb (fun b706=>?_) (fun b706=>?_)
  ·replace h:=ze h b706
   try simp -implicitDefEqProofs only [go_sem,b699,b706]
   refine zj (fun b707=>?_) (fun b707=>?_)
   ·replace h:=ze h b707
    obtain ⟨r708,hr708,h⟩:=thn_s h
    try simp -implicitDefEqProofs only [go_sem,b699,b706,b707]
    refine callG (zh2 a0 r708 hr708) (by simp -implicitDefEqProofs only [go_sem,b699,b706,b707] <;> rfl) (za _) (by first | exact pers | exact scal rfl) ?_
    try simp -implicitDefEqProofs only [go_sem,b699,b706,b707]
    refine zj (fun b709=>?_) (fun b709=>?_)
    ·replace h:=ze h b709
     obtain ⟨r710,hr710,h⟩:=thn_s h
     try simp -implicitDefEqProofs only [go_sem,b699,b706,b707,b709]
     refine callG (zcy a0.kids (fun x711=>zbp (fun y0=>zbe n y0) x711) 274 [] [] (fun x711 r h=>zd9 (fun y0=>zbe n y0) ih x711 r h) r710 hr710) (by simp -implicitDefEqProofs only [go_sem,b699,b706,b707,b709] <;> rfl) (za _) (by first | exact pers | exact scal rfl) ?_
     cases h
     try simp -implicitDefEqProofs only [go_sem,b699,b706,b707,b709]
     all_goals ((repeat' apply And.intro) <;> rfl)
    ·replace h:=zd h b709
     cases h
     try simp -implicitDefEqProofs only [go_sem,b699,b706,b707,b709]
     all_goals ((repeat' apply And.intro) <;> rfl)
   ·replace h:=zd h b707
    cases h
    try simp -implicitDefEqProofs only [go_sem,b699,b706,b707]
    all_goals ((repeat' apply And.intro) <;> rfl)
  ·replace h:=zd h b706
   try simp -implicitDefEqProofs only [go_sem,b699,b706]
   refine zb (fun b712=>?_) (fun b712=>?_)
   ·replace h:=ze h b712
    try simp -implicitDefEqProofs only [go_sem,b699,b706,b712]
    refine zj (fun b713=>?_) (fun b713=>?_)
    ·replace h:=ze h b713
     obtain ⟨r714,hr714,h⟩:=thn_s h
     try simp -implicitDefEqProofs only [go_sem,b699,b706,b712,b713]
     refine callG (zh2 a0 r714 hr714) (by simp -implicitDefEqProofs only [go_sem,b699,b706,b712,b713] <;> rfl) (za _) (by first | exact pers | exact scal rfl) ?_
     try simp -implicitDefEqProofs only [go_sem,b699,b706,b712,b713]
     refine zj (fun b715=>?_) (fun b715=>?_)
     ·replace h:=ze h b715
      obtain ⟨r716,hr716,h⟩:=thn_s h
      try simp -implicitDefEqProofs only [go_sem,b699,b706,b712,b713,b715]
      refine callG (zcy a0.kids (fun x717=>zbp (fun y0=>zbe n y0) x717) 274 [] [] (fun x717 r h=>zd9 (fun y0=>zbe n y0) ih x717 r h) r716 hr716) (by simp -implicitDefEqProofs only [go_sem,b699,b706,b712,b713,b715] <;> rfl) (za _) (by first | exact pers | exact scal rfl) ?_
      cases h
      try simp -implicitDefEqProofs only [go_sem,b699,b706,b712,b713,b715]
      all_goals ((repeat' apply And.intro) <;> rfl)
     ·replace h:=zd h b715
      cases h
      try simp -implicitDefEqProofs only [go_sem,b699,b706,b712,b713,b715]
      all_goals ((repeat' apply And.intro) <;> rfl)
    ·replace h:=zd h b713
     cases h
     try simp -implicitDefEqProofs only [go_sem,b699,b706,b712,b713]
     all_goals ((repeat' apply And.intro) <;> rfl)
   ·replace h:=zd h b712
    try simp -implicitDefEqProofs only [go_sem,b699,b706,b712]
    refine zb (fun b718=>?_) (fun b718=>?_)
    ·replace h:=ze h b718
     try simp -implicitDefEqProofs only [go_sem,b699,b706,b712,b718]
     refine zj (fun b719=>?_) (fun b719=>?_)
     ·replace h:=ze h b719
      obtain ⟨r720,hr720,h⟩:=thn_s h
      try simp -implicitDefEqProofs only [go_sem,b699,b706,b712,b718,b719]
      refine callG (zh2 a0 r720 hr720) (by simp -implicitDefEqProofs only [go_sem,b699,b706,b712,b718,b719] <;> rfl) (za _) (by first | exact pers | exact scal rfl) ?_
      try simp -implicitDefEqProofs only [go_sem,b699,b706,b712,b718,b719]
      refine zj (fun b721=>?_) (fun b721=>?_)
      ·replace h:=ze h b721
       obtain ⟨r722,hr722,h⟩:=thn_s h
       try simp -implicitDefEqProofs only [go_sem,b699,b706,b712,b718,b719,b721]
       refine callG (zcy a0.kids (fun x723=>zbp (fun y0=>zbe n y0) x723) 274 [] [] (fun x723 r h=>zd9 (fun y0=>zbe n y0) ih x723 r h) r722 hr722) (by simp -implicitDefEqProofs only [go_sem,b699,b706,b712,b718,b719,b721] <;> rfl) (za _) (by first | exact pers | exact scal rfl) ?_
       cases h
       try simp -implicitDefEqProofs only [go_sem,b699,b706,b712,b718,b719,b721]
       all_goals ((repeat' apply And.intro) <;> rfl)
      ·replace h:=zd h b721
       cases h
       try simp -implicitDefEqProofs only [go_sem,b699,b706,b712,b718,b719,b721]
       all_goals ((repeat' apply And.intro) <;> rfl)
     ·replace h:=zd h b719
      cases h
      try simp -implicitDefEqProofs only [go_sem,b699,b706,b712,b718,b719]
      all_goals ((repeat' apply And.intro) <;> rfl)
    ·replace h:=zd h b718
     try simp -implicitDefEqProofs only [go_sem,b699,b706,b712,b718]
     refine zb (fun b724=>?_) (fun b724=>?_)
     ·replace h:=ze h b724
      try simp -implicitDefEqProofs only [go_sem,b699,b706,b712,b718,b724]
      refine zj (fun b725=>?_) (fun b725=>?_)
      ·replace h:=ze h b725
       obtain ⟨r726,hr726,h⟩:=thn_s h
       try simp -implicitDefEqProofs only [go_sem,b699,b706,b712,b718,b724,b725]
       refine callG (zcy a0.kids (fun x727=>zbp (fun y0=>zbe n y0) x727) 274 [] [] (fun x727 r h=>zd9 (fun y0=>zbe n y0) ih x727 r h) r726 hr726) (by simp -implicitDefEqProofs only [go_sem,b699,b706,b712,b718,b724,b725] <;> rfl) (za _) (by first | exact pers | exact scal rfl) ?_
       cases h
       try simp -implicitDefEqProofs only [go_sem,b699,b706,b712,b718,b724,b725]
       all_goals ((repeat' apply And.intro) <;> rfl)
      ·replace h:=zd h b725
       cases h
       try simp -implicitDefEqProofs only [go_sem,b699,b706,b712,b718,b724,b725]
       all_goals ((repeat' apply And.intro) <;> rfl)
     ·replace h:=zd h b724
      cases h
      try simp -implicitDefEqProofs only [go_sem,b699,b706,b712,b718,b724]
      all_goals ((repeat' apply And.intro) <;> rfl)

set_option maxHeartbeats 4000000 in
theorem zin (a0:zm) (r:(List Int)×(List Int)) (h:zcd a0=some r):CallF Tryz.prog 96 [.agg (z6 a0)] (fun v=>v = .tup [.row 3 1 (r.1.map encI),.row 3 1 (r.2.map encI)]):=by
 refine CallF.rle ?_
 refine zbl [] Ty.mixed Tryz.func96 rfl (by kernel_rfl) (by simp [Tryz.ntmps96]) ?_; rw [Tryz.ntmps96,Tryz.results96]
 unfold zcd at h
 try simp -implicitDefEqProofs only [go_sem]
 refine zfr [(0,.q),(1,.q),(2,.q),(3,.q),(4,.q),(5,.q),(6,.q),(7,.q),(9,.q),(10,.q),(11,.q),(12,.q),(13,.q),(14,.q),(15,.q),(16,.q),(8,.f),(17,.f),(18,.q),(19,.q)] (by kernel_rfl) ?_
 obtain ⟨r2992,hr2992,h⟩:=thn_s h
 try simp -implicitDefEqProofs only [go_sem]
 refine calldfG 1192 (zf6 ((a0.right.graph.nodes.length:Nat):Int) a0.into.nodes r2992 hr2992) (by simp -implicitDefEqProofs only [go_sem] <;> rfl) (za _) (by first | exact persF | exact flatF rfl | exact flatF (by simp [RV.flat,RV.flatL,PV.scalar,isVal,encI])) (by simp -implicitDefEqProofs only [go_sem]) (by simp -implicitDefEqProofs only [go_sem]) ?_
 obtain ⟨r2993,hr2993,h⟩:=thn_s h
 try simp -implicitDefEqProofs only [go_sem]
 refine calldfG 1336 (zf6 ((a0.right.graph.edges.length:Nat):Int) a0.into.edges r2993 hr2993) (by simp -implicitDefEqProofs only [go_sem] <;> rfl) (za _) (by first | exact persF | exact flatF rfl | exact flatF (by simp [RV.flat,RV.flatL,PV.scalar,isVal,encI])) (by simp -implicitDefEqProofs only [go_sem]) (by simp -implicitDefEqProofs only [go_sem]) ?_
 cases h
 try simp -implicitDefEqProofs only [go_sem]
 refine ⟨by decide,_,.refl _,?_⟩
 simp -implicitDefEqProofs only [go_sem] <;> ((repeat' apply And.intro) <;> rfl)
end
end Go.Proofs.YtimojjnmmlhijaaGreat
set_option maxRecDepth 20000
namespace Go.Proofs.YtimojjnmmlhijaaGreat
open Go.Abs


noncomputable section
set_option maxHeartbeats 4000000 in
theorem zy3 (a0:Types) (a1:zm) (a2:Int) (r:Int) (h:zjg a0 a1 a2=some r):CallV Tryz.prog 190 [.agg [.lst (a0.nodes.map encNode),.lst (a0.edges.map encEdgeT)],.agg (z6 a1),.val (.int .i64 a2)] (fun v=>v = .val (.int .i64 r)):=by
 refine CallV.ple ?_
 refine zc [] Ty.mixed Tryz.func190 rfl (by kernel_rfl) (by simp [Tryz.ntmps190]) ?_; rw [Tryz.ntmps190,Tryz.results190]
 unfold zjg at h
 obtain ⟨e192,c192a,c192b,g192,q192,h⟩:=atZ_s zbk h
 have c192n:=zbj c192a c192b
 try simp -implicitDefEqProofs only [go_sem,c192a,c192b,c192n,g192]
 refine zn (fun b193=>?_) (fun b193=>?_)
 ·replace h:=ze h b193
  cases h
  try simp -implicitDefEqProofs only [go_sem,c192a,c192b,c192n,g192,b193]
  all_goals ((repeat' apply And.intro) <;> rfl)
 ·replace h:=zd h b193
  try simp -implicitDefEqProofs only [go_sem,c192a,c192b,c192n,g192,b193]
  refine zb (fun b194=>?_) (fun b194=>?_)
  ·replace h:=ze h b194
   cases h
   try simp -implicitDefEqProofs only [go_sem,c192a,c192b,c192n,g192,b193,b194]
   all_goals ((repeat' apply And.intro) <;> rfl)
  ·replace h:=zd h b194
   try simp -implicitDefEqProofs only [go_sem,c192a,c192b,c192n,g192,b193,b194]
   refine zbd [.q,.q,.q,.q,.q,.q,.q,.q,.q,.q,.q,.q,.q,.q,.q] (by kernel_rfl) ?_
   obtain ⟨e195,c195a,c195b,g195,q195,h⟩:=atZ_s encI h
   have c195n:=zbj c195a c195b
   obtain ⟨r196,hr196,h⟩:=thn_s h
   try simp -implicitDefEqProofs only [go_sem,c192a,c192b,c192n,g192,b193,b194,c195a,c195b,c195n,g195]
   refine calldG (zpb a0 e195 r196 hr196) (by simp -implicitDefEqProofs only [go_sem,c192a,c192b,c192n,g192,b193,b194,c195a,c195b,c195n,g195] <;> rfl) (za _) (by first | exact pers | exact scal rfl) ?_
   try simp -implicitDefEqProofs only [go_sem,c192a,c192b,c192n,g192,b193,b194,c195a,c195b,c195n,g195]
   refine zn (fun b197=>?_) (fun b197=>?_)
   ·replace h:=ze h b197
    cases h
    try simp -implicitDefEqProofs only [go_sem,c192a,c192b,c192n,g192,b193,b194,c195a,c195b,c195n,g195,b197]
    all_goals ((repeat' apply And.intro) <;> rfl)
   ·replace h:=zd h b197
    try simp -implicitDefEqProofs only [go_sem,c192a,c192b,c192n,g192,b193,b194,c195a,c195b,c195n,g195,b197]
    refine zn (fun b198=>?_) (fun b198=>?_)
    ·replace h:=ze h b198
     cases h
     try simp -implicitDefEqProofs only [go_sem,c192a,c192b,c192n,g192,b193,b194,c195a,c195b,c195n,g195,b197,b198]
     all_goals ((repeat' apply And.intro) <;> rfl)
    ·replace h:=zd h b198
     try simp -implicitDefEqProofs only [go_sem,c192a,c192b,c192n,g192,b193,b194,c195a,c195b,c195n,g195,b197,b198]
     refine zn (fun b199=>?_) (fun b199=>?_)
     ·replace h:=ze h b199
      cases h
      try simp -implicitDefEqProofs only [go_sem,c192a,c192b,c192n,g192,b193,b194,c195a,c195b,c195n,g195,b197,b198,b199]
      all_goals ((repeat' apply And.intro) <;> rfl)
     ·replace h:=zd h b199
      try simp -implicitDefEqProofs only [go_sem,c192a,c192b,c192n,g192,b193,b194,c195a,c195b,c195n,g195,b197,b198,b199]
      refine zn (fun b200=>?_) (fun b200=>?_)
      ·replace h:=ze h b200
       cases h
       try simp -implicitDefEqProofs only [go_sem,c192a,c192b,c192n,g192,b193,b194,c195a,c195b,c195n,g195,b197,b198,b199,b200]
       all_goals ((repeat' apply And.intro) <;> rfl)
      ·replace h:=zd h b200
       try simp -implicitDefEqProofs only [go_sem,c192a,c192b,c192n,g192,b193,b194,c195a,c195b,c195n,g195,b197,b198,b199,b200]
       refine zn (fun b201=>?_) (fun b201=>?_)
       ·replace h:=ze h b201
        cases h
        try simp -implicitDefEqProofs only [go_sem,c192a,c192b,c192n,g192,b193,b194,c195a,c195b,c195n,g195,b197,b198,b199,b200,b201]
        all_goals ((repeat' apply And.intro) <;> rfl)
       ·replace h:=zd h b201
        try simp -implicitDefEqProofs only [go_sem,c192a,c192b,c192n,g192,b193,b194,c195a,c195b,c195n,g195,b197,b198,b199,b200,b201]
        refine zb (fun b202=>?_) (fun b202=>?_)
        ·replace h:=ze h b202
         cases h
         try simp -implicitDefEqProofs only [go_sem,c192a,c192b,c192n,g192,b193,b194,c195a,c195b,c195n,g195,b197,b198,b199,b200,b201,b202]
         all_goals ((repeat' apply And.intro) <;> rfl)
        ·replace h:=zd h b202
         obtain ⟨⟨c203a,c203b,c203c⟩,h⟩:=chk_s h
         have c203l:=eq_true (zif (n:=4) (f:=zbk) (fun _=>rfl) a1.right.slots)
         obtain ⟨r217,hr217,h⟩:=thn_s h
         try simp -implicitDefEqProofs only [go_sem,c192a,c192b,c192n,g192,b193,b194,c195a,c195b,c195n,g195,b197,b198,b199,b200,b201,b202,c203a,c203b,c203c,c203l]
         refine callG (zh6 (a1.right.slots.take a2.toNat) (fun x219=>zg4 x219 e192) 239 [] [.eptr (zbk e192) 0] (fun x219 r h=>zvv x219 e192 r h) r217 hr217) (by simp -implicitDefEqProofs only [go_sem,c192a,c192b,c192n,g192,b193,b194,c195a,c195b,c195n,g195,b197,b198,b199,b200,b201,b202,c203a,c203b,c203c,c203l] <;> rfl) (za _) (by first | exact pers | exact scal rfl) ?_
         try simp -implicitDefEqProofs only [go_sem,c192a,c192b,c192n,g192,b193,b194,c195a,c195b,c195n,g195,b197,b198,b199,b200,b201,b202,c203a,c203b,c203c,c203l]
         refine zb (fun b220=>?_) (fun b220=>?_)
         ·replace h:=ze h b220
          cases h
          try simp -implicitDefEqProofs only [go_sem,c192a,c192b,c192n,g192,b193,b194,c195a,c195b,c195n,g195,b197,b198,b199,b200,b201,b202,c203a,c203b,c203c,c203l,b220]
          all_goals ((repeat' apply And.intro) <;> rfl)
         ·replace h:=zd h b220
          cases h
          try simp -implicitDefEqProofs only [go_sem,c192a,c192b,c192n,g192,b193,b194,c195a,c195b,c195n,g195,b197,b198,b199,b200,b201,b202,c203a,c203b,c203c,c203l,b220]
          all_goals ((repeat' apply And.intro) <;> rfl)

set_option maxHeartbeats 4000000 in
theorem zld (n:Nat):∀ (a0:zi) (r:Bool) (h:zcb n a0=some r),CallV Tryz.prog 214 [.agg (zt a0)] (fun v=>v = .val (.bool r)):=by
 induction n with
 | zero=>intro a0 r h; cases h
 | succ n ih =>
 intro a0 r h
 refine CallV.ple ?_
 refine zc [] Ty.mixed Tryz.func214 rfl (by kernel_rfl) (by simp [Tryz.ntmps214]) ?_; rw [Tryz.ntmps214,Tryz.results214]
 unfold zcb at h
 obtain ⟨r3055,hr3055,h⟩:=thn_s h
 try simp -implicitDefEqProofs only [go_sem]
 refine callG (zmh a0 r3055 hr3055) (by simp -implicitDefEqProofs only [go_sem] <;> rfl) (za _) (by first | exact pers | exact scal rfl) ?_
 try simp -implicitDefEqProofs only [go_sem]
 refine zf (fun b3056=>?_) (fun b3056=>?_)
 ·replace h:=ze h b3056
  obtain ⟨fus3062,h⟩:=chk_s h
  unfold fuel at fus3062
  try simp -implicitDefEqProofs only [go_sem,b3056]
  refine z7 (fun x:(Nat×(Unit))×(Unit)=>envL [(1,.ptr 1 0),(3,.p (.val (.int .i64 ((x.1.1:Nat):Int))))]) (fun x=>heapL [(1,.box ((zt a0).map .p))]) () h (weakL (by simp -implicitDefEqProofs only [go_sem,b3056] <;> ((repeat' apply And.intro) <;> rfl))) ?_ ?_
  ·intro i3062 s3062 g3062 nxts3062 Rs3062 his3062 hNs3062 h
   have hws3062:=zk (k:=i3062) his3062 (by omega)
   try dsimp only at h
   obtain ⟨e3066,c3066,g3066,q3066,h⟩:=idx_s zt h
   obtain ⟨r3067,hr3067,h⟩:=thn_s h
   try simp -implicitDefEqProofs only [go_sem,b3056,his3062,hws3062,c3066,g3066]
   refine callG (ih e3066 r3067 hr3067) (by simp -implicitDefEqProofs only [go_sem,b3056,his3062,hws3062,c3066,g3066] <;> rfl) (za _) (by first | exact pers | exact scal rfl) ?_
   try simp -implicitDefEqProofs only [go_sem,b3056,his3062,hws3062,c3066,g3066]
   refine zf (fun b3068=>?_) (fun b3068=>?_)
   ·replace h:=ze h b3068
    try simp -implicitDefEqProofs only [go_sem,b3056,his3062,hws3062,c3066,g3066,b3068]
    exact hNs3062 () () h (weakL (by simp -implicitDefEqProofs only [go_sem,b3056,his3062,hws3062,c3066,g3066,b3068] <;> ((repeat' apply And.intro) <;> rfl)))
   ·replace h:=zd h b3068
    cases h
    try simp -implicitDefEqProofs only [go_sem,b3056,his3062,hws3062,c3066,g3066,b3068]
    all_goals ((repeat' apply And.intro) <;> rfl)
  ·intro i3062 s3062 g3062 Rs3062 hes3062 h
   have hns3062:¬ (i3062 < a0.kids.length):=by omega
   try dsimp only at h
   cases h
   try simp -implicitDefEqProofs only [go_sem,b3056,hns3062]
   all_goals ((repeat' apply And.intro) <;> rfl)
 ·replace h:=zd h b3056
  cases h
  try simp -implicitDefEqProofs only [go_sem,b3056]
  all_goals ((repeat' apply And.intro) <;> rfl)

set_option maxHeartbeats 4000000 in
theorem zlr (a0:zm) (r:(List Int)×(List Int)) (h:zdf a0=some r):CallF Tryz.prog 93 [.agg (z6 a0)] (fun v=>v = .tup [.row 3 1 (r.1.map encI),.row 3 1 (r.2.map encI)]):=by
 refine CallF.rle ?_
 refine zbl [] Ty.mixed Tryz.func93 rfl (by kernel_rfl) (by simp [Tryz.ntmps93]) ?_; rw [Tryz.ntmps93,Tryz.results93]
 unfold zdf at h
 try simp -implicitDefEqProofs only [go_sem]
 refine zfr [(0,.q),(1,.q),(2,.q),(3,.q),(4,.q),(5,.q),(6,.q),(7,.q),(9,.q),(10,.q),(11,.q),(12,.q),(13,.q),(14,.q),(15,.q),(16,.q),(8,.f),(17,.f),(18,.q),(19,.q)] (by kernel_rfl) ?_
 obtain ⟨r3166,hr3166,h⟩:=thn_s h
 try simp -implicitDefEqProofs only [go_sem]
 refine calldfG 1192 (zf6 ((a0.left.graph.nodes.length:Nat):Int) a0.keep.nodes r3166 hr3166) (by simp -implicitDefEqProofs only [go_sem] <;> rfl) (za _) (by first | exact persF | exact flatF rfl | exact flatF (by simp [RV.flat,RV.flatL,PV.scalar,isVal,encI])) (by simp -implicitDefEqProofs only [go_sem]) (by simp -implicitDefEqProofs only [go_sem]) ?_
 obtain ⟨r3167,hr3167,h⟩:=thn_s h
 try simp -implicitDefEqProofs only [go_sem]
 refine calldfG 1336 (zf6 ((a0.left.graph.edges.length:Nat):Int) a0.keep.edges r3167 hr3167) (by simp -implicitDefEqProofs only [go_sem] <;> rfl) (za _) (by first | exact persF | exact flatF rfl | exact flatF (by simp [RV.flat,RV.flatL,PV.scalar,isVal,encI])) (by simp -implicitDefEqProofs only [go_sem]) (by simp -implicitDefEqProofs only [go_sem]) ?_
 cases h
 try simp -implicitDefEqProofs only [go_sem]
 refine ⟨by decide,_,.refl _,?_⟩
 simp -implicitDefEqProofs only [go_sem] <;> ((repeat' apply And.intro) <;> rfl)
end
end Go.Proofs.YtimojjnmmlhijaaGreat
set_option maxRecDepth 20000
namespace Go.Proofs.YtimojjnmmlhijaaGreat
open Go.Abs


noncomputable section
set_option maxHeartbeats 4000000 in
theorem zqt (a0:Int) (a1:List zcq) (r:Int) (h:zgc a0 a1=some r):CallV Tryz.prog 187 [.val (.int .i64 a0),.lst (a1.map zbv)] (fun v=>v = .val (.int .i64 r)):=by
 refine CallV.ple ?_
 refine zc [] Ty.mixed Tryz.func187 rfl (by kernel_rfl) (by simp [Tryz.ntmps187]) ?_; rw [Tryz.ntmps187,Tryz.results187]
 unfold zgc at h
 try simp -implicitDefEqProofs only [go_sem]
 refine zn (fun b134=>?_) (fun b134=>?_)
 ·replace h:=ze h b134
  cases h
  try simp -implicitDefEqProofs only [go_sem,b134]
  all_goals ((repeat' apply And.intro) <;> rfl)
 ·replace h:=zd h b134
  try simp -implicitDefEqProofs only [go_sem,b134]
  refine zb (fun b135=>?_) (fun b135=>?_)
  ·replace h:=ze h b135
   cases h
   try simp -implicitDefEqProofs only [go_sem,b134,b135]
   all_goals ((repeat' apply And.intro) <;> rfl)
  ·replace h:=zd h b135
   try simp -implicitDefEqProofs only [go_sem,b134,b135]
   refine zb (fun b136=>?_) (fun b136=>?_)
   ·replace h:=ze h b136
    cases h
    try simp -implicitDefEqProofs only [go_sem,b134,b135,b136]
    all_goals ((repeat' apply And.intro) <;> rfl)
   ·replace h:=zd h b136
    obtain ⟨fus155,h⟩:=chk_s h
    unfold fuel at fus155
    try simp -implicitDefEqProofs only [go_sem,b134,b135,b136]
    refine z7 (fun x:(Nat×(Unit))×(Unit)=>envL [(0,.p (.val (.int .i64 a0))),(17,.p (.lst (a1.map zbv))),(18,.p (.val (.int .i64 ((a1.length:Nat):Int)))),(19,.p (.val (.int .i64 ((x.1.1:Nat):Int))))]) (fun x=>heapL []) () h (weakL (by simp -implicitDefEqProofs only [go_sem,b134,b135,b136] <;> ((repeat' apply And.intro) <;> rfl))) ?_ ?_
    ·intro i155 s155 g155 nxts155 Rs155 his155 hNs155 h
     have hws155:=zk (k:=i155) his155 (by omega)
     try dsimp only at h
     obtain ⟨e159,c159,g159,q159,h⟩:=idx_s zbv h
     obtain ⟨r160,hr160,h⟩:=thn_s h
     try simp -implicitDefEqProofs only [go_sem,b134,b135,b136,his155,hws155,c159,g159]
     refine callG (zrx a0 e159 r160 hr160) (by simp -implicitDefEqProofs only [go_sem,b134,b135,b136,his155,hws155,c159,g159] <;> rfl) (za _) (by first | exact pers | exact scal rfl) ?_
     try simp -implicitDefEqProofs only [go_sem,b134,b135,b136,his155,hws155,c159,g159]
     refine zf (fun b161=>?_) (fun b161=>?_)
     ·replace h:=ze h b161
      try simp -implicitDefEqProofs only [go_sem,b134,b135,b136,his155,hws155,c159,g159,b161]
      exact hNs155 () () h (weakL (by simp -implicitDefEqProofs only [go_sem,b134,b135,b136,his155,hws155,c159,g159,b161] <;> ((repeat' apply And.intro) <;> rfl)))
     ·replace h:=zd h b161
      cases h
      try simp -implicitDefEqProofs only [go_sem,b134,b135,b136,his155,hws155,c159,g159,b161]
      all_goals ((repeat' apply And.intro) <;> rfl)
    ·intro i155 s155 g155 Rs155 hes155 h
     have hns155:¬ (i155 < a1.length):=by omega
     try dsimp only at h
     cases h
     try simp -implicitDefEqProofs only [go_sem,b134,b135,b136,hns155]
     all_goals ((repeat' apply And.intro) <;> rfl)

set_option maxHeartbeats 4000000 in
theorem zwm (a0:Types) (a1:Graph) (r:Bool) (h:zi3 a0 a1=some r):CallV Tryz.prog 189 [.agg [.lst (a0.nodes.map encNode),.lst (a0.edges.map encEdgeT)],.agg [.lst (a1.nodes.map encI),.lst (a1.edges.map encEdge)]] (fun v=>v = .val (.bool r)):=by
 refine CallV.ple ?_
 refine zc [] Ty.mixed Tryz.func189 rfl (by kernel_rfl) (by simp [Tryz.ntmps189]) ?_; rw [Tryz.ntmps189,Tryz.results189]
 unfold zi3 at h
 obtain ⟨r180,hr180,h⟩:=thn_s h
 try simp -implicitDefEqProofs only [go_sem]
 refine callG (zco a1.nodes (fun x181=>zhl x181 (⟨a0.nodes,a0.edges⟩:Types)) 236 [] [.eptr [.lst (((⟨a0.nodes,a0.edges⟩:Types).nodes).map encNode),.lst (((⟨a0.nodes,a0.edges⟩:Types).edges).map encEdgeT)] 0] (fun x181 r h=>ztx x181 (⟨a0.nodes,a0.edges⟩:Types) r h) r180 hr180) (by simp -implicitDefEqProofs only [go_sem] <;> rfl) (za _) (by first | exact pers | exact scal rfl) ?_
 try simp -implicitDefEqProofs only [go_sem]
 refine zn (fun b182=>?_) (fun b182=>?_)
 ·replace h:=ze h b182
  cases h
  try simp -implicitDefEqProofs only [go_sem,b182]
  all_goals ((repeat' apply And.intro) <;> rfl)
 ·replace h:=zd h b182
  obtain ⟨r183,hr183,h⟩:=thn_s h
  try simp -implicitDefEqProofs only [go_sem,b182]
  refine callG (zh5 a1.edges (fun x184=>zhk x184 (⟨a0.nodes,a0.edges⟩:Types)) 237 [] [.eptr [.lst (((⟨a0.nodes,a0.edges⟩:Types).nodes).map encNode),.lst (((⟨a0.nodes,a0.edges⟩:Types).edges).map encEdgeT)] 0] (fun x184 r h=>ztr x184 (⟨a0.nodes,a0.edges⟩:Types) r h) r183 hr183) (by simp -implicitDefEqProofs only [go_sem,b182] <;> rfl) (za _) (by first | exact pers | exact scal rfl) ?_
  cases h
  try simp -implicitDefEqProofs only [go_sem,b182]
  all_goals ((repeat' apply And.intro) <;> rfl)

end
end Go.Proofs.YtimojjnmmlhijaaGreat
set_option maxRecDepth 20000
namespace Go.Proofs.YtimojjnmmlhijaaGreat
open Go.Abs


noncomputable section
set_option maxHeartbeats 4000000 in
theorem zgq (a0:List Int) (a1:Int) (r:Int×Bool) (h:zcn a0 a1=some r):CallV Tryz.prog 241 [.lst (a0.map encI),.val (.int .i64 a1)] (fun v=>v = .tup [.val (.int .i64 r.1),.val (.bool r.2)]):=by
 refine CallV.ple ?_
 refine zc [] Ty.mixed Tryz.func241 rfl (by kernel_rfl) (by simp [Tryz.ntmps241]) ?_; rw [Tryz.ntmps241,Tryz.results241]
 unfold zcn at h
 try simp -implicitDefEqProofs only [go_sem]
 refine zjt (fun x:(Int×Int)×(Unit)=>envL [(0,.p (.lst (a0.map encI))),(1,.p (.val (.int .i64 a1))),(6,.p (.val (.int .i64 ((a0.length:Nat):Int)))),(7,.p (.val (.int .i64 x.1.1))),(8,.p (.val (.int .i64 x.1.2)))]) (fun x=>heapL []) () h (weakL (by simp -implicitDefEqProofs only [go_sem] <;> ((repeat' apply And.intro) <;> rfl))) ?_
 intro s272 g272 nxts272 Rs272 hNs272 h
 try dsimp only at h
 try simp -implicitDefEqProofs only [go_sem]
 refine zb (fun b279=>?_) (fun b279=>?_)
 ·replace h:=ze h b279
  have z280:=show (0:Int)≤1 by decide
  have z281:=show min 1 64=1 from rfl
  obtain ⟨e282,c282a,c282b,g282,q282,h⟩:=atZ_s encI h
  have c282n:=zbj c282a c282b
  obtain ⟨r283,hr283,h⟩:=thn_s h
  try simp -implicitDefEqProofs only [go_sem,b279,z280,z281,c282a,c282b,c282n,g282]
  refine callG (ztz e282 a1 r283 hr283) (by simp -implicitDefEqProofs only [go_sem,b279,z280,z281,c282a,c282b,c282n,g282] <;> rfl) (za _) (by first | exact pers | exact scal rfl) ?_
  try simp -implicitDefEqProofs only [go_sem,b279,z280,z281,c282a,c282b,c282n,g282]
  refine zb (fun b284=>?_) (fun b284=>?_)
  ·replace h:=ze h b284
   try simp -implicitDefEqProofs only [go_sem,b279,z280,z281,c282a,c282b,c282n,g282,b284]
   exact hNs272 ((IntKind.i64.wrap ((IntKind.i64.wrap ((IntKind.u64.wrap (IntKind.i64.wrap (s272.1+s272.2))).fdiv (2 ^ 1)))+1)),s272.2) () h (weakL (by simp -implicitDefEqProofs only [go_sem,b279,z280,z281,c282a,c282b,c282n,g282,b284] <;> ((repeat' apply And.intro) <;> rfl)))
  ·replace h:=zd h b284
   try simp -implicitDefEqProofs only [go_sem,b279,z280,z281,c282a,c282b,c282n,g282,b284]
   exact hNs272 (s272.1,(IntKind.i64.wrap ((IntKind.u64.wrap (IntKind.i64.wrap (s272.1+s272.2))).fdiv (2 ^ 1)))) () h (weakL (by simp -implicitDefEqProofs only [go_sem,b279,z280,z281,c282a,c282b,c282n,g282,b284] <;> ((repeat' apply And.intro) <;> rfl)))
 ·replace h:=zd h b279
  try dsimp only at h
  try simp -implicitDefEqProofs only [go_sem,b279]
  refine zj (fun b285=>?_) (fun b285=>?_)
  ·replace h:=ze h b285
   obtain ⟨e286,c286a,c286b,g286,q286,h⟩:=atZ_s encI h
   have c286n:=zbj c286a c286b
   try simp -implicitDefEqProofs only [go_sem,b279,b285,c286a,c286b,c286n,g286]
   refine zn (fun b287=>?_) (fun b287=>?_)
   ·replace h:=ze h b287
    cases h
    try simp -implicitDefEqProofs only [go_sem,b279,b285,c286a,c286b,c286n,g286,b287]
    all_goals ((repeat' apply And.intro) <;> rfl)
   ·replace h:=zd h b287
    obtain ⟨r288,hr288,h⟩:=thn_s h
    try simp -implicitDefEqProofs only [go_sem,b279,b285,c286a,c286b,c286n,g286,b287]
    refine callG (zk5 e286 r288 hr288) (by simp -implicitDefEqProofs only [go_sem,b279,b285,c286a,c286b,c286n,g286,b287] <;> rfl) (za _) (by first | exact pers | exact scal rfl) ?_
    try simp -implicitDefEqProofs only [go_sem,b279,b285,c286a,c286b,c286n,g286,b287]
    refine zj (fun b289=>?_) (fun b289=>?_)
    ·replace h:=ze h b289
     obtain ⟨r290,hr290,h⟩:=thn_s h
     try simp -implicitDefEqProofs only [go_sem,b279,b285,c286a,c286b,c286n,g286,b287,b289]
     refine callG (zk5 a1 r290 hr290) (by simp -implicitDefEqProofs only [go_sem,b279,b285,c286a,c286b,c286n,g286,b287,b289] <;> rfl) (za _) (by first | exact pers | exact scal rfl) ?_
     cases h
     try simp -implicitDefEqProofs only [go_sem,b279,b285,c286a,c286b,c286n,g286,b287,b289]
     all_goals ((repeat' apply And.intro) <;> rfl)
    ·replace h:=zd h b289
     cases h
     try simp -implicitDefEqProofs only [go_sem,b279,b285,c286a,c286b,c286n,g286,b287,b289]
     all_goals ((repeat' apply And.intro) <;> rfl)
  ·replace h:=zd h b285
   cases h
   try simp -implicitDefEqProofs only [go_sem,b279,b285]
   all_goals ((repeat' apply And.intro) <;> rfl)

set_option maxHeartbeats 4000000 in
theorem zt7 (a0:Types) (a1:Graph) (a2:List Int) (a3:List Int) (r:Bool) (h:zgu a0 a1 a2 a3=some r):CallV Tryz.prog 152 [.agg [.lst (a0.nodes.map encNode),.lst (a0.edges.map encEdgeT)],.agg [.lst (a1.nodes.map encI),.lst (a1.edges.map encEdge)],.lst (a2.map encI),.lst (a3.map encI)] (fun v=>v = .val (.bool r)):=by
 refine CallV.ple ?_
 refine zc [] Ty.mixed Tryz.func152 rfl (by kernel_rfl) (by simp [Tryz.ntmps152]) ?_; rw [Tryz.ntmps152,Tryz.results152]
 unfold zgu at h
 obtain ⟨r665,hr665,h⟩:=thn_s h
 try simp -implicitDefEqProofs only [go_sem]
 refine callG (zco a2 (fun x668=>zf4 x668 (⟨a0.nodes,a0.edges⟩:Types) (⟨a1.nodes,a1.edges⟩:Graph)) 194 [] [.eptr [.lst (((⟨a0.nodes,a0.edges⟩:Types).nodes).map encNode),.lst (((⟨a0.nodes,a0.edges⟩:Types).edges).map encEdgeT)] 0,.eptr [.lst (((⟨a1.nodes,a1.edges⟩:Graph).nodes).map encI),.lst (((⟨a1.nodes,a1.edges⟩:Graph).edges).map encEdge)] 0] (fun x668 r h=>zr5 x668 (⟨a0.nodes,a0.edges⟩:Types) (⟨a1.nodes,a1.edges⟩:Graph) r h) r665 hr665) (by simp -implicitDefEqProofs only [go_sem] <;> rfl) (za _) (by first | exact pers | exact scal rfl) ?_
 try simp -implicitDefEqProofs only [go_sem]
 refine zn (fun b669=>?_) (fun b669=>?_)
 ·replace h:=ze h b669
  cases h
  try simp -implicitDefEqProofs only [go_sem,b669]
  all_goals ((repeat' apply And.intro) <;> rfl)
 ·replace h:=zd h b669
  obtain ⟨r670,hr670,h⟩:=thn_s h
  try simp -implicitDefEqProofs only [go_sem,b669]
  refine callG (zco a3 (fun x675=>zf5 x675 a1 (⟨a0.nodes,a0.edges⟩:Types)) 195 [] [.eptr [.lst (a1.nodes.map encI),.lst (a1.edges.map encEdge)] 0,.eptr [.lst (((⟨a0.nodes,a0.edges⟩:Types).nodes).map encNode),.lst (((⟨a0.nodes,a0.edges⟩:Types).edges).map encEdgeT)] 0] (fun x675 r h=>zr4 x675 a1 (⟨a0.nodes,a0.edges⟩:Types) r h) r670 hr670) (by simp -implicitDefEqProofs only [go_sem,b669] <;> rfl) (za _) (by first | exact pers | exact scal rfl) ?_
  cases h
  try simp -implicitDefEqProofs only [go_sem,b669]
  all_goals ((repeat' apply And.intro) <;> rfl)

set_option maxHeartbeats 4000000 in
theorem zmb (a0:Int) (a1:List zcq) (r:Int) (h:zei a0 a1=some r):CallV Tryz.prog 164 [.val (.int .i64 a0),.lst (a1.map zbv)] (fun v=>v = .val (.int .i64 r)):=by
 refine CallV.ple ?_
 refine zc [] Ty.mixed Tryz.func164 rfl (by kernel_rfl) (by simp [Tryz.ntmps164]) ?_; rw [Tryz.ntmps164,Tryz.results164]
 unfold zei at h
 try simp -implicitDefEqProofs only [go_sem]
 refine zn (fun b2240=>?_) (fun b2240=>?_)
 ·replace h:=ze h b2240
  cases h
  try simp -implicitDefEqProofs only [go_sem,b2240]
  all_goals ((repeat' apply And.intro) <;> rfl)
 ·replace h:=zd h b2240
  try simp -implicitDefEqProofs only [go_sem,b2240]
  refine zb (fun b2241=>?_) (fun b2241=>?_)
  ·replace h:=ze h b2241
   cases h
   try simp -implicitDefEqProofs only [go_sem,b2240,b2241]
   all_goals ((repeat' apply And.intro) <;> rfl)
  ·replace h:=zd h b2241
   try simp -implicitDefEqProofs only [go_sem,b2240,b2241]
   refine zb (fun b2242=>?_) (fun b2242=>?_)
   ·replace h:=ze h b2242
    cases h
    try simp -implicitDefEqProofs only [go_sem,b2240,b2241,b2242]
    all_goals ((repeat' apply And.intro) <;> rfl)
   ·replace h:=zd h b2242
    obtain ⟨fus2260,h⟩:=chk_s h
    unfold fuel at fus2260
    try simp -implicitDefEqProofs only [go_sem,b2240,b2241,b2242]
    refine z7 (fun x:(Nat×(Unit))×(Unit)=>envL [(0,.p (.val (.int .i64 a0))),(1,.p (.lst (a1.map zbv))),(5,.p (.val (.int .i64 ((x.1.1:Nat):Int))))]) (fun x=>heapL []) () h (weakL (by simp -implicitDefEqProofs only [go_sem,b2240,b2241,b2242] <;> ((repeat' apply And.intro) <;> rfl))) ?_ ?_
    ·intro i2260 s2260 g2260 nxts2260 Rs2260 his2260 hNs2260 h
     have hws2260:=zk (k:=i2260) his2260 (by omega)
     try dsimp only at h
     obtain ⟨e2264,c2264,g2264,q2264,h⟩:=idx_s zbv h
     obtain ⟨r2265,hr2265,h⟩:=thn_s h
     try simp -implicitDefEqProofs only [go_sem,b2240,b2241,b2242,his2260,hws2260,c2264,g2264]
     refine callG (zns a0 e2264 r2265 hr2265) (by simp -implicitDefEqProofs only [go_sem,b2240,b2241,b2242,his2260,hws2260,c2264,g2264] <;> rfl) (za _) (by first | exact pers | exact scal rfl) ?_
     try simp -implicitDefEqProofs only [go_sem,b2240,b2241,b2242,his2260,hws2260,c2264,g2264]
     refine zf (fun b2266=>?_) (fun b2266=>?_)
     ·replace h:=ze h b2266
      try simp -implicitDefEqProofs only [go_sem,b2240,b2241,b2242,his2260,hws2260,c2264,g2264,b2266]
      exact hNs2260 () () h (weakL (by simp -implicitDefEqProofs only [go_sem,b2240,b2241,b2242,his2260,hws2260,c2264,g2264,b2266] <;> ((repeat' apply And.intro) <;> rfl)))
     ·replace h:=zd h b2266
      cases h
      try simp -implicitDefEqProofs only [go_sem,b2240,b2241,b2242,his2260,hws2260,c2264,g2264,b2266]
      all_goals ((repeat' apply And.intro) <;> rfl)
    ·intro i2260 s2260 g2260 Rs2260 hes2260 h
     have hns2260:¬ (i2260 < a1.length):=by omega
     try dsimp only at h
     cases h
     try simp -implicitDefEqProofs only [go_sem,b2240,b2241,b2242,hns2260]
     all_goals ((repeat' apply And.intro) <;> rfl)

set_option maxHeartbeats 4000000 in
theorem ziy (a0:List Int) (a1:Int) (r:Bool) (h:zee a0 a1=some r):CallV Tryz.prog 43 [.lst (a0.map encI),.val (.int .i64 a1)] (fun v=>v = .val (.bool r)):=by
 refine CallV.ple ?_
 refine zc [] Ty.mixed Tryz.func43 rfl (by kernel_rfl) (by simp [Tryz.ntmps43]) ?_; rw [Tryz.ntmps43,Tryz.results43]
 unfold zee at h
 try simp -implicitDefEqProofs only [go_sem]
 refine zj (fun b3657=>?_) (fun b3657=>?_)
 ·replace h:=ze h b3657
  obtain ⟨r3658,hr3658,h⟩:=thn_s h
  try simp -implicitDefEqProofs only [go_sem,b3657]
  refine callG (zco a0 (fun x3660=>zeh x3660) 72 [] [] (fun x3660 r h=>zof x3660 r h) r3658 hr3658) (by simp -implicitDefEqProofs only [go_sem,b3657] <;> rfl) (za _) (by first | exact pers | exact scal rfl) ?_
  cases h
  try simp -implicitDefEqProofs only [go_sem,b3657]
  all_goals ((repeat' apply And.intro) <;> rfl)
 ·replace h:=zd h b3657
  cases h
  try simp -implicitDefEqProofs only [go_sem,b3657]
  all_goals ((repeat' apply And.intro) <;> rfl)
end
end Go.Proofs.YtimojjnmmlhijaaGreat
set_option maxRecDepth 20000
namespace Go.Proofs.YtimojjnmmlhijaaGreat
open Go.Abs


noncomputable section
set_option maxHeartbeats 4000000 in
theorem zjj (a0:List Int) (a1:Int) (r:(List Int)) (h:zfs a0 a1=some r):CallF Tryz.prog 154 [.lst (a0.map encI),.val (.int .i64 a1)] (fun v=>v = .row 3 1 (r.map encI)):=by
 refine CallF.rle ?_
 refine zbl [18] Ty.mixed Tryz.func154 rfl (by kernel_rfl) (by simp [Tryz.ntmps154]) ?_; rw [Tryz.ntmps154,Tryz.results154]
 unfold zfs at h
 obtain ⟨fus647,h⟩:=chk_s h
 unfold fuel at fus647
 try simp -implicitDefEqProofs only [go_sem]
 refine z7 (fun x:(Nat×((List Int)))×(Nat)=>envL [(0,.p (.lst (a0.map encI))),(5,.row 2645 x.2),(7,.p (.val (.int .i64 a1))),(8,.p (.val (.int .i64 ((x.1.1:Nat):Int))))]) (fun x=>heapL [(2645,.row x.2 3 1 (x.1.2.map encI))]) 0 h (by refine Weak.trans (zha 5 2645 3 1 rfl rfl (by decide)) ?_; exact (weakL (by simp -implicitDefEqProofs only [go_sem] <;> ((repeat' apply And.intro) <;> rfl)))) ?_ ?_
 ·intro i647 s647 g647 nxts647 Rs647 his647 hNs647 h
  have hws647:=zk (k:=i647) his647 (by omega)
  have hjs647:((i647:Nat):Int) < a1:=by omega
  try dsimp only at h
  obtain ⟨r653,hr653,h⟩:=thn_s h
  try simp -implicitDefEqProofs only [go_sem,his647,hws647,hjs647]
  refine callG (zn8 a0 ((i647:Nat):Int) r653 hr653) (by simp -implicitDefEqProofs only [go_sem,his647,hws647,hjs647] <;> rfl) (za _) (by first | exact pers | exact scal rfl) ?_
  try simp -implicitDefEqProofs only [go_sem,his647,hws647,hjs647]
  refine zf (fun b654=>?_) (fun b654=>?_)
  ·replace h:=ze h b654
   try simp -implicitDefEqProofs only [go_sem,his647,hws647,hjs647,b654]
   exact hNs647 s647 g647 h (weakL (by simp -implicitDefEqProofs only [go_sem,his647,hws647,hjs647,b654] <;> ((repeat' apply And.intro) <;> rfl)))
  ·replace h:=zd h b654
   obtain ⟨c655,h⟩:=chk_s h
   have k656:=eq_true (show (s647.length+1) * 8≤140737488355328 by omega)
   have a657:=ze2 encI s647 [((i647:Nat):Int)] (c:=[[.val (.int .i64 ((i647:Nat):Int))]]) rfl
   try simp -implicitDefEqProofs only [go_sem,his647,hws647,hjs647,b654,c655,k656,a657]
   exact hNs647 (s647++[((i647:Nat):Int)]) (g647+1) h (weakL (by simp -implicitDefEqProofs only [go_sem,his647,hws647,hjs647,b654,c655,k656,a657] <;> ((repeat' apply And.intro) <;> rfl)))
 ·intro i647 s647 g647 Rs647 hes647 h
  have hns647:¬ (((i647:Nat):Int) < a1):=by omega
  try dsimp only at h
  cases h
  try simp -implicitDefEqProofs only [go_sem,hns647]
  refine ⟨by decide,_,.refl _,?_⟩
  simp -implicitDefEqProofs only [go_sem,hns647] <;> ((repeat' apply And.intro) <;> rfl)

set_option maxHeartbeats 4000000 in
theorem znh (n:Nat):∀ (a0:zi) (a1:Int) (r:Int) (h:zdy n a0 a1=some r),CallV Tryz.prog 81 [.agg (zt a0),.val (.int .i64 a1)] (fun v=>v = .val (.int .i64 r)):=by
 induction n with
 | zero=>intro a0 a1 r h; cases h
 | succ n ih =>
 intro a0 a1 r h
 refine CallV.ple ?_
 refine zc [] Ty.mixed Tryz.func81 rfl (by kernel_rfl) (by simp [Tryz.ntmps81]) ?_; rw [Tryz.ntmps81,Tryz.results81]
 unfold zdy at h
 obtain ⟨r2128,hr2128,h⟩:=thn_s h
 try simp -implicitDefEqProofs only [go_sem]
 refine callG (zhp a0.pattern r2128 hr2128) (by simp -implicitDefEqProofs only [go_sem] <;> rfl) (za _) (by first | exact pers | exact scal rfl) ?_
 try simp -implicitDefEqProofs only [go_sem]
 refine zj (fun b2129=>?_) (fun b2129=>?_)
 ·replace h:=ze h b2129
  obtain ⟨r2130,hr2130,h⟩:=thn_s h
  try simp -implicitDefEqProofs only [go_sem,b2129]
  refine callG (zjy a0.map 140 r2130 hr2130) (by simp -implicitDefEqProofs only [go_sem,b2129] <;> rfl) (za _) (by first | exact pers | exact scal rfl) ?_
  try simp -implicitDefEqProofs only [go_sem,b2129]
  refine zf (fun b2131=>?_) (fun b2131=>?_)
  ·replace h:=ze h b2131
   try simp -implicitDefEqProofs only [go_sem,b2129,b2131]
   refine zjt (fun x:(Int×Int)×(Unit)=>envL [(1,.p (.val (.int .i64 x.1.1))),(2,.ptr 2 0),(5,.p (.val (.int .i64 x.1.2)))]) (fun x=>heapL [(2,.box ((zt a0).map .p))]) () h (weakL (by simp -implicitDefEqProofs only [go_sem,b2129,b2131] <;> ((repeat' apply And.intro) <;> rfl))) ?_
   intro s2138 g2138 nxts2138 Rs2138 hNs2138 h
   try dsimp only at h
   try simp -implicitDefEqProofs only [go_sem,b2129,b2131]
   refine zj (fun b2144=>?_) (fun b2144=>?_)
   ·replace h:=ze h b2144
    try simp -implicitDefEqProofs only [go_sem,b2129,b2131,b2144]
    refine zb (fun b2145=>?_) (fun b2145=>?_)
    ·replace h:=ze h b2145
     obtain ⟨e2146,c2146a,c2146b,g2146,q2146,h⟩:=atZ_s zt h
     have c2146n:=zbj c2146a c2146b
     obtain ⟨r2147,hr2147,h⟩:=thn_s h
     try simp -implicitDefEqProofs only [go_sem,b2129,b2131,b2144,b2145,c2146a,c2146b,c2146n,g2146]
     refine callG (ih e2146 s2138.1 r2147 hr2147) (by simp -implicitDefEqProofs only [go_sem,b2129,b2131,b2144,b2145,c2146a,c2146b,c2146n,g2146] <;> rfl) (za _) (by first | exact pers | exact scal rfl) ?_
     try simp -implicitDefEqProofs only [go_sem,b2129,b2131,b2144,b2145,c2146a,c2146b,c2146n,g2146]
     exact hNs2138 (r2147,(IntKind.i64.wrap (s2138.2+1))) () h (weakL (by simp -implicitDefEqProofs only [go_sem,b2129,b2131,b2144,b2145,c2146a,c2146b,c2146n,g2146] <;> ((repeat' apply And.intro) <;> rfl)))
    ·replace h:=zd h b2145
     try dsimp only at h
     cases h
     try simp -implicitDefEqProofs only [go_sem,b2129,b2131,b2144,b2145]
     all_goals ((repeat' apply And.intro) <;> rfl)
   ·replace h:=zd h b2144
    try dsimp only at h
    cases h
    try simp -implicitDefEqProofs only [go_sem,b2129,b2131,b2144]
    all_goals ((repeat' apply And.intro) <;> rfl)
  ·replace h:=zd h b2131
   cases h
   try simp -implicitDefEqProofs only [go_sem,b2129,b2131]
   all_goals ((repeat' apply And.intro) <;> rfl)
 ·replace h:=zd h b2129
  cases h
  try simp -implicitDefEqProofs only [go_sem,b2129]
  all_goals ((repeat' apply And.intro) <;> rfl)

set_option maxHeartbeats 4000000 in
theorem zi8 (a0:Graph) (a1:zcr) (r:Int) (h:zcc a0 a1=some r):CallV Tryz.prog 136 [.agg [.lst (a0.nodes.map encI),.lst (a0.edges.map encEdge)],.agg [.lst (a1.nodes.map encI),.lst (a1.edges.map encI)]] (fun v=>v = .val (.int .i64 r)):=by
 refine CallV.ple ?_
 refine zc [] Ty.mixed Tryz.func136 rfl (by kernel_rfl) (by simp [Tryz.ntmps136]) ?_; rw [Tryz.ntmps136,Tryz.results136]
 unfold zcc at h
 obtain ⟨r2330,hr2330,h⟩:=thn_s h
 try simp -implicitDefEqProofs only [go_sem]
 refine callG (zeq a0 r2330 hr2330) (by simp -implicitDefEqProofs only [go_sem] <;> rfl) (za _) (by first | exact pers | exact scal rfl) ?_
 try simp -implicitDefEqProofs only [go_sem]
 refine zf (fun b2331=>?_) (fun b2331=>?_)
 ·replace h:=ze h b2331
  obtain ⟨r2387,hr2387,h⟩:=thn_s h
  try simp -implicitDefEqProofs only [go_sem,b2331]
  refine callG (zmo (⟨a0.nodes,a0.edges⟩:Graph) (⟨a1.nodes,a1.edges⟩:zcr) r2387 hr2387) (by simp -implicitDefEqProofs only [go_sem,b2331] <;> rfl) (za _) (by first | exact pers | exact scal rfl) ?_
  cases h
  try simp -implicitDefEqProofs only [go_sem,b2331]
  all_goals ((repeat' apply And.intro) <;> rfl)
 ·replace h:=zd h b2331
  cases h
  try simp -implicitDefEqProofs only [go_sem,b2331]
  all_goals ((repeat' apply And.intro) <;> rfl)

set_option maxHeartbeats 4000000 in
theorem zmm (a0:Types) (a1:Int) (r:(List Int)×Int) (h:zem a0 a1=some r):CallF Tryz.prog 65 [.agg [.lst (a0.nodes.map encNode),.lst (a0.edges.map encEdgeT)],.val (.int .i64 a1)] (fun v=>v = .tup [.row 3 1 (r.1.map encI),.p (.val (.int .i64 r.2))]):=by
 refine CallF.rle ?_
 refine zbl [30] Ty.mixed Tryz.func65 rfl (by kernel_rfl) (by simp [Tryz.ntmps65]) ?_; rw [Tryz.ntmps65,Tryz.results65]
 unfold zem at h
 obtain ⟨r3200,hr3200,h⟩:=thn_s h
 try simp -implicitDefEqProofs only [go_sem]
 refine callG (zmn a0 a1 a1 r3200 hr3200) (by simp -implicitDefEqProofs only [go_sem] <;> rfl) (za _) (by first | exact pers | exact scal rfl) ?_
 try simp -implicitDefEqProofs only [go_sem]
 refine zf (fun b3201=>?_) (fun b3201=>?_)
 ·replace h:=ze h b3201
  obtain ⟨fus3209,h⟩:=chk_s h
  unfold fuel at fus3209
  try simp -implicitDefEqProofs only [go_sem,b3201]
  refine z7 (fun x:(Nat×((List Int)))×(Nat)=>envL [(1,.p (.val (.int .i64 a1))),(2,.ptr 2 0),(7,.row 5207 x.2),(8,.p (.val (.int .i64 ((x.1.1:Nat):Int))))]) (fun x=>heapL [(2,.box [.p (.lst (a0.nodes.map encNode)),.p (.lst (a0.edges.map encEdgeT))]),(5207,.row x.2 3 1 (x.1.2.map encI))]) 0 h (by refine Weak.trans (zha 7 5207 3 1 rfl rfl (by decide)) ?_; exact (weakL (by simp -implicitDefEqProofs only [go_sem,b3201] <;> ((repeat' apply And.intro) <;> rfl)))) ?_ ?_
  ·intro i3209 s3209 g3209 nxts3209 Rs3209 his3209 hNs3209 h
   have hws3209:=zk (k:=i3209) his3209 (by omega)
   try dsimp only at h
   obtain ⟨r3215,hr3215,h⟩:=thn_s h
   try simp -implicitDefEqProofs only [go_sem,b3201,his3209,hws3209]
   refine callG (zl9 fuel a0 ((i3209:Nat):Int) a1 r3215 hr3215) (by simp -implicitDefEqProofs only [go_sem,b3201,his3209,hws3209] <;> rfl) (za _) (by first | exact pers | exact scal rfl) ?_
   try simp -implicitDefEqProofs only [go_sem,b3201,his3209,hws3209]
   refine zb (fun b3216=>?_) (fun b3216=>?_)
   ·replace h:=ze h b3216
    obtain ⟨c3217,h⟩:=chk_s h
    have k3218:=eq_true (show (s3209.length+1) * 8≤140737488355328 by omega)
    have a3219:=ze2 encI s3209 [((i3209:Nat):Int)] (c:=[[.val (.int .i64 ((i3209:Nat):Int))]]) rfl
    try simp -implicitDefEqProofs only [go_sem,b3201,his3209,hws3209,b3216,c3217,k3218,a3219]
    exact hNs3209 (s3209++[((i3209:Nat):Int)]) (g3209+1) h (weakL (by simp -implicitDefEqProofs only [go_sem,b3201,his3209,hws3209,b3216,c3217,k3218,a3219] <;> ((repeat' apply And.intro) <;> rfl)))
   ·replace h:=zd h b3216
    try simp -implicitDefEqProofs only [go_sem,b3201,his3209,hws3209,b3216]
    exact hNs3209 s3209 g3209 h (weakL (by simp -implicitDefEqProofs only [go_sem,b3201,his3209,hws3209,b3216] <;> ((repeat' apply And.intro) <;> rfl)))
  ·intro i3209 s3209 g3209 Rs3209 hes3209 h
   have hns3209:¬ (i3209 < a0.nodes.length):=by omega
   try dsimp only at h
   cases h
   try simp -implicitDefEqProofs only [go_sem,b3201,hns3209]
   refine ⟨by decide,_,.refl _,?_⟩
   simp -implicitDefEqProofs only [go_sem,b3201,hns3209] <;> ((repeat' apply And.intro) <;> rfl)
 ·replace h:=zd h b3201
  cases h
  try simp -implicitDefEqProofs only [go_sem,b3201]
  refine ⟨by decide,_,.refl _,?_⟩
  simp -implicitDefEqProofs only [go_sem,b3201] <;> ((repeat' apply And.intro) <;> rfl)
end
end Go.Proofs.YtimojjnmmlhijaaGreat
set_option maxRecDepth 20000
namespace Go.Proofs.YtimojjnmmlhijaaGreat
open Go.Abs


noncomputable section
set_option maxHeartbeats 4000000 in
theorem zjd (a0:Types) (a1:zx) (r:Int) (h:zer a0 a1=some r):CallV Tryz.prog 149 [.agg [.lst (a0.nodes.map encNode),.lst (a0.edges.map encEdgeT)],.agg (zbq a1)] (fun v=>v = .val (.int .i64 r)):=by
 refine CallV.ple ?_
 refine zc [56] Ty.mixed Tryz.func149 rfl (by kernel_rfl) (by simp [Tryz.ntmps149]) ?_; rw [Tryz.ntmps149,Tryz.results149]
 unfold zer at h
 obtain ⟨r77,hr77,h⟩:=thn_s h
 try simp -implicitDefEqProofs only [go_sem]
 refine callG (zlf a0 r77 hr77) (by simp -implicitDefEqProofs only [go_sem] <;> rfl) (za _) (by first | exact pers | exact scal rfl) ?_
 try simp -implicitDefEqProofs only [go_sem]
 refine zf (fun b78=>?_) (fun b78=>?_)
 ·replace h:=ze h b78
  obtain ⟨r79,hr79,h⟩:=thn_s h
  try simp -implicitDefEqProofs only [go_sem,b78]
  refine callG (zh8 a1.graph r79 hr79) (by simp -implicitDefEqProofs only [go_sem,b78] <;> rfl) (za _) (by first | exact pers | exact scal rfl) ?_
  try simp -implicitDefEqProofs only [go_sem,b78]
  refine zf (fun b80=>?_) (fun b80=>?_)
  ·replace h:=ze h b80
   obtain ⟨r81,hr81,h⟩:=thn_s h
   try simp -implicitDefEqProofs only [go_sem,b78,b80]
   refine callG (zco a1.graph.nodes (fun x82=>zfx x82 a0) 182 [] [.eptr [.lst (a0.nodes.map encNode),.lst (a0.edges.map encEdgeT)] 0] (fun x82 r h=>zps x82 a0 r h) r81 hr81) (by simp -implicitDefEqProofs only [go_sem,b78,b80] <;> rfl) (za _) (by first | exact pers | exact scal rfl) ?_
   try simp -implicitDefEqProofs only [go_sem,b78,b80]
   refine zn (fun b83=>?_) (fun b83=>?_)
   ·replace h:=ze h b83
    cases h
    try simp -implicitDefEqProofs only [go_sem,b78,b80,b83]
    all_goals ((repeat' apply And.intro) <;> rfl)
   ·replace h:=zd h b83
    obtain ⟨r84,hr84,h⟩:=thn_s h
    try simp -implicitDefEqProofs only [go_sem,b78,b80,b83]
    refine callG (zh5 a1.graph.edges (fun x85=>zfw x85 a0) 184 [] [.eptr [.lst (a0.nodes.map encNode),.lst (a0.edges.map encEdgeT)] 0] (fun x85 r h=>zpl x85 a0 r h) r84 hr84) (by simp -implicitDefEqProofs only [go_sem,b78,b80,b83] <;> rfl) (za _) (by first | exact pers | exact scal rfl) ?_
    try simp -implicitDefEqProofs only [go_sem,b78,b80,b83]
    refine zb (fun b86=>?_) (fun b86=>?_)
    ·replace h:=ze h b86
     cases h
     try simp -implicitDefEqProofs only [go_sem,b78,b80,b83,b86]
     all_goals ((repeat' apply And.intro) <;> rfl)
    ·replace h:=zd h b86
     obtain ⟨r87,hr87,h⟩:=thn_s h
     try simp -implicitDefEqProofs only [go_sem,b78,b80,b83,b86]
     refine callG (zga a1.vars 0 12 r87 hr87) (by simp -implicitDefEqProofs only [go_sem,b78,b80,b83,b86] <;> rfl) (za _) (by first | exact pers | exact scal rfl) ?_
     try simp -implicitDefEqProofs only [go_sem,b78,b80,b83,b86]
     refine zf (fun b88=>?_) (fun b88=>?_)
     ·replace h:=ze h b88
      try simp -implicitDefEqProofs only [go_sem,b78,b80,b83,b86,b88]
      refine zn (fun b89=>?_) (fun b89=>?_)
      ·replace h:=ze h b89
       cases h
       try simp -implicitDefEqProofs only [go_sem,b78,b80,b83,b86,b88,b89]
       all_goals ((repeat' apply And.intro) <;> rfl)
      ·replace h:=zd h b89
       try simp -implicitDefEqProofs only [go_sem,b78,b80,b83,b86,b88,b89]
       refine zb (fun b90=>?_) (fun b90=>?_)
       ·replace h:=ze h b90
        cases h
        try simp -implicitDefEqProofs only [go_sem,b78,b80,b83,b86,b88,b89,b90]
        all_goals ((repeat' apply And.intro) <;> rfl)
       ·replace h:=zd h b90
        obtain ⟨⟨c91a,c91b⟩,h⟩:=chk_s h
        have k92:=eq_true (show a1.vars * ((1:Nat):Int)≤140737488355328 by omega)
        have m93:=zqz enc_b a1.vars.toNat false (c:=[.val (.bool false)]) rfl
        obtain ⟨fus113,h⟩:=chk_s h
        unfold fuel at fus113
        try simp -implicitDefEqProofs only [go_sem,b78,b80,b83,b86,b88,b89,b90,c91a,c91b,k92,m93]
        refine z7 (fun x:(Nat×((List Bool)))×(Nat)=>envL [(2,.ptr 2 0),(3,.ptr 3 0),(8,.row 56 x.2),(58,.p (.lst (a1.slots.map zbk))),(59,.p (.val (.int .i64 ((a1.slots.length:Nat):Int)))),(60,.p (.val (.int .i64 ((x.1.1:Nat):Int))))]) (fun x=>heapL [(2,.box [.p (.lst (a0.nodes.map encNode)),.p (.lst (a0.edges.map encEdgeT))]),(3,.box ((zbq a1).map .p)),(56,.row x.2 4 1 (x.1.2.map enc_b))]) 0 h (weakL (by simp -implicitDefEqProofs only [go_sem,b78,b80,b83,b86,b88,b89,b90,c91a,c91b,k92,m93] <;> ((repeat' apply And.intro) <;> rfl))) ?_ ?_
        ·intro i113 s113 g113 nxts113 Rs113 his113 hNs113 h
         have hws113:=zk (k:=i113) his113 (by omega)
         try dsimp only at h
         obtain ⟨e124,c124,g124,q124,h⟩:=idx_s zbk h
         obtain ⟨r125,hr125,h⟩:=thn_s h
         try simp -implicitDefEqProofs only [go_sem,b78,b80,b83,b86,b88,b89,b90,c91a,c91b,k92,m93,his113,hws113,c124,g124]
         refine callG (zr3 a0 a1 e124 r125 hr125) (by simp -implicitDefEqProofs only [go_sem,b78,b80,b83,b86,b88,b89,b90,c91a,c91b,k92,m93,his113,hws113,c124,g124] <;> rfl) (za _) (by first | exact pers | exact scal rfl) ?_
         try simp -implicitDefEqProofs only [go_sem,b78,b80,b83,b86,b88,b89,b90,c91a,c91b,k92,m93,his113,hws113,c124,g124]
         refine zj (fun b126=>?_) (fun b126=>?_)
         ·replace h:=ze h b126
          obtain ⟨r127,hr127,h⟩:=thn_s h
          try simp -implicitDefEqProofs only [go_sem,b78,b80,b83,b86,b88,b89,b90,c91a,c91b,k92,m93,his113,hws113,c124,g124,b126]
          refine callG (zga e124.term.var (-1) (IntKind.i64.wrap (a1.vars - 1)) r127 hr127) (by simp -implicitDefEqProofs only [go_sem,b78,b80,b83,b86,b88,b89,b90,c91a,c91b,k92,m93,his113,hws113,c124,g124,b126] <;> rfl) (za _) (by first | exact pers | exact scal rfl) ?_
          try simp -implicitDefEqProofs only [go_sem,b78,b80,b83,b86,b88,b89,b90,c91a,c91b,k92,m93,his113,hws113,c124,g124,b126]
          refine zj (fun b128=>?_) (fun b128=>?_)
          ·replace h:=ze h b128
           obtain ⟨r129,hr129,h⟩:=thn_s h
           try simp -implicitDefEqProofs only [go_sem,b78,b80,b83,b86,b88,b89,b90,c91a,c91b,k92,m93,his113,hws113,c124,g124,b126,b128]
           refine callG (zga e124.term.add (-1000000) 1000000 r129 hr129) (by simp -implicitDefEqProofs only [go_sem,b78,b80,b83,b86,b88,b89,b90,c91a,c91b,k92,m93,his113,hws113,c124,g124,b126,b128] <;> rfl) (za _) (by first | exact pers | exact scal rfl) ?_
           try simp -implicitDefEqProofs only [go_sem,b78,b80,b83,b86,b88,b89,b90,c91a,c91b,k92,m93,his113,hws113,c124,g124,b126,b128]
           refine zf (fun b130=>?_) (fun b130=>?_)
           ·replace h:=ze h b130
            try simp -implicitDefEqProofs only [go_sem,b78,b80,b83,b86,b88,b89,b90,c91a,c91b,k92,m93,his113,hws113,c124,g124,b126,b128,b130]
            refine zb (fun b131=>?_) (fun b131=>?_)
            ·replace h:=ze h b131
             obtain ⟨e132,c132a,c132b,g132,q132,h⟩:=atZ_s enc_b h
             have c132n:=zbj c132a c132b
             have s133:=zok enc_b s113 e124.term.var.toNat true (c:=[.val (.bool true)]) rfl
             try simp -implicitDefEqProofs only [go_sem,b78,b80,b83,b86,b88,b89,b90,c91a,c91b,k92,m93,his113,hws113,c124,g124,b126,b128,b130,b131,c132a,c132b,c132n,g132,s133]
             exact hNs113 (s113.set e124.term.var.toNat true) g113 h (weakL (by simp -implicitDefEqProofs only [go_sem,b78,b80,b83,b86,b88,b89,b90,c91a,c91b,k92,m93,his113,hws113,c124,g124,b126,b128,b130,b131,c132a,c132b,c132n,g132,s133] <;> ((repeat' apply And.intro) <;> rfl)))
            ·replace h:=zd h b131
             try simp -implicitDefEqProofs only [go_sem,b78,b80,b83,b86,b88,b89,b90,c91a,c91b,k92,m93,his113,hws113,c124,g124,b126,b128,b130,b131]
             exact hNs113 s113 g113 h (weakL (by simp -implicitDefEqProofs only [go_sem,b78,b80,b83,b86,b88,b89,b90,c91a,c91b,k92,m93,his113,hws113,c124,g124,b126,b128,b130,b131] <;> ((repeat' apply And.intro) <;> rfl)))
           ·replace h:=zd h b130
            cases h
            try simp -implicitDefEqProofs only [go_sem,b78,b80,b83,b86,b88,b89,b90,c91a,c91b,k92,m93,his113,hws113,c124,g124,b126,b128,b130]
            all_goals ((repeat' apply And.intro) <;> rfl)
          ·replace h:=zd h b128
           cases h
           try simp -implicitDefEqProofs only [go_sem,b78,b80,b83,b86,b88,b89,b90,c91a,c91b,k92,m93,his113,hws113,c124,g124,b126,b128]
           all_goals ((repeat' apply And.intro) <;> rfl)
         ·replace h:=zd h b126
          cases h
          try simp -implicitDefEqProofs only [go_sem,b78,b80,b83,b86,b88,b89,b90,c91a,c91b,k92,m93,his113,hws113,c124,g124,b126]
          all_goals ((repeat' apply And.intro) <;> rfl)
        ·intro i113 s113 g113 Rs113 hes113 h
         have hns113:¬ (i113 < a1.slots.length):=by omega
         try dsimp only at h
         obtain ⟨r162,hr162,h⟩:=thn_s h
         try simp -implicitDefEqProofs only [go_sem,b78,b80,b83,b86,b88,b89,b90,c91a,c91b,k92,m93,hns113]
         refine callG (zqt a1.vars a1.tests r162 hr162) (by simp -implicitDefEqProofs only [go_sem,b78,b80,b83,b86,b88,b89,b90,c91a,c91b,k92,m93,hns113] <;> rfl) (za _) (by first | exact pers | exact scal rfl) ?_
         try simp -implicitDefEqProofs only [go_sem,b78,b80,b83,b86,b88,b89,b90,c91a,c91b,k92,m93,hns113]
         refine zf (fun b163=>?_) (fun b163=>?_)
         ·replace h:=ze h b163
          obtain ⟨r174,hr174,h⟩:=thn_s h
          try simp -implicitDefEqProofs only [go_sem,b78,b80,b83,b86,b88,b89,b90,c91a,c91b,k92,m93,hns113,b163]
          refine callG (znm s113 false r174 hr174) (by simp -implicitDefEqProofs only [go_sem,b78,b80,b83,b86,b88,b89,b90,c91a,c91b,k92,m93,hns113,b163] <;> rfl) (za _) (by first | exact pers | exact scal rfl) ?_
          try simp -implicitDefEqProofs only [go_sem,b78,b80,b83,b86,b88,b89,b90,c91a,c91b,k92,m93,hns113,b163]
          refine zb (fun b175=>?_) (fun b175=>?_)
          ·replace h:=ze h b175
           cases h
           try simp -implicitDefEqProofs only [go_sem,b78,b80,b83,b86,b88,b89,b90,c91a,c91b,k92,m93,hns113,b163,b175]
           all_goals ((repeat' apply And.intro) <;> rfl)
          ·replace h:=zd h b175
           cases h
           try simp -implicitDefEqProofs only [go_sem,b78,b80,b83,b86,b88,b89,b90,c91a,c91b,k92,m93,hns113,b163,b175]
           all_goals ((repeat' apply And.intro) <;> rfl)
         ·replace h:=zd h b163
          cases h
          try simp -implicitDefEqProofs only [go_sem,b78,b80,b83,b86,b88,b89,b90,c91a,c91b,k92,m93,hns113,b163]
          all_goals ((repeat' apply And.intro) <;> rfl)
     ·replace h:=zd h b88
      cases h
      try simp -implicitDefEqProofs only [go_sem,b78,b80,b83,b86,b88]
      all_goals ((repeat' apply And.intro) <;> rfl)
  ·replace h:=zd h b80
   cases h
   try simp -implicitDefEqProofs only [go_sem,b78,b80]
   all_goals ((repeat' apply And.intro) <;> rfl)
 ·replace h:=zd h b78
  cases h
  try simp -implicitDefEqProofs only [go_sem,b78]
  all_goals ((repeat' apply And.intro) <;> rfl)
end
end Go.Proofs.YtimojjnmmlhijaaGreat
set_option maxRecDepth 20000
namespace Go.Proofs.YtimojjnmmlhijaaGreat
open Go.Abs


noncomputable section
set_option maxHeartbeats 4000000 in
theorem zg3 (a0:Types) (a1:zx) (r:Int) (h:zc2 a0 a1=some r):CallV Tryz.prog 126 [.agg [.lst (a0.nodes.map encNode),.lst (a0.edges.map encEdgeT)],.agg (zbq a1)] (fun v=>v = .val (.int .i64 r)):=by
 refine CallV.ple ?_
 refine zc [] Ty.mixed Tryz.func126 rfl (by kernel_rfl) (by simp [Tryz.ntmps126]) ?_; rw [Tryz.ntmps126,Tryz.results126]
 unfold zc2 at h
 obtain ⟨r2173,hr2173,h⟩:=thn_s h
 try simp -implicitDefEqProofs only [go_sem]
 refine callG (zfu a0 r2173 hr2173) (by simp -implicitDefEqProofs only [go_sem] <;> rfl) (za _) (by first | exact pers | exact scal rfl) ?_
 try simp -implicitDefEqProofs only [go_sem]
 refine zf (fun b2174=>?_) (fun b2174=>?_)
 ·replace h:=ze h b2174
  obtain ⟨r2175,hr2175,h⟩:=thn_s h
  try simp -implicitDefEqProofs only [go_sem,b2174]
  refine callG (zeq a1.graph r2175 hr2175) (by simp -implicitDefEqProofs only [go_sem,b2174] <;> rfl) (za _) (by first | exact pers | exact scal rfl) ?_
  try simp -implicitDefEqProofs only [go_sem,b2174]
  refine zf (fun b2176=>?_) (fun b2176=>?_)
  ·replace h:=ze h b2176
   obtain ⟨r2201,hr2201,h⟩:=thn_s h
   try simp -implicitDefEqProofs only [go_sem,b2174,b2176]
   refine callG (zjb a0 a1.graph r2201 hr2201) (by simp -implicitDefEqProofs only [go_sem,b2174,b2176] <;> rfl) (za _) (by first | exact pers | exact scal rfl) ?_
   try simp -implicitDefEqProofs only [go_sem,b2174,b2176]
   refine zf (fun b2202=>?_) (fun b2202=>?_)
   ·replace h:=ze h b2202
    try simp -implicitDefEqProofs only [go_sem,b2174,b2176,b2202]
    refine zn (fun b2203=>?_) (fun b2203=>?_)
    ·replace h:=ze h b2203
     cases h
     try simp -implicitDefEqProofs only [go_sem,b2174,b2176,b2202,b2203]
     all_goals ((repeat' apply And.intro) <;> rfl)
    ·replace h:=zd h b2203
     try simp -implicitDefEqProofs only [go_sem,b2174,b2176,b2202,b2203]
     refine zb (fun b2204=>?_) (fun b2204=>?_)
     ·replace h:=ze h b2204
      cases h
      try simp -implicitDefEqProofs only [go_sem,b2174,b2176,b2202,b2203,b2204]
      all_goals ((repeat' apply And.intro) <;> rfl)
     ·replace h:=zd h b2204
      try simp -implicitDefEqProofs only [go_sem,b2174,b2176,b2202,b2203,b2204]
      refine zn (fun b2205=>?_) (fun b2205=>?_)
      ·replace h:=ze h b2205
       cases h
       try simp -implicitDefEqProofs only [go_sem,b2174,b2176,b2202,b2203,b2204,b2205]
       all_goals ((repeat' apply And.intro) <;> rfl)
      ·replace h:=zd h b2205
       try simp -implicitDefEqProofs only [go_sem,b2174,b2176,b2202,b2203,b2204,b2205]
       refine zb (fun b2206=>?_) (fun b2206=>?_)
       ·replace h:=ze h b2206
        cases h
        try simp -implicitDefEqProofs only [go_sem,b2174,b2176,b2202,b2203,b2204,b2205,b2206]
        all_goals ((repeat' apply And.intro) <;> rfl)
       ·replace h:=zd h b2206
        obtain ⟨fus2225,h⟩:=chk_s h
        unfold fuel at fus2225
        try simp -implicitDefEqProofs only [go_sem,b2174,b2176,b2202,b2203,b2204,b2205,b2206]
        refine z7 (fun x:(Nat×(Unit))×(Unit)=>envL [(2,.ptr 2 0),(3,.ptr 3 0),(8,.p (.val (.int .i64 ((x.1.1:Nat):Int))))]) (fun x=>heapL [(2,.box [.p (.lst (a0.nodes.map encNode)),.p (.lst (a0.edges.map encEdgeT))]),(3,.box ((zbq a1).map .p))]) () h (weakL (by simp -implicitDefEqProofs only [go_sem,b2174,b2176,b2202,b2203,b2204,b2205,b2206] <;> ((repeat' apply And.intro) <;> rfl))) ?_ ?_
        ·intro i2225 s2225 g2225 nxts2225 Rs2225 his2225 hNs2225 h
         have hws2225:=zk (k:=i2225) his2225 (by omega)
         try dsimp only at h
         obtain ⟨e2233,c2233,g2233,q2233,h⟩:=idx_s zbk h
         obtain ⟨r2234,hr2234,h⟩:=thn_s h
         try simp -implicitDefEqProofs only [go_sem,b2174,b2176,b2202,b2203,b2204,b2205,b2206,his2225,hws2225,c2233,g2233]
         refine callG (znf (⟨a0.nodes,a0.edges⟩:Types) a1 e2233.node e2233.attr r2234 hr2234) (by simp -implicitDefEqProofs only [go_sem,b2174,b2176,b2202,b2203,b2204,b2205,b2206,his2225,hws2225,c2233,g2233] <;> rfl) (za _) (by first | exact pers | exact scal rfl) ?_
         try simp -implicitDefEqProofs only [go_sem,b2174,b2176,b2202,b2203,b2204,b2205,b2206,his2225,hws2225,c2233,g2233]
         refine zj (fun b2235=>?_) (fun b2235=>?_)
         ·replace h:=ze h b2235
          try simp -implicitDefEqProofs only [go_sem,b2174,b2176,b2202,b2203,b2204,b2205,b2206,his2225,hws2225,c2233,g2233,b2235]
          refine zn (fun b2236=>?_) (fun b2236=>?_)
          ·replace h:=ze h b2236
           cases h
           try simp -implicitDefEqProofs only [go_sem,b2174,b2176,b2202,b2203,b2204,b2205,b2206,his2225,hws2225,c2233,g2233,b2235,b2236]
           all_goals ((repeat' apply And.intro) <;> rfl)
          ·replace h:=zd h b2236
           try simp -implicitDefEqProofs only [go_sem,b2174,b2176,b2202,b2203,b2204,b2205,b2206,his2225,hws2225,c2233,g2233,b2235,b2236]
           refine zn (fun b2237=>?_) (fun b2237=>?_)
           ·replace h:=ze h b2237
            cases h
            try simp -implicitDefEqProofs only [go_sem,b2174,b2176,b2202,b2203,b2204,b2205,b2206,his2225,hws2225,c2233,g2233,b2235,b2236,b2237]
            all_goals ((repeat' apply And.intro) <;> rfl)
           ·replace h:=zd h b2237
            obtain ⟨r2238,hr2238,h⟩:=thn_s h
            try simp -implicitDefEqProofs only [go_sem,b2174,b2176,b2202,b2203,b2204,b2205,b2206,his2225,hws2225,c2233,g2233,b2235,b2236,b2237]
            refine callG (zlt e2233.term.add r2238 hr2238) (by simp -implicitDefEqProofs only [go_sem,b2174,b2176,b2202,b2203,b2204,b2205,b2206,his2225,hws2225,c2233,g2233,b2235,b2236,b2237] <;> rfl) (za _) (by first | exact pers | exact scal rfl) ?_
            try simp -implicitDefEqProofs only [go_sem,b2174,b2176,b2202,b2203,b2204,b2205,b2206,his2225,hws2225,c2233,g2233,b2235,b2236,b2237]
            refine zf (fun b2239=>?_) (fun b2239=>?_)
            ·replace h:=ze h b2239
             try simp -implicitDefEqProofs only [go_sem,b2174,b2176,b2202,b2203,b2204,b2205,b2206,his2225,hws2225,c2233,g2233,b2235,b2236,b2237,b2239]
             exact hNs2225 () () h (weakL (by simp -implicitDefEqProofs only [go_sem,b2174,b2176,b2202,b2203,b2204,b2205,b2206,his2225,hws2225,c2233,g2233,b2235,b2236,b2237,b2239] <;> ((repeat' apply And.intro) <;> rfl)))
            ·replace h:=zd h b2239
             cases h
             try simp -implicitDefEqProofs only [go_sem,b2174,b2176,b2202,b2203,b2204,b2205,b2206,his2225,hws2225,c2233,g2233,b2235,b2236,b2237,b2239]
             all_goals ((repeat' apply And.intro) <;> rfl)
         ·replace h:=zd h b2235
          cases h
          try simp -implicitDefEqProofs only [go_sem,b2174,b2176,b2202,b2203,b2204,b2205,b2206,his2225,hws2225,c2233,g2233,b2235]
          all_goals ((repeat' apply And.intro) <;> rfl)
        ·intro i2225 s2225 g2225 Rs2225 hes2225 h
         have hns2225:¬ (i2225 < a1.slots.length):=by omega
         try dsimp only at h
         obtain ⟨r2267,hr2267,h⟩:=thn_s h
         try simp -implicitDefEqProofs only [go_sem,b2174,b2176,b2202,b2203,b2204,b2205,b2206,hns2225]
         refine callG (zmb a1.vars a1.tests r2267 hr2267) (by simp -implicitDefEqProofs only [go_sem,b2174,b2176,b2202,b2203,b2204,b2205,b2206,hns2225] <;> rfl) (za _) (by first | exact pers | exact scal rfl) ?_
         try simp -implicitDefEqProofs only [go_sem,b2174,b2176,b2202,b2203,b2204,b2205,b2206,hns2225]
         refine zf (fun b2268=>?_) (fun b2268=>?_)
         ·replace h:=ze h b2268
          obtain ⟨fus2282,h⟩:=chk_s h
          unfold fuel at fus2282
          try simp -implicitDefEqProofs only [go_sem,b2174,b2176,b2202,b2203,b2204,b2205,b2206,hns2225,b2268]
          refine z7 (fun x:(Nat×(Unit))×(Unit)=>envL [(3,.ptr 3 0),(13,.p (.val (.int .i64 ((x.1.1:Nat):Int))))]) (fun x=>heapL [(3,.box [.p (.lst (a1.graph.nodes.map encI)),.p (.lst (a1.graph.edges.map encEdge)),.p (.lst (a1.slots.map zbk)),.p (.val (.int .i64 a1.vars)),.p (.lst (a1.tests.map zbv))])]) () h (weakL (by simp -implicitDefEqProofs only [go_sem,b2174,b2176,b2202,b2203,b2204,b2205,b2206,hns2225,b2268] <;> ((repeat' apply And.intro) <;> rfl))) ?_ ?_
          ·intro i2282 s2282 g2282 nxts2282 Rs2282 his2282 hNs2282 h
           have hws2282:=zk (k:=i2282) his2282 (by omega)
           have hjs2282:((i2282:Nat):Int) < a1.vars:=by omega
           try dsimp only at h
           obtain ⟨r2285,hr2285,h⟩:=thn_s h
           try simp -implicitDefEqProofs only [go_sem,b2174,b2176,b2202,b2203,b2204,b2205,b2206,hns2225,b2268,his2282,hws2282,hjs2282]
           refine callG (zl6 (⟨a1.graph,a1.slots,a1.vars,a1.tests⟩:zx) ((i2282:Nat):Int) r2285 hr2285) (by simp -implicitDefEqProofs only [go_sem,b2174,b2176,b2202,b2203,b2204,b2205,b2206,hns2225,b2268,his2282,hws2282,hjs2282] <;> rfl) (za _) (by first | exact pers | exact scal rfl) ?_
           try simp -implicitDefEqProofs only [go_sem,b2174,b2176,b2202,b2203,b2204,b2205,b2206,hns2225,b2268,his2282,hws2282,hjs2282]
           refine zf (fun b2286=>?_) (fun b2286=>?_)
           ·replace h:=ze h b2286
            try simp -implicitDefEqProofs only [go_sem,b2174,b2176,b2202,b2203,b2204,b2205,b2206,hns2225,b2268,his2282,hws2282,hjs2282,b2286]
            exact hNs2282 () () h (weakL (by simp -implicitDefEqProofs only [go_sem,b2174,b2176,b2202,b2203,b2204,b2205,b2206,hns2225,b2268,his2282,hws2282,hjs2282,b2286] <;> ((repeat' apply And.intro) <;> rfl)))
           ·replace h:=zd h b2286
            cases h
            try simp -implicitDefEqProofs only [go_sem,b2174,b2176,b2202,b2203,b2204,b2205,b2206,hns2225,b2268,his2282,hws2282,hjs2282,b2286]
            all_goals ((repeat' apply And.intro) <;> rfl)
          ·intro i2282 s2282 g2282 Rs2282 hes2282 h
           have hns2282:¬ (((i2282:Nat):Int) < a1.vars):=by omega
           try dsimp only at h
           cases h
           try simp -implicitDefEqProofs only [go_sem,b2174,b2176,b2202,b2203,b2204,b2205,b2206,hns2225,b2268,hns2282]
           all_goals ((repeat' apply And.intro) <;> rfl)
         ·replace h:=zd h b2268
          cases h
          try simp -implicitDefEqProofs only [go_sem,b2174,b2176,b2202,b2203,b2204,b2205,b2206,hns2225,b2268]
          all_goals ((repeat' apply And.intro) <;> rfl)
   ·replace h:=zd h b2202
    cases h
    try simp -implicitDefEqProofs only [go_sem,b2174,b2176,b2202]
    all_goals ((repeat' apply And.intro) <;> rfl)
  ·replace h:=zd h b2176
   cases h
   try simp -implicitDefEqProofs only [go_sem,b2174,b2176]
   all_goals ((repeat' apply And.intro) <;> rfl)
 ·replace h:=zd h b2174
  cases h
  try simp -implicitDefEqProofs only [go_sem,b2174]
  all_goals ((repeat' apply And.intro) <;> rfl)
end
end Go.Proofs.YtimojjnmmlhijaaGreat
set_option maxRecDepth 20000
namespace Go.Proofs.YtimojjnmmlhijaaGreat
open Go.Abs


noncomputable section
set_option maxHeartbeats 4000000 in
theorem zlm (a0:Graph) (a1:zcr) (r:Graph×zbo×Int) (h:zd3 a0 a1=some r):CallF Tryz.prog 99 [.agg [.lst (a0.nodes.map encI),.lst (a0.edges.map encEdge)],.agg [.lst (a1.nodes.map encI),.lst (a1.edges.map encI)]] (fun v=>v = .tup [.agg [.row 3 1 (r.1.nodes.map encI),.row 117 3 (r.1.edges.map encEdge)],.agg [.row 3 1 (r.2.1.nodes.map encI),.row 3 1 (r.2.1.edges.map encI)],.p (.val (.int .i64 r.2.2))]):=by
 refine CallF.rle ?_
 refine zbl [39,73,76,79,80,83] Ty.mixed Tryz.func99 rfl (by kernel_rfl) (by simp [Tryz.ntmps99]) ?_; rw [Tryz.ntmps99,Tryz.results99]
 unfold zd3 at h
 obtain ⟨r2768,hr2768,h⟩:=thn_s h
 try simp -implicitDefEqProofs only [go_sem]
 refine callG (zi8 a0 a1 r2768 hr2768) (by simp -implicitDefEqProofs only [go_sem] <;> rfl) (za _) (by first | exact pers | exact scal rfl) ?_
 try simp -implicitDefEqProofs only [go_sem]
 refine zf (fun b2769=>?_) (fun b2769=>?_)
 ·replace h:=ze h b2769
  obtain ⟨fus2781,h⟩:=chk_s h
  unfold fuel at fus2781
  try simp -implicitDefEqProofs only [go_sem,b2769]
  refine z7 (fun x:(Nat×((List Int)))×(Nat)=>envL [(2,.ptr 2 0),(3,.ptr 3 0),(4,.ptr 4 0),(5,.ptr 5 0),(8,.ptr 8 0),(9,.p (.val (.int .i64 ((x.1.1:Nat):Int))))]) (fun x=>heapL [(2,.box [.p (.lst (a0.nodes.map encI)),.p (.lst (a0.edges.map encEdge))]),(3,.box [.p (.lst (a1.nodes.map encI)),.p (.lst (a1.edges.map encI))]),(4,.box [.p (.val (.slice none 0 0)),.p (.val (.slice none 0 0))]),(5,.box [.p (.val (.slice none 0 0)),.p (.val (.slice none 0 0))]),(8,.box [.row 4779 x.2,.p (.val (.slice none 0 0))]),(4779,.row x.2 3 1 (x.1.2.map encI))]) 0 h (by refine Weak.trans (zkq 8 0 4779 3 1 _ rfl rfl rfl (by decide)) ?_; exact (weakL (by simp -implicitDefEqProofs only [go_sem,b2769] <;> ((repeat' apply And.intro) <;> rfl)))) ?_ ?_
  ·intro i2781 s2781 g2781 nxts2781 Rs2781 his2781 hNs2781 h
   have hws2781:=zk (k:=i2781) his2781 (by omega)
   try dsimp only at h
   try simp -implicitDefEqProofs only [go_sem,b2769,his2781,hws2781]
   refine zfr [(0,.p),(2,.q),(3,.q),(4,.q),(5,.q),(6,.q),(7,.q),(8,.q),(9,.q),(10,.q),(11,.p),(1,.q),(12,.w),(13,.q),(14,.w)] (by kernel_rfl) ?_
   obtain ⟨e2797,c2797,g2797,q2797,h⟩:=idx_s encI h
   obtain ⟨e2798,c2798a,c2798b,g2798,q2798,h⟩:=atZ_s encI h
   have c2798n:=zbj c2798a c2798b
   obtain ⟨c2799,h⟩:=chk_s h
   have k2800:=eq_true (show (s2781.length+1) * 8≤140737488355328 by omega)
   have a2801:=ze2 encI s2781 [e2798] (c:=[[.val (.int .i64 e2798)]]) rfl
   try simp -implicitDefEqProofs only [go_sem,b2769,his2781,hws2781,c2797,g2797,c2798a,c2798b,c2798n,g2798,c2799,k2800,a2801]
   exact hNs2781 (s2781++[e2798]) (g2781+1) h (weakL (by simp -implicitDefEqProofs only [go_sem,b2769,his2781,hws2781,c2797,g2797,c2798a,c2798b,c2798n,g2798,c2799,k2800,a2801] <;> ((repeat' apply And.intro) <;> rfl)))
  ·intro i2781 s2781 g2781 Rs2781 hes2781 h
   have hns2781:¬ (i2781 < a1.nodes.length):=by omega
   try dsimp only at h
   obtain ⟨fus2815,h⟩:=chk_s h
   unfold fuel at fus2815
   try simp -implicitDefEqProofs only [go_sem,b2769,hns2781]
   refine z7 (fun x:(Nat×((List Edge)))×(Nat)=>envL [(2,.ptr 2 0),(3,.ptr 3 0),(4,.ptr 4 0),(5,.ptr 5 0),(8,.ptr 8 0),(10,.p (.val (.int .i64 ((x.1.1:Nat):Int))))]) (fun x=>heapL [(2,.box [.p (.lst (a0.nodes.map encI)),.p (.lst (a0.edges.map encEdge))]),(3,.box [.p (.lst (a1.nodes.map encI)),.p (.lst (a1.edges.map encI))]),(4,.box [.p (.val (.slice none 0 0)),.p (.val (.slice none 0 0))]),(5,.box [.p (.val (.slice none 0 0)),.p (.val (.slice none 0 0))]),(8,.box [.row 4779 g2781,.row 4813 x.2]),(4779,.row g2781 3 1 (s2781.map encI)),(4813,.row x.2 117 3 (x.1.2.map encEdge))]) 0 h (by refine Weak.trans (zkq 8 1 4813 117 3 _ rfl rfl rfl (by decide)) ?_; exact (weakL (by simp -implicitDefEqProofs only [go_sem,b2769,hns2781] <;> ((repeat' apply And.intro) <;> rfl)))) ?_ ?_
   ·intro i2815 s2815 g2815 nxts2815 Rs2815 his2815 hNs2815 h
    have hws2815:=zk (k:=i2815) his2815 (by omega)
    try dsimp only at h
    try simp -implicitDefEqProofs only [go_sem,b2769,hns2781,his2815,hws2815]
    refine zbd [.q,.q,.q,.q,.q,.q,.q,.q,.q,.w,.s] (by kernel_rfl) ?_
    obtain ⟨e2828,c2828,g2828,q2828,h⟩:=idx_s encI h
    obtain ⟨e2829,c2829a,c2829b,g2829,q2829,h⟩:=atZ_s encEdge h
    have c2829n:=zbj c2829a c2829b
    try simp -implicitDefEqProofs only [go_sem,b2769,hns2781,his2815,hws2815,c2828,g2828,c2829a,c2829b,c2829n,g2829]
    refine zfr [(0,.p),(2,.q),(3,.q),(4,.q),(5,.q),(6,.q),(7,.q),(8,.q),(9,.q),(10,.q),(11,.q),(12,.q),(13,.q),(14,.q),(15,.p),(1,.q),(16,.w),(17,.q),(18,.w)] (by kernel_rfl) ?_
    obtain ⟨r2835,hr2835,h⟩:=thn_s h
    try simp -implicitDefEqProofs only [go_sem,b2769,hns2781,his2815,hws2815,c2828,g2828,c2829a,c2829b,c2829n,g2829]
    refine calldG (zja a1.nodes e2829.src r2835 hr2835) (by simp -implicitDefEqProofs only [go_sem,b2769,hns2781,his2815,hws2815,c2828,g2828,c2829a,c2829b,c2829n,g2829] <;> rfl) (za _) (by first | exact pers | exact scal rfl) ?_
    obtain ⟨r2836,hr2836,h⟩:=thn_s h
    try simp -implicitDefEqProofs only [go_sem,b2769,hns2781,his2815,hws2815,c2828,g2828,c2829a,c2829b,c2829n,g2829]
    refine calldG (zja a1.nodes e2829.dst r2836 hr2836) (by simp -implicitDefEqProofs only [go_sem,b2769,hns2781,his2815,hws2815,c2828,g2828,c2829a,c2829b,c2829n,g2829] <;> rfl) (za _) (by first | exact pers | exact scal rfl) ?_
    obtain ⟨c2837,h⟩:=chk_s h
    have k2838:=eq_true (show (s2815.length+1) * 24≤140737488355328 by omega)
    have a2839:=ze2 encEdge s2815 [(⟨e2829.type,r2835,r2836⟩:Edge)] (c:=[[.val (.int .i64 e2829.type),.val (.int .i64 r2835),.val (.int .i64 r2836)]]) rfl
    try simp -implicitDefEqProofs only [go_sem,b2769,hns2781,his2815,hws2815,c2828,g2828,c2829a,c2829b,c2829n,g2829,c2837,k2838,a2839]
    exact hNs2815 (s2815++[(⟨e2829.type,r2835,r2836⟩:Edge)]) (g2815+1) h (weakL (by simp -implicitDefEqProofs only [go_sem,b2769,hns2781,his2815,hws2815,c2828,g2828,c2829a,c2829b,c2829n,g2829,c2837,k2838,a2839] <;> ((repeat' apply And.intro) <;> rfl)))
   ·intro i2815 s2815 g2815 Rs2815 hes2815 h
    have hns2815:¬ (i2815 < a1.edges.length):=by omega
    try dsimp only at h
    try simp -implicitDefEqProofs only [go_sem,b2769,hns2781,hns2815]
    refine zfr [(0,.b),(2,.q),(3,.q),(6,.b),(7,.b),(1,.w),(4,.s),(5,.w),(8,.s),(9,.p),(10,.w),(11,.w),(12,.q)] (by kernel_rfl) ?_
    obtain ⟨c2840,h⟩:=chk_s h
    have k2841:=eq_true (show (a1.nodes.length) * 8≤140737488355328 by omega)
    have k2842:=eq_true (zif (n:=1) (f:=encI) (fun _=>rfl) a1.nodes)
    obtain ⟨c2843,h⟩:=chk_s h
    have k2844:=eq_true (show (a1.edges.length) * 8≤140737488355328 by omega)
    have k2845:=eq_true (zif (n:=1) (f:=encI) (fun _=>rfl) a1.edges)
    cases h
    try simp -implicitDefEqProofs only [go_sem,b2769,hns2781,hns2815,c2840,k2841,k2842,c2843,k2844,k2845]
    refine ⟨by decide,_,.refl _,?_⟩
    simp -implicitDefEqProofs only [go_sem,b2769,hns2781,hns2815,c2840,k2841,k2842,c2843,k2844,k2845] <;> ((repeat' apply And.intro) <;> rfl)
 ·replace h:=zd h b2769
  cases h
  try simp -implicitDefEqProofs only [go_sem,b2769]
  refine ⟨by decide,_,.refl _,?_⟩
  simp -implicitDefEqProofs only [go_sem,b2769] <;> ((repeat' apply And.intro) <;> rfl)
end
end Go.Proofs.YtimojjnmmlhijaaGreat
set_option maxRecDepth 20000
namespace Go.Proofs.YtimojjnmmlhijaaGreat
open Go.Abs


noncomputable section
set_option maxHeartbeats 4000000 in
theorem zwi (a0:Types) (a1:zm) (r:Int) (h:zix a0 a1=some r):CallV Tryz.prog 150 [.agg [.lst (a0.nodes.map encNode),.lst (a0.edges.map encEdgeT)],.agg (z6 a1)] (fun v=>v = .val (.int .i64 r)):=by
 refine CallV.ple ?_
 refine zc [] Ty.mixed Tryz.func150 rfl (by kernel_rfl) (by simp [Tryz.ntmps150]) ?_; rw [Tryz.ntmps150,Tryz.results150]
 unfold zix at h
 obtain ⟨r178,hr178,h⟩:=thn_s h
 try simp -implicitDefEqProofs only [go_sem]
 refine callG (zh8 a1.right.graph r178 hr178) (by simp -implicitDefEqProofs only [go_sem] <;> rfl) (za _) (by first | exact pers | exact scal rfl) ?_
 try simp -implicitDefEqProofs only [go_sem]
 refine zf (fun b179=>?_) (fun b179=>?_)
 ·replace h:=ze h b179
  obtain ⟨r185,hr185,h⟩:=thn_s h
  try simp -implicitDefEqProofs only [go_sem,b179]
  refine callG (zwm (⟨a0.nodes,a0.edges⟩:Types) a1.right.graph r185 hr185) (by simp -implicitDefEqProofs only [go_sem,b179] <;> rfl) (za _) (by first | exact pers | exact scal rfl) ?_
  try simp -implicitDefEqProofs only [go_sem,b179]
  refine zf (fun b186=>?_) (fun b186=>?_)
  ·replace h:=ze h b186
   try simp -implicitDefEqProofs only [go_sem,b179,b186]
   refine zj (fun b187=>?_) (fun b187=>?_)
   ·replace h:=ze h b187
    try simp -implicitDefEqProofs only [go_sem,b179,b186,b187]
    refine zb (fun b188=>?_) (fun b188=>?_)
    ·replace h:=ze h b188
     cases h
     try simp -implicitDefEqProofs only [go_sem,b179,b186,b187,b188]
     all_goals ((repeat' apply And.intro) <;> rfl)
    ·replace h:=zd h b188
     try simp -implicitDefEqProofs only [go_sem,b179,b186,b187,b188]
     refine zb (fun b189=>?_) (fun b189=>?_)
     ·replace h:=ze h b189
      cases h
      try simp -implicitDefEqProofs only [go_sem,b179,b186,b187,b188,b189]
      all_goals ((repeat' apply And.intro) <;> rfl)
     ·replace h:=zd h b189
      obtain ⟨fus223,h⟩:=chk_s h
      unfold fuel at fus223
      try simp -implicitDefEqProofs only [go_sem,b179,b186,b187,b188,b189]
      refine z7 (fun x:(Nat×(Unit))×(Unit)=>envL [(2,.ptr 2 0),(3,.ptr 3 0),(46,.p (.val (.int .i64 ((a1.right.slots.length:Nat):Int)))),(47,.p (.val (.int .i64 ((x.1.1:Nat):Int))))]) (fun x=>heapL [(2,.box [.p (.lst (a0.nodes.map encNode)),.p (.lst (a0.edges.map encEdgeT))]),(3,.box [.p (.val (.string a1.name)),.p (.lst (a1.left.graph.nodes.map encI)),.p (.lst (a1.left.graph.edges.map encEdge)),.p (.lst (a1.left.slots.map zbk)),.p (.val (.int .i64 a1.left.vars)),.p (.lst (a1.left.tests.map zbv)),.p (.lst (a1.right.graph.nodes.map encI)),.p (.lst (a1.right.graph.edges.map encEdge)),.p (.lst (a1.right.slots.map zbk)),.p (.val (.int .i64 a1.right.vars)),.p (.lst (a1.right.tests.map zbv)),.p (.lst (a1.keep.nodes.map encI)),.p (.lst (a1.keep.edges.map encI)),.p (.lst (a1.into.nodes.map encI)),.p (.lst (a1.into.edges.map encI)),.p (.val (.bool a1.injective)),.p (.val (.int .i64 a1.condition.kind)),.p (.lst (a1.condition.kids.map zt)),.p (.lst (a1.condition.map.nodes.map encI)),.p (.lst (a1.condition.map.edges.map encI)),.p (.lst (a1.condition.pattern.graph.nodes.map encI)),.p (.lst (a1.condition.pattern.graph.edges.map encEdge)),.p (.lst (a1.condition.pattern.slots.map zbk)),.p (.val (.int .i64 a1.condition.pattern.vars)),.p (.lst (a1.condition.pattern.tests.map zbv))])]) () h (weakL (by simp -implicitDefEqProofs only [go_sem,b179,b186,b187,b188,b189] <;> ((repeat' apply And.intro) <;> rfl))) ?_ ?_
      ·intro i223 s223 g223 nxts223 Rs223 his223 hNs223 h
       have hws223:=zk (k:=i223) his223 (by omega)
       try dsimp only at h
       obtain ⟨r226,hr226,h⟩:=thn_s h
       try simp -implicitDefEqProofs only [go_sem,b179,b186,b187,b188,b189,his223,hws223]
       refine callG (zy3 (⟨a0.nodes,a0.edges⟩:Types) (⟨a1.name,a1.left,a1.right,a1.keep,a1.into,a1.injective,a1.condition⟩:zm) ((i223:Nat):Int) r226 hr226) (by simp -implicitDefEqProofs only [go_sem,b179,b186,b187,b188,b189,his223,hws223] <;> rfl) (za _) (by first | exact pers | exact scal rfl) ?_
       try simp -implicitDefEqProofs only [go_sem,b179,b186,b187,b188,b189,his223,hws223]
       refine zf (fun b227=>?_) (fun b227=>?_)
       ·replace h:=ze h b227
        try simp -implicitDefEqProofs only [go_sem,b179,b186,b187,b188,b189,his223,hws223,b227]
        exact hNs223 () () h (weakL (by simp -implicitDefEqProofs only [go_sem,b179,b186,b187,b188,b189,his223,hws223,b227] <;> ((repeat' apply And.intro) <;> rfl)))
       ·replace h:=zd h b227
        cases h
        try simp -implicitDefEqProofs only [go_sem,b179,b186,b187,b188,b189,his223,hws223,b227]
        all_goals ((repeat' apply And.intro) <;> rfl)
      ·intro i223 s223 g223 Rs223 hes223 h
       have hns223:¬ (i223 < a1.right.slots.length):=by omega
       try dsimp only at h
       cases h
       try simp -implicitDefEqProofs only [go_sem,b179,b186,b187,b188,b189,hns223]
       all_goals ((repeat' apply And.intro) <;> rfl)
   ·replace h:=zd h b187
    cases h
    try simp -implicitDefEqProofs only [go_sem,b179,b186,b187]
    all_goals ((repeat' apply And.intro) <;> rfl)
  ·replace h:=zd h b186
   cases h
   try simp -implicitDefEqProofs only [go_sem,b179,b186]
   all_goals ((repeat' apply And.intro) <;> rfl)
 ·replace h:=zd h b179
  cases h
  try simp -implicitDefEqProofs only [go_sem,b179]
  all_goals ((repeat' apply And.intro) <;> rfl)
end
end Go.Proofs.YtimojjnmmlhijaaGreat
set_option maxRecDepth 20000
namespace Go.Proofs.YtimojjnmmlhijaaGreat
open Go.Abs


noncomputable section
set_option maxHeartbeats 4000000 in
theorem zti (a0:zm) (r:(List Int)×(List Int)) (h:zgv a0=some r):CallF Tryz.prog 117 [.agg (z6 a0)] (fun v=>v = .tup [.row 3 1 (r.1.map encI),.row 3 1 (r.2.map encI)]):=by
 refine CallF.rle ?_
 refine zbl [] Ty.mixed Tryz.func117 rfl (by kernel_rfl) (by simp [Tryz.ntmps117]) ?_; rw [Tryz.ntmps117,Tryz.results117]
 unfold zgv at h
 try simp -implicitDefEqProofs only [go_sem]
 refine zfr [(0,.q),(1,.q),(2,.q),(3,.q),(4,.q),(5,.q),(6,.q),(7,.q),(9,.q),(10,.q),(11,.q),(12,.q),(13,.q),(14,.q),(15,.q),(16,.q),(8,.f),(17,.f),(18,.q),(19,.q)] (by kernel_rfl) ?_
 obtain ⟨r815,hr815,h⟩:=thn_s h
 try simp -implicitDefEqProofs only [go_sem]
 refine calldfG 1192 (zjj a0.keep.nodes ((a0.left.graph.nodes.length:Nat):Int) r815 hr815) (by simp -implicitDefEqProofs only [go_sem] <;> rfl) (za _) (by first | exact persF | exact flatF rfl | exact flatF (by simp [RV.flat,RV.flatL,PV.scalar,isVal,encI])) (by simp -implicitDefEqProofs only [go_sem]) (by simp -implicitDefEqProofs only [go_sem]) ?_
 obtain ⟨r816,hr816,h⟩:=thn_s h
 try simp -implicitDefEqProofs only [go_sem]
 refine calldfG 1336 (zjj a0.keep.edges ((a0.left.graph.edges.length:Nat):Int) r816 hr816) (by simp -implicitDefEqProofs only [go_sem] <;> rfl) (za _) (by first | exact persF | exact flatF rfl | exact flatF (by simp [RV.flat,RV.flatL,PV.scalar,isVal,encI])) (by simp -implicitDefEqProofs only [go_sem]) (by simp -implicitDefEqProofs only [go_sem]) ?_
 cases h
 try simp -implicitDefEqProofs only [go_sem]
 refine ⟨by decide,_,.refl _,?_⟩
 simp -implicitDefEqProofs only [go_sem] <;> ((repeat' apply And.intro) <;> rfl)

set_option maxHeartbeats 4000000 in
theorem zn1 (a0:zi) (r:Bool) (h:zge a0=some r):CallV Tryz.prog 57 [.agg (zt a0)] (fun v=>v = .val (.bool r)):=by
 refine CallV.ple ?_
 refine zc [] Ty.mixed Tryz.func57 rfl (by kernel_rfl) (by simp [Tryz.ntmps57]) ?_; rw [Tryz.ntmps57,Tryz.results57]
 unfold zge at h
 obtain ⟨r2148,hr2148,h⟩:=thn_s h
 try simp -implicitDefEqProofs only [go_sem]
 refine callG (znh fuel a0 40 r2148 hr2148) (by simp -implicitDefEqProofs only [go_sem] <;> rfl) (za _) (by first | exact pers | exact scal rfl) ?_
 cases h
 try simp -implicitDefEqProofs only [go_sem]
 all_goals ((repeat' apply And.intro) <;> rfl)

set_option maxHeartbeats 4000000 in
theorem zmi (a0:zi) (r:Int) (h:zdr a0=some r):CallV Tryz.prog 168 [.agg (zt a0)] (fun v=>v = .val (.int .i64 r)):=by
 refine CallV.ple ?_
 refine zc [] Ty.mixed Tryz.func168 rfl (by kernel_rfl) (by simp [Tryz.ntmps168]) ?_; rw [Tryz.ntmps168,Tryz.results168]
 unfold zdr at h
 obtain ⟨r3069,hr3069,h⟩:=thn_s h
 try simp -implicitDefEqProofs only [go_sem]
 refine callG (zld fuel a0 r3069 hr3069) (by simp -implicitDefEqProofs only [go_sem] <;> rfl) (za _) (by first | exact pers | exact scal rfl) ?_
 try simp -implicitDefEqProofs only [go_sem]
 refine zf (fun b3070=>?_) (fun b3070=>?_)
 ·replace h:=ze h b3070
  obtain ⟨r3084,hr3084,h⟩:=thn_s h
  try simp -implicitDefEqProofs only [go_sem,b3070]
  refine callG (zll fuel a0 r3084 hr3084) (by simp -implicitDefEqProofs only [go_sem,b3070] <;> rfl) (za _) (by first | exact pers | exact scal rfl) ?_
  try simp -implicitDefEqProofs only [go_sem,b3070]
  refine zn (fun b3085=>?_) (fun b3085=>?_)
  ·replace h:=ze h b3085
   cases h
   try simp -implicitDefEqProofs only [go_sem,b3070,b3085]
   all_goals ((repeat' apply And.intro) <;> rfl)
  ·replace h:=zd h b3085
   try simp -implicitDefEqProofs only [go_sem,b3070,b3085]
   refine zb (fun b3086=>?_) (fun b3086=>?_)
   ·replace h:=ze h b3086
    cases h
    try simp -implicitDefEqProofs only [go_sem,b3070,b3085,b3086]
    all_goals ((repeat' apply And.intro) <;> rfl)
   ·replace h:=zd h b3086
    cases h
    try simp -implicitDefEqProofs only [go_sem,b3070,b3085,b3086]
    all_goals ((repeat' apply And.intro) <;> rfl)
 ·replace h:=zd h b3070
  cases h
  try simp -implicitDefEqProofs only [go_sem,b3070]
  all_goals ((repeat' apply And.intro) <;> rfl)
end
end Go.Proofs.YtimojjnmmlhijaaGreat
set_option maxRecDepth 20000
namespace Go.Proofs.YtimojjnmmlhijaaGreat
open Go.Abs


noncomputable section
set_option maxHeartbeats 4000000 in
theorem zn4 (a0:List Int) (a1:Int) (r:Bool) (h:zff a0 a1=some r):CallV Tryz.prog 280 [.lst (a0.map encI),.val (.int .i64 a1)] (fun v=>v = .val (.bool r)):=by
 refine CallV.ple ?_
 refine zc [] Ty.mixed Tryz.func280 rfl (by kernel_rfl) (by simp [Tryz.ntmps280]) ?_; rw [Tryz.ntmps280,Tryz.results280]
 unfold zff at h
 obtain ⟨r297,hr297,h⟩:=thn_s h
 try simp -implicitDefEqProofs only [go_sem]
 refine callG (zgq a0 a1 r297 hr297) (by simp -implicitDefEqProofs only [go_sem] <;> rfl) (za _) (by first | exact pers | exact scal rfl) ?_
 cases h
 try simp -implicitDefEqProofs only [go_sem]
 all_goals ((repeat' apply And.intro) <;> rfl)

set_option maxHeartbeats 4000000 in
theorem znp (a0:zm) (r:(List Int)×(List Int)) (h:zf2 a0=some r):CallF Tryz.prog 119 [.agg (z6 a0)] (fun v=>v = .tup [.row 3 1 (r.1.map encI),.row 3 1 (r.2.map encI)]):=by
 refine CallF.rle ?_
 refine zbl [] Ty.mixed Tryz.func119 rfl (by kernel_rfl) (by simp [Tryz.ntmps119]) ?_; rw [Tryz.ntmps119,Tryz.results119]
 unfold zf2 at h
 try simp -implicitDefEqProofs only [go_sem]
 refine zfr [(0,.q),(1,.q),(2,.q),(3,.q),(4,.q),(5,.q),(6,.q),(7,.q),(9,.q),(10,.q),(11,.q),(12,.q),(13,.q),(14,.q),(15,.q),(16,.q),(8,.f),(17,.f),(18,.q),(19,.q)] (by kernel_rfl) ?_
 obtain ⟨r662,hr662,h⟩:=thn_s h
 try simp -implicitDefEqProofs only [go_sem]
 refine calldfG 1192 (zjj a0.into.nodes ((a0.right.graph.nodes.length:Nat):Int) r662 hr662) (by simp -implicitDefEqProofs only [go_sem] <;> rfl) (za _) (by first | exact persF | exact flatF rfl | exact flatF (by simp [RV.flat,RV.flatL,PV.scalar,isVal,encI])) (by simp -implicitDefEqProofs only [go_sem]) (by simp -implicitDefEqProofs only [go_sem]) ?_
 obtain ⟨r663,hr663,h⟩:=thn_s h
 try simp -implicitDefEqProofs only [go_sem]
 refine calldfG 1336 (zjj a0.into.edges ((a0.right.graph.edges.length:Nat):Int) r663 hr663) (by simp -implicitDefEqProofs only [go_sem] <;> rfl) (za _) (by first | exact persF | exact flatF rfl | exact flatF (by simp [RV.flat,RV.flatL,PV.scalar,isVal,encI])) (by simp -implicitDefEqProofs only [go_sem]) (by simp -implicitDefEqProofs only [go_sem]) ?_
 cases h
 try simp -implicitDefEqProofs only [go_sem]
 refine ⟨by decide,_,.refl _,?_⟩
 simp -implicitDefEqProofs only [go_sem] <;> ((repeat' apply And.intro) <;> rfl)

set_option maxHeartbeats 4000000 in
theorem zq7 (a0:zi) (r:Int) (h:zgo a0=some r):CallV Tryz.prog 197 [.agg (zt a0)] (fun v=>v = .val (.int .i64 r)):=by
 refine CallV.ple ?_
 refine zc [] Ty.mixed Tryz.func197 rfl (by kernel_rfl) (by simp [Tryz.ntmps197]) ?_; rw [Tryz.ntmps197,Tryz.results197]
 unfold zgo at h
 obtain ⟨r728,hr728,h⟩:=thn_s h
 try simp -implicitDefEqProofs only [go_sem]
 refine callG (znd fuel a0 r728 hr728) (by simp -implicitDefEqProofs only [go_sem] <;> rfl) (za _) (by first | exact pers | exact scal rfl) ?_
 try simp -implicitDefEqProofs only [go_sem]
 refine zf (fun b729=>?_) (fun b729=>?_)
 ·replace h:=ze h b729
  obtain ⟨r743,hr743,h⟩:=thn_s h
  try simp -implicitDefEqProofs only [go_sem,b729]
  refine callG (zpj fuel a0 r743 hr743) (by simp -implicitDefEqProofs only [go_sem,b729] <;> rfl) (za _) (by first | exact pers | exact scal rfl) ?_
  try simp -implicitDefEqProofs only [go_sem,b729]
  refine zn (fun b744=>?_) (fun b744=>?_)
  ·replace h:=ze h b744
   cases h
   try simp -implicitDefEqProofs only [go_sem,b729,b744]
   all_goals ((repeat' apply And.intro) <;> rfl)
  ·replace h:=zd h b744
   try simp -implicitDefEqProofs only [go_sem,b729,b744]
   refine zb (fun b745=>?_) (fun b745=>?_)
   ·replace h:=ze h b745
    cases h
    try simp -implicitDefEqProofs only [go_sem,b729,b744,b745]
    all_goals ((repeat' apply And.intro) <;> rfl)
   ·replace h:=zd h b745
    cases h
    try simp -implicitDefEqProofs only [go_sem,b729,b744,b745]
    all_goals ((repeat' apply And.intro) <;> rfl)
 ·replace h:=zd h b729
  cases h
  try simp -implicitDefEqProofs only [go_sem,b729]
  all_goals ((repeat' apply And.intro) <;> rfl)
end
end Go.Proofs.YtimojjnmmlhijaaGreat
set_option maxRecDepth 20000
namespace Go.Proofs.YtimojjnmmlhijaaGreat
open Go.Abs


noncomputable section
set_option maxHeartbeats 4000000 in
theorem zs4 (a0:Graph) (a1:zcr) (r:Int) (h:zg7 a0 a1=some r):CallV Tryz.prog 268 [.agg [.lst (a0.nodes.map encI),.lst (a0.edges.map encEdge)],.agg [.lst (a1.nodes.map encI),.lst (a1.edges.map encI)]] (fun v=>v = .val (.int .i64 r)):=by
 refine CallV.ple ?_
 refine zc [] Ty.mixed Tryz.func268 rfl (by kernel_rfl) (by simp [Tryz.ntmps268]) ?_; rw [Tryz.ntmps268,Tryz.results268]
 unfold zg7 at h
 obtain ⟨r253,hr253,h⟩:=thn_s h
 try simp -implicitDefEqProofs only [go_sem]
 refine callG (zmv a1.nodes ((a0.nodes.length:Nat):Int) r253 hr253) (by simp -implicitDefEqProofs only [go_sem] <;> rfl) (za _) (by first | exact pers | exact scal rfl) ?_
 try simp -implicitDefEqProofs only [go_sem]
 refine zf (fun b254=>?_) (fun b254=>?_)
 ·replace h:=ze h b254
  obtain ⟨r255,hr255,h⟩:=thn_s h
  try simp -implicitDefEqProofs only [go_sem,b254]
  refine callG (zmv a1.edges ((a0.edges.length:Nat):Int) r255 hr255) (by simp -implicitDefEqProofs only [go_sem,b254] <;> rfl) (za _) (by first | exact pers | exact scal rfl) ?_
  try simp -implicitDefEqProofs only [go_sem,b254]
  refine zf (fun b256=>?_) (fun b256=>?_)
  ·replace h:=ze h b256
   obtain ⟨fus302,h⟩:=chk_s h
   unfold fuel at fus302
   try simp -implicitDefEqProofs only [go_sem,b254,b256]
   refine z7 (fun x:(Nat×(Unit))×(Unit)=>envL [(2,.ptr 2 0),(3,.ptr 3 0),(28,.p (.lst (a1.edges.map encI))),(29,.p (.val (.int .i64 ((a1.edges.length:Nat):Int)))),(30,.p (.val (.int .i64 ((x.1.1:Nat):Int))))]) (fun x=>heapL [(2,.box [.p (.lst (a0.nodes.map encI)),.p (.lst (a0.edges.map encEdge))]),(3,.box [.p (.lst (a1.nodes.map encI)),.p (.lst (a1.edges.map encI))])]) () h (weakL (by simp -implicitDefEqProofs only [go_sem,b254,b256] <;> ((repeat' apply And.intro) <;> rfl))) ?_ ?_
   ·intro i302 s302 g302 nxts302 Rs302 his302 hNs302 h
    have hws302:=zk (k:=i302) his302 (by omega)
    try dsimp only at h
    obtain ⟨e309,c309,g309,q309,h⟩:=idx_s encI h
    try simp -implicitDefEqProofs only [go_sem,b254,b256,his302,hws302,c309,g309]
    refine zbd [.q,.q,.q,.q,.q,.q,.q,.q,.q,.q,.q,.q,.q,.q,.q,.q,.q,.q,.q,.q,.q,.q] (by kernel_rfl) ?_
    obtain ⟨e310,c310a,c310b,g310,q310,h⟩:=atZ_s encEdge h
    have c310n:=zbj c310a c310b
    obtain ⟨r311,hr311,h⟩:=thn_s h
    try simp -implicitDefEqProofs only [go_sem,b254,b256,his302,hws302,c309,g309,c310a,c310b,c310n,g310]
    refine calldG (zn4 a1.nodes e310.src r311 hr311) (by simp -implicitDefEqProofs only [go_sem,b254,b256,his302,hws302,c309,g309,c310a,c310b,c310n,g310] <;> rfl) (za _) (by first | exact pers | exact scal rfl) ?_
    try simp -implicitDefEqProofs only [go_sem,b254,b256,his302,hws302,c309,g309,c310a,c310b,c310n,g310]
    refine zcu (fun b312=>?_) (fun b312=>?_)
    ·replace h:=ze h b312
     obtain ⟨r313,hr313,h⟩:=thn_s h
     try simp -implicitDefEqProofs only [go_sem,b254,b256,his302,hws302,c309,g309,c310a,c310b,c310n,g310,b312]
     refine calldG (zn4 a1.nodes e310.dst r313 hr313) (by simp -implicitDefEqProofs only [go_sem,b254,b256,his302,hws302,c309,g309,c310a,c310b,c310n,g310,b312] <;> rfl) (za _) (by first | exact pers | exact scal rfl) ?_
     try simp -implicitDefEqProofs only [go_sem,b254,b256,his302,hws302,c309,g309,c310a,c310b,c310n,g310,b312]
     refine zf (fun b314=>?_) (fun b314=>?_)
     ·replace h:=ze h b314
      try simp -implicitDefEqProofs only [go_sem,b254,b256,his302,hws302,c309,g309,c310a,c310b,c310n,g310,b312,b314]
      exact hNs302 () () h (weakL (by simp -implicitDefEqProofs only [go_sem,b254,b256,his302,hws302,c309,g309,c310a,c310b,c310n,g310,b312,b314] <;> ((repeat' apply And.intro) <;> rfl)))
     ·replace h:=zd h b314
      cases h
      try simp -implicitDefEqProofs only [go_sem,b254,b256,his302,hws302,c309,g309,c310a,c310b,c310n,g310,b312,b314]
      all_goals ((repeat' apply And.intro) <;> rfl)
    ·replace h:=zd h b312
     cases h
     try simp -implicitDefEqProofs only [go_sem,b254,b256,his302,hws302,c309,g309,c310a,c310b,c310n,g310,b312]
     all_goals ((repeat' apply And.intro) <;> rfl)
   ·intro i302 s302 g302 Rs302 hes302 h
    have hns302:¬ (i302 < a1.edges.length):=by omega
    try dsimp only at h
    cases h
    try simp -implicitDefEqProofs only [go_sem,b254,b256,hns302]
    all_goals ((repeat' apply And.intro) <;> rfl)
  ·replace h:=zd h b256
   cases h
   try simp -implicitDefEqProofs only [go_sem,b254,b256]
   all_goals ((repeat' apply And.intro) <;> rfl)
 ·replace h:=zd h b254
  cases h
  try simp -implicitDefEqProofs only [go_sem,b254]
  all_goals ((repeat' apply And.intro) <;> rfl)
end
end Go.Proofs.YtimojjnmmlhijaaGreat
set_option maxRecDepth 20000
namespace Go.Proofs.YtimojjnmmlhijaaGreat
open Go.Abs


noncomputable section
set_option maxHeartbeats 4000000 in
theorem zn6 (a0:zm) (r:Bool) (h:zfh a0=some r):CallV Tryz.prog 28 [.agg (z6 a0)] (fun v=>v = .val (.bool r)):=by
 refine CallV.ple ?_
 refine zc [] Ty.mixed Tryz.func28 rfl (by kernel_rfl) (by simp [Tryz.ntmps28]) ?_; rw [Tryz.ntmps28,Tryz.results28]
 unfold zfh at h
 try simp -implicitDefEqProofs only [go_sem]
 refine zj (fun b2106=>?_) (fun b2106=>?_)
 ·replace h:=ze h b2106
  obtain ⟨r2111,hr2111,h⟩:=thn_s h
  try simp -implicitDefEqProofs only [go_sem,b2106]
  refine callG (zhp a0.left r2111 hr2111) (by simp -implicitDefEqProofs only [go_sem,b2106] <;> rfl) (za _) (by first | exact pers | exact scal rfl) ?_
  try simp -implicitDefEqProofs only [go_sem,b2106]
  refine zj (fun b2112=>?_) (fun b2112=>?_)
  ·replace h:=ze h b2112
   obtain ⟨r2113,hr2113,h⟩:=thn_s h
   try simp -implicitDefEqProofs only [go_sem,b2106,b2112]
   refine callG (zhp a0.right r2113 hr2113) (by simp -implicitDefEqProofs only [go_sem,b2106,b2112] <;> rfl) (za _) (by first | exact pers | exact scal rfl) ?_
   try simp -implicitDefEqProofs only [go_sem,b2106,b2112]
   refine zj (fun b2114=>?_) (fun b2114=>?_)
   ·replace h:=ze h b2114
    obtain ⟨r2115,hr2115,h⟩:=thn_s h
    try simp -implicitDefEqProofs only [go_sem,b2106,b2112,b2114]
    refine callG (zn5 a0.keep 140 r2115 hr2115) (by simp -implicitDefEqProofs only [go_sem,b2106,b2112,b2114] <;> rfl) (za _) (by first | exact pers | exact scal rfl) ?_
    try simp -implicitDefEqProofs only [go_sem,b2106,b2112,b2114]
    refine zj (fun b2116=>?_) (fun b2116=>?_)
    ·replace h:=ze h b2116
     obtain ⟨r2117,hr2117,h⟩:=thn_s h
     try simp -implicitDefEqProofs only [go_sem,b2106,b2112,b2114,b2116]
     refine callG (zjy a0.into 140 r2117 hr2117) (by simp -implicitDefEqProofs only [go_sem,b2106,b2112,b2114,b2116] <;> rfl) (za _) (by first | exact pers | exact scal rfl) ?_
     try simp -implicitDefEqProofs only [go_sem,b2106,b2112,b2114,b2116]
     refine zj (fun b2118=>?_) (fun b2118=>?_)
     ·replace h:=ze h b2118
      obtain ⟨r2149,hr2149,h⟩:=thn_s h
      try simp -implicitDefEqProofs only [go_sem,b2106,b2112,b2114,b2116,b2118]
      refine callG (zn1 a0.condition r2149 hr2149) (by simp -implicitDefEqProofs only [go_sem,b2106,b2112,b2114,b2116,b2118] <;> rfl) (za _) (by first | exact pers | exact scal rfl) ?_
      cases h
      try simp -implicitDefEqProofs only [go_sem,b2106,b2112,b2114,b2116,b2118]
      all_goals ((repeat' apply And.intro) <;> rfl)
     ·replace h:=zd h b2118
      cases h
      try simp -implicitDefEqProofs only [go_sem,b2106,b2112,b2114,b2116,b2118]
      all_goals ((repeat' apply And.intro) <;> rfl)
    ·replace h:=zd h b2116
     cases h
     try simp -implicitDefEqProofs only [go_sem,b2106,b2112,b2114,b2116]
     all_goals ((repeat' apply And.intro) <;> rfl)
   ·replace h:=zd h b2114
    cases h
    try simp -implicitDefEqProofs only [go_sem,b2106,b2112,b2114]
    all_goals ((repeat' apply And.intro) <;> rfl)
  ·replace h:=zd h b2112
   cases h
   try simp -implicitDefEqProofs only [go_sem,b2106,b2112]
   all_goals ((repeat' apply And.intro) <;> rfl)
 ·replace h:=zd h b2106
  cases h
  try simp -implicitDefEqProofs only [go_sem,b2106]
  all_goals ((repeat' apply And.intro) <;> rfl)
end
end Go.Proofs.YtimojjnmmlhijaaGreat
set_option maxRecDepth 20000
namespace Go.Proofs.YtimojjnmmlhijaaGreat
open Go.Abs


noncomputable section
set_option maxHeartbeats 4000000 in
theorem zpr (a0:Types) (a1:zx) (a2:Int) (r:Int) (h:zdg a0 a1 a2=some r):CallV Tryz.prog 247 [.agg [.lst (a0.nodes.map encNode),.lst (a0.edges.map encEdgeT)],.agg (zbq a1),.val (.int .i64 a2)] (fun v=>v = .val (.int .i64 r)):=by
 refine CallV.ple ?_
 refine zc [] Ty.mixed Tryz.func247 rfl (by kernel_rfl) (by simp [Tryz.ntmps247]) ?_; rw [Tryz.ntmps247,Tryz.results247]
 unfold zdg at h
 obtain ⟨r750,hr750,h⟩:=thn_s h
 try simp -implicitDefEqProofs only [go_sem]
 refine callG (zjd a0 a1 r750 hr750) (by simp -implicitDefEqProofs only [go_sem] <;> rfl) (za _) (by first | exact pers | exact scal rfl) ?_
 try simp -implicitDefEqProofs only [go_sem]
 refine zf (fun b751=>?_) (fun b751=>?_)
 ·replace h:=ze h b751
  try simp -implicitDefEqProofs only [go_sem,b751]
  refine zjt (fun x:(Int)×(Unit)=>envL [(4,.ptr 4 0),(7,.p (.val (.int .i64 r750))),(8,.ptr 8 0)]) (fun x=>heapL [(4,.box [.p (.lst (a1.graph.nodes.map encI)),.p (.lst (a1.graph.edges.map encEdge)),.p (.lst (a1.slots.map zbk)),.p (.val (.int .i64 a1.vars)),.p (.lst (a1.tests.map zbv))]),(8,.box [.p (.val (.int .i64 x.1))])]) () h (weakL (by simp -implicitDefEqProofs only [go_sem,b751] <;> ((repeat' apply And.intro) <;> rfl))) ?_
  intro s757 g757 nxts757 Rs757 hNs757 h
  try dsimp only at h
  try simp -implicitDefEqProofs only [go_sem,b751]
  refine zb (fun b762=>?_) (fun b762=>?_)
  ·replace h:=ze h b762
   obtain ⟨r763,hr763,h⟩:=thn_s h
   try simp -implicitDefEqProofs only [go_sem,b751,b762]
   refine callG (zh6 a1.slots (fun x764=>ze7 x764 s757) 275 [] [.eptr [.val (.int .i64 s757)] 0] (fun x764 r h=>znv x764 s757 r h) r763 hr763) (by simp -implicitDefEqProofs only [go_sem,b751,b762] <;> rfl) (za _) (by first | exact pers | exact scal rfl) ?_
   try simp -implicitDefEqProofs only [go_sem,b751,b762]
   refine zf (fun b765=>?_) (fun b765=>?_)
   ·replace h:=ze h b765
    try simp -implicitDefEqProofs only [go_sem,b751,b762,b765]
    refine zth (envL [(4,.ptr 4 0),(7,.p (.val (.int .i64 r750))),(28,.p (.val (.int .i64 s757)))]) (heapL [(4,.box [.p (.lst (a1.graph.nodes.map encI)),.p (.lst (a1.graph.edges.map encEdge)),.p (.lst (a1.slots.map zbk)),.p (.val (.int .i64 a1.vars)),.p (.lst (a1.tests.map zbv))])]) (weakL (by simp -implicitDefEqProofs only [go_sem,b751,b762,b765] <;> ((repeat' apply And.intro) <;> rfl))) (by simp -implicitDefEqProofs only [go_sem,b751,b762,b765] <;> rfl) (by trivial) ?_
    try simp -implicitDefEqProofs only [go_sem,b751,b762,b765]
    exact hNs757 (IntKind.i64.wrap (s757+1)) () h (weakL (by simp -implicitDefEqProofs only [go_sem,b751,b762,b765] <;> ((repeat' apply And.intro) <;> rfl)))
   ·replace h:=zd h b765
    cases h
    try simp -implicitDefEqProofs only [go_sem,b751,b762,b765]
    all_goals ((repeat' apply And.intro) <;> rfl)
  ·replace h:=zd h b762
   try dsimp only at h
   cases h
   try simp -implicitDefEqProofs only [go_sem,b751,b762]
   all_goals ((repeat' apply And.intro) <;> rfl)
 ·replace h:=zd h b751
  cases h
  try simp -implicitDefEqProofs only [go_sem,b751]
  all_goals ((repeat' apply And.intro) <;> rfl)
end
end Go.Proofs.YtimojjnmmlhijaaGreat
set_option maxRecDepth 20000
namespace Go.Proofs.YtimojjnmmlhijaaGreat
open Go.Abs


noncomputable section
set_option maxHeartbeats 4000000 in
theorem zmk (a0:Types) (a1:Int) (a2:zx) (r:Int) (h:zck a0 a1 a2=some r):CallV Tryz.prog 216 [.agg [.lst (a0.nodes.map encNode),.lst (a0.edges.map encEdgeT)],.val (.int .i64 a1),.agg (zbq a2)] (fun v=>v = .val (.int .i64 r)):=by
 refine CallV.ple ?_
 refine zc [] Ty.mixed Tryz.func216 rfl (by kernel_rfl) (by simp [Tryz.ntmps216]) ?_; rw [Tryz.ntmps216,Tryz.results216]
 unfold zck at h
 try simp -implicitDefEqProofs only [go_sem]
 refine zb (fun b3090=>?_) (fun b3090=>?_)
 ·replace h:=ze h b3090
  cases h
  try simp -implicitDefEqProofs only [go_sem,b3090]
  all_goals ((repeat' apply And.intro) <;> rfl)
 ·replace h:=zd h b3090
  obtain ⟨r3091,hr3091,h⟩:=thn_s h
  try simp -implicitDefEqProofs only [go_sem,b3090]
  refine callG (zg3 a0 a2 r3091 hr3091) (by simp -implicitDefEqProofs only [go_sem,b3090] <;> rfl) (za _) (by first | exact pers | exact scal rfl) ?_
  try simp -implicitDefEqProofs only [go_sem,b3090]
  refine zf (fun b3092=>?_) (fun b3092=>?_)
  ·replace h:=ze h b3092
   try simp -implicitDefEqProofs only [go_sem,b3090,b3092]
   refine zjt (fun x:(Int)×(Unit)=>envL [(5,.ptr 5 0),(7,.p (.val (.int .i64 r3091))),(8,.p (.val (.int .i64 x.1)))]) (fun x=>heapL [(5,.box ((zbq a2).map .p))]) () h (weakL (by simp -implicitDefEqProofs only [go_sem,b3090,b3092] <;> ((repeat' apply And.intro) <;> rfl))) ?_
   intro s3106 g3106 nxts3106 Rs3106 hNs3106 h
   try dsimp only at h
   try simp -implicitDefEqProofs only [go_sem,b3090,b3092]
   refine zb (fun b3110=>?_) (fun b3110=>?_)
   ·replace h:=ze h b3110
    obtain ⟨r3111,hr3111,h⟩:=thn_s h
    try simp -implicitDefEqProofs only [go_sem,b3090,b3092,b3110]
    refine callG (zl4 a2 s3106 r3111 hr3111) (by simp -implicitDefEqProofs only [go_sem,b3090,b3092,b3110] <;> rfl) (za _) (by first | exact pers | exact scal rfl) ?_
    try simp -implicitDefEqProofs only [go_sem,b3090,b3092,b3110]
    refine zf (fun b3112=>?_) (fun b3112=>?_)
    ·replace h:=ze h b3112
     try simp -implicitDefEqProofs only [go_sem,b3090,b3092,b3110,b3112]
     exact hNs3106 (IntKind.i64.wrap (s3106+1)) () h (weakL (by simp -implicitDefEqProofs only [go_sem,b3090,b3092,b3110,b3112] <;> ((repeat' apply And.intro) <;> rfl)))
    ·replace h:=zd h b3112
     cases h
     try simp -implicitDefEqProofs only [go_sem,b3090,b3092,b3110,b3112]
     all_goals ((repeat' apply And.intro) <;> rfl)
   ·replace h:=zd h b3110
    try dsimp only at h
    cases h
    try simp -implicitDefEqProofs only [go_sem,b3090,b3092,b3110]
    all_goals ((repeat' apply And.intro) <;> rfl)
  ·replace h:=zd h b3092
   cases h
   try simp -implicitDefEqProofs only [go_sem,b3090,b3092]
   all_goals ((repeat' apply And.intro) <;> rfl)
end
end Go.Proofs.YtimojjnmmlhijaaGreat
