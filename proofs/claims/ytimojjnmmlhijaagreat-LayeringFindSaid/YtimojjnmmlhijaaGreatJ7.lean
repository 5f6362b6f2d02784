/- Joined texts, part 7: lemmas for the statement. No condition. -/
import Derived.Test.YtimojjnmmlhijaaGreatJ4
import Derived.Test.YtimojjnmmlhijaaGreatJ5
import Derived.Test.YtimojjnmmlhijaaGreatJ6
import Derived.Test.YtimojjnmmlhijaaGreatRows
import Derived.Test.YtimojjnmmlhijaaGreatJ3
set_option linter.unusedSimpArgs false
set_option linter.unusedVariables false
open Nat (reduceEqDiff reduceLT reduceLeDiff reduceMul reduceAdd reduceSub)
set_option maxRecDepth 20000
namespace Go.Proofs.YtimojjnmmlhijaaGreat
open Go.Abs


noncomputable section
set_option maxHeartbeats 4000000 in
theorem znn (a0:zm) (r:Int) (h:zb5 a0=some r):CallV Tryz.prog 128 [.agg (z6 a0)] (fun v=>v = .val (.int .i64 r)):=by
 refine CallV.ple ?_
 refine zc [] Ty.mixed Tryz.func128 rfl (by kernel_rfl) (by simp [Tryz.ntmps128]) ?_; rw [Tryz.ntmps128,Tryz.results128]
 unfold zb5 at h
 obtain ⟨r2388,hr2388,h⟩:=thn_s h
 try simp -implicitDefEqProofs only [go_sem]
 refine callG (zi8 a0.left.graph a0.keep r2388 hr2388) (by simp -implicitDefEqProofs only [go_sem] <;> rfl) (za _) (by first | exact pers | exact scal rfl) ?_
 try simp -implicitDefEqProofs only [go_sem]
 refine zf (fun b2389=>?_) (fun b2389=>?_)
 ·replace h:=ze h b2389
  obtain ⟨r2846,hr2846,h⟩:=thn_s h
  try simp -implicitDefEqProofs only [go_sem,b2389]
  refine callfG 1352 (zlm a0.left.graph a0.keep r2846 hr2846) (by simp -implicitDefEqProofs only [go_sem,b2389] <;> rfl) (za _) (by first | exact persF | exact flatF rfl | exact flatF (by simp [RV.flat,RV.flatL,PV.scalar,isVal,encI,encEdge,encI,encI])) (by simp -implicitDefEqProofs only [go_sem,b2389]) ?_
  obtain ⟨r2907,hr2907,h⟩:=thn_s h
  try simp -implicitDefEqProofs only [go_sem,b2389]
  refine callG (zg1 r2846.1 a0.right.graph a0.into r2907 hr2907) (by simp -implicitDefEqProofs only [go_sem,b2389] <;> rfl) (za _) (by first | exact pers | exact scal rfl) ?_
  cases h
  try simp -implicitDefEqProofs only [go_sem,b2389]
  all_goals ((repeat' apply And.intro) <;> rfl)
 ·replace h:=zd h b2389
  cases h
  try simp -implicitDefEqProofs only [go_sem,b2389]
  all_goals ((repeat' apply And.intro) <;> rfl)
end
end Go.Proofs.YtimojjnmmlhijaaGreat
set_option maxRecDepth 20000
namespace Go.Proofs.YtimojjnmmlhijaaGreat
open Go.Abs


noncomputable section
set_option maxHeartbeats 4000000 in
theorem zqk (n:Nat):∀ (a0:Types) (a1:zx) (a2:zi) (r:Int) (h:zb8 n a0 a1 a2=some r),CallV Tryz.prog 198 [.agg [.lst (a0.nodes.map encNode),.lst (a0.edges.map encEdgeT)],.agg (zbq a1),.agg (zt a2)] (fun v=>v = .val (.int .i64 r)):=by
 induction n with
 | zero=>intro a0 a1 a2 r h; cases h
 | succ n ih =>
 intro a0 a1 a2 r h
 refine CallV.ple ?_
 refine zc [] Ty.mixed Tryz.func198 rfl (by kernel_rfl) (by simp [Tryz.ntmps198]) ?_; rw [Tryz.ntmps198,Tryz.results198]
 unfold zb8 at h
 try simp -implicitDefEqProofs only [go_sem]
 refine zb (fun b775=>?_) (fun b775=>?_)
 ·replace h:=ze h b775
  try simp -implicitDefEqProofs only [go_sem,b775]
  refine zb (fun b776=>?_) (fun b776=>?_)
  ·replace h:=ze h b776
   cases h
   try simp -implicitDefEqProofs only [go_sem,b775,b776]
   all_goals ((repeat' apply And.intro) <;> rfl)
  ·replace h:=zd h b776
   obtain ⟨r777,hr777,h⟩:=thn_s h
   try simp -implicitDefEqProofs only [go_sem,b775,b776]
   refine callG (zpr a0 a2.pattern a1.vars r777 hr777) (by simp -implicitDefEqProofs only [go_sem,b775,b776] <;> rfl) (za _) (by first | exact pers | exact scal rfl) ?_
   try simp -implicitDefEqProofs only [go_sem,b775,b776]
   refine zf (fun b778=>?_) (fun b778=>?_)
   ·replace h:=ze h b778
    obtain ⟨r779,hr779,h⟩:=thn_s h
    try simp -implicitDefEqProofs only [go_sem,b775,b776,b778]
    refine callG (zjq a1.graph a2.pattern.graph a2.map r779 hr779) (by simp -implicitDefEqProofs only [go_sem,b775,b776,b778] <;> rfl) (za _) (by first | exact pers | exact scal rfl) ?_
    try simp -implicitDefEqProofs only [go_sem,b775,b776,b778]
    refine zf (fun b780=>?_) (fun b780=>?_)
    ·replace h:=ze h b780
     obtain ⟨r781,hr781,h⟩:=thn_s h
     try simp -implicitDefEqProofs only [go_sem,b775,b776,b778,b780]
     refine callG (zj9 a1.graph a2.pattern.graph a2.map r781 hr781) (by simp -implicitDefEqProofs only [go_sem,b775,b776,b778,b780] <;> rfl) (za _) (by first | exact pers | exact scal rfl) ?_
     try simp -implicitDefEqProofs only [go_sem,b775,b776,b778,b780]
     refine zf (fun b782=>?_) (fun b782=>?_)
     ·replace h:=ze h b782
      obtain ⟨fus788,h⟩:=chk_s h
      unfold fuel at fus788
      try simp -implicitDefEqProofs only [go_sem,b775,b776,b778,b780,b782]
      refine z7 (fun x:(Nat×(Unit))×(Unit)=>envL [(3,.ptr 3 0),(4,.ptr 4 0),(51,.p (.lst (a2.kids.map zt))),(52,.p (.val (.int .i64 ((a2.kids.length:Nat):Int)))),(53,.p (.val (.int .i64 ((x.1.1:Nat):Int))))]) (fun x=>heapL [(3,.box [.p (.lst (a0.nodes.map encNode)),.p (.lst (a0.edges.map encEdgeT))]),(4,.box ((zbq a2.pattern).map .p))]) () h (weakL (by simp -implicitDefEqProofs only [go_sem,b775,b776,b778,b780,b782] <;> ((repeat' apply And.intro) <;> rfl))) ?_ ?_
      ·intro i788 s788 g788 nxts788 Rs788 his788 hNs788 h
       have hws788:=zk (k:=i788) his788 (by omega)
       try dsimp only at h
       obtain ⟨e792,c792,g792,q792,h⟩:=idx_s zt h
       obtain ⟨r793,hr793,h⟩:=thn_s h
       try simp -implicitDefEqProofs only [go_sem,b775,b776,b778,b780,b782,his788,hws788,c792,g792]
       refine callG (ih a0 a2.pattern e792 r793 hr793) (by simp -implicitDefEqProofs only [go_sem,b775,b776,b778,b780,b782,his788,hws788,c792,g792] <;> rfl) (za _) (by first | exact pers | exact scal rfl) ?_
       try simp -implicitDefEqProofs only [go_sem,b775,b776,b778,b780,b782,his788,hws788,c792,g792]
       refine zf (fun b794=>?_) (fun b794=>?_)
       ·replace h:=ze h b794
        try simp -implicitDefEqProofs only [go_sem,b775,b776,b778,b780,b782,his788,hws788,c792,g792,b794]
        exact hNs788 () () h (weakL (by simp -implicitDefEqProofs only [go_sem,b775,b776,b778,b780,b782,his788,hws788,c792,g792,b794] <;> ((repeat' apply And.intro) <;> rfl)))
       ·replace h:=zd h b794
        cases h
        try simp -implicitDefEqProofs only [go_sem,b775,b776,b778,b780,b782,his788,hws788,c792,g792,b794]
        all_goals ((repeat' apply And.intro) <;> rfl)
      ·intro i788 s788 g788 Rs788 hes788 h
       have hns788:¬ (i788 < a2.kids.length):=by omega
       try dsimp only at h
       cases h
       try simp -implicitDefEqProofs only [go_sem,b775,b776,b778,b780,b782,hns788]
       all_goals ((repeat' apply And.intro) <;> rfl)
     ·replace h:=zd h b782
      cases h
      try simp -implicitDefEqProofs only [go_sem,b775,b776,b778,b780,b782]
      all_goals ((repeat' apply And.intro) <;> rfl)
    ·replace h:=zd h b780
     cases h
     try simp -implicitDefEqProofs only [go_sem,b775,b776,b778,b780]
     all_goals ((repeat' apply And.intro) <;> rfl)
   ·replace h:=zd h b778
    cases h
    try simp -implicitDefEqProofs only [go_sem,b775,b776,b778]
    all_goals ((repeat' apply And.intro) <;> rfl)
 ·replace h:=zd h b775
  obtain ⟨fus800,h⟩:=chk_s h
  unfold fuel at fus800
  try simp -implicitDefEqProofs only [go_sem,b775]
  refine z7 (fun x:(Nat×(Unit))×(Unit)=>envL [(3,.ptr 3 0),(4,.ptr 4 0),(51,.p (.lst (a2.kids.map zt))),(52,.p (.val (.int .i64 ((a2.kids.length:Nat):Int)))),(53,.p (.val (.int .i64 ((x.1.1:Nat):Int))))]) (fun x=>heapL [(3,.box [.p (.lst (a0.nodes.map encNode)),.p (.lst (a0.edges.map encEdgeT))]),(4,.box ((zbq a1).map .p))]) () h (weakL (by simp -implicitDefEqProofs only [go_sem,b775] <;> ((repeat' apply And.intro) <;> rfl))) ?_ ?_
  ·intro i800 s800 g800 nxts800 Rs800 his800 hNs800 h
   have hws800:=zk (k:=i800) his800 (by omega)
   try dsimp only at h
   obtain ⟨e804,c804,g804,q804,h⟩:=idx_s zt h
   obtain ⟨r805,hr805,h⟩:=thn_s h
   try simp -implicitDefEqProofs only [go_sem,b775,his800,hws800,c804,g804]
   refine callG (ih a0 a1 e804 r805 hr805) (by simp -implicitDefEqProofs only [go_sem,b775,his800,hws800,c804,g804] <;> rfl) (za _) (by first | exact pers | exact scal rfl) ?_
   try simp -implicitDefEqProofs only [go_sem,b775,his800,hws800,c804,g804]
   refine zf (fun b806=>?_) (fun b806=>?_)
   ·replace h:=ze h b806
    try simp -implicitDefEqProofs only [go_sem,b775,his800,hws800,c804,g804,b806]
    exact hNs800 () () h (weakL (by simp -implicitDefEqProofs only [go_sem,b775,his800,hws800,c804,g804,b806] <;> ((repeat' apply And.intro) <;> rfl)))
   ·replace h:=zd h b806
    cases h
    try simp -implicitDefEqProofs only [go_sem,b775,his800,hws800,c804,g804,b806]
    all_goals ((repeat' apply And.intro) <;> rfl)
  ·intro i800 s800 g800 Rs800 hes800 h
   have hns800:¬ (i800 < a2.kids.length):=by omega
   try dsimp only at h
   cases h
   try simp -implicitDefEqProofs only [go_sem,b775,hns800]
   all_goals ((repeat' apply And.intro) <;> rfl)
end
end Go.Proofs.YtimojjnmmlhijaaGreat
set_option maxRecDepth 20000
namespace Go.Proofs.YtimojjnmmlhijaaGreat
open Go.Abs


noncomputable section
set_option maxHeartbeats 4000000 in
theorem zno (n:Nat):∀ (a0:Types) (a1:zx) (a2:zi) (r:Int) (h:zb0 n a0 a1 a2=some r),CallV Tryz.prog 169 [.agg [.lst (a0.nodes.map encNode),.lst (a0.edges.map encEdgeT)],.agg (zbq a1),.agg (zt a2)] (fun v=>v = .val (.int .i64 r)):=by
 induction n with
 | zero=>intro a0 a1 a2 r h; cases h
 | succ n ih =>
 intro a0 a1 a2 r h
 refine CallV.ple ?_
 refine zc [] Ty.mixed Tryz.func169 rfl (by kernel_rfl) (by simp [Tryz.ntmps169]) ?_; rw [Tryz.ntmps169,Tryz.results169]
 unfold zb0 at h
 try simp -implicitDefEqProofs only [go_sem]
 refine zb (fun b3127=>?_) (fun b3127=>?_)
 ·replace h:=ze h b3127
  obtain ⟨r3128,hr3128,h⟩:=thn_s h
  try simp -implicitDefEqProofs only [go_sem,b3127]
  refine callG (zmk a0 a1.vars a2.pattern r3128 hr3128) (by simp -implicitDefEqProofs only [go_sem,b3127] <;> rfl) (za _) (by first | exact pers | exact scal rfl) ?_
  try simp -implicitDefEqProofs only [go_sem,b3127]
  refine zf (fun b3129=>?_) (fun b3129=>?_)
  ·replace h:=ze h b3129
   obtain ⟨r3130,hr3130,h⟩:=thn_s h
   try simp -implicitDefEqProofs only [go_sem,b3127,b3129]
   refine callG (zg1 a1.graph a2.pattern.graph a2.map r3130 hr3130) (by simp -implicitDefEqProofs only [go_sem,b3127,b3129] <;> rfl) (za _) (by first | exact pers | exact scal rfl) ?_
   try simp -implicitDefEqProofs only [go_sem,b3127,b3129]
   refine zf (fun b3131=>?_) (fun b3131=>?_)
   ·replace h:=ze h b3131
    obtain ⟨r3132,hr3132,h⟩:=thn_s h
    try simp -implicitDefEqProofs only [go_sem,b3127,b3129,b3131]
    refine callG (zk8 a1.graph a2.pattern.graph a2.map r3132 hr3132) (by simp -implicitDefEqProofs only [go_sem,b3127,b3129,b3131] <;> rfl) (za _) (by first | exact pers | exact scal rfl) ?_
    try simp -implicitDefEqProofs only [go_sem,b3127,b3129,b3131]
    refine zf (fun b3133=>?_) (fun b3133=>?_)
    ·replace h:=ze h b3133
     obtain ⟨fus3139,h⟩:=chk_s h
     unfold fuel at fus3139
     try simp -implicitDefEqProofs only [go_sem,b3127,b3129,b3131,b3133]
     refine z7 (fun x:(Nat×(Unit))×(Unit)=>envL [(3,.ptr 3 0),(5,.ptr 5 0),(7,.ptr 7 0),(10,.p (.val (.int .i64 ((x.1.1:Nat):Int))))]) (fun x=>heapL [(3,.box [.p (.lst (a0.nodes.map encNode)),.p (.lst (a0.edges.map encEdgeT))]),(5,.box ((zt a2).map .p)),(7,.box ((zbq a2.pattern).map .p))]) () h (weakL (by simp -implicitDefEqProofs only [go_sem,b3127,b3129,b3131,b3133] <;> ((repeat' apply And.intro) <;> rfl))) ?_ ?_
     ·intro i3139 s3139 g3139 nxts3139 Rs3139 his3139 hNs3139 h
      have hws3139:=zk (k:=i3139) his3139 (by omega)
      try dsimp only at h
      try simp -implicitDefEqProofs only [go_sem,b3127,b3129,b3131,b3133,his3139,hws3139]
      refine zbd [.q,.q,.q,.q,.q,.q,.q,.q,.q] (by kernel_rfl) ?_
      obtain ⟨e3143,c3143,g3143,q3143,h⟩:=idx_s zt h
      obtain ⟨r3144,hr3144,h⟩:=thn_s h
      try simp -implicitDefEqProofs only [go_sem,b3127,b3129,b3131,b3133,his3139,hws3139,c3143,g3143]
      refine calldG (ih a0 a2.pattern e3143 r3144 hr3144) (by simp -implicitDefEqProofs only [go_sem,b3127,b3129,b3131,b3133,his3139,hws3139,c3143,g3143] <;> rfl) (za _) (by first | exact pers | exact scal rfl) ?_
      try simp -implicitDefEqProofs only [go_sem,b3127,b3129,b3131,b3133,his3139,hws3139,c3143,g3143]
      refine zf (fun b3145=>?_) (fun b3145=>?_)
      ·replace h:=ze h b3145
       try simp -implicitDefEqProofs only [go_sem,b3127,b3129,b3131,b3133,his3139,hws3139,c3143,g3143,b3145]
       exact hNs3139 () () h (weakL (by simp -implicitDefEqProofs only [go_sem,b3127,b3129,b3131,b3133,his3139,hws3139,c3143,g3143,b3145] <;> ((repeat' apply And.intro) <;> rfl)))
      ·replace h:=zd h b3145
       cases h
       try simp -implicitDefEqProofs only [go_sem,b3127,b3129,b3131,b3133,his3139,hws3139,c3143,g3143,b3145]
       all_goals ((repeat' apply And.intro) <;> rfl)
     ·intro i3139 s3139 g3139 Rs3139 hes3139 h
      have hns3139:¬ (i3139 < a2.kids.length):=by omega
      try dsimp only at h
      cases h
      try simp -implicitDefEqProofs only [go_sem,b3127,b3129,b3131,b3133,hns3139]
      all_goals ((repeat' apply And.intro) <;> rfl)
    ·replace h:=zd h b3133
     cases h
     try simp -implicitDefEqProofs only [go_sem,b3127,b3129,b3131,b3133]
     all_goals ((repeat' apply And.intro) <;> rfl)
   ·replace h:=zd h b3131
    cases h
    try simp -implicitDefEqProofs only [go_sem,b3127,b3129,b3131]
    all_goals ((repeat' apply And.intro) <;> rfl)
  ·replace h:=zd h b3129
   cases h
   try simp -implicitDefEqProofs only [go_sem,b3127,b3129]
   all_goals ((repeat' apply And.intro) <;> rfl)
 ·replace h:=zd h b3127
  obtain ⟨fus3151,h⟩:=chk_s h
  unfold fuel at fus3151
  try simp -implicitDefEqProofs only [go_sem,b3127]
  refine z7 (fun x:(Nat×(Unit))×(Unit)=>envL [(3,.ptr 3 0),(5,.ptr 5 0),(7,.ptr 7 0),(10,.p (.val (.int .i64 ((x.1.1:Nat):Int))))]) (fun x=>heapL [(3,.box [.p (.lst (a0.nodes.map encNode)),.p (.lst (a0.edges.map encEdgeT))]),(5,.box ((zt a2).map .p)),(7,.box ((zbq a1).map .p))]) () h (weakL (by simp -implicitDefEqProofs only [go_sem,b3127] <;> ((repeat' apply And.intro) <;> rfl))) ?_ ?_
  ·intro i3151 s3151 g3151 nxts3151 Rs3151 his3151 hNs3151 h
   have hws3151:=zk (k:=i3151) his3151 (by omega)
   try dsimp only at h
   try simp -implicitDefEqProofs only [go_sem,b3127,his3151,hws3151]
   refine zbd [.q,.q,.q,.q,.q,.q,.q,.q,.q] (by kernel_rfl) ?_
   obtain ⟨e3155,c3155,g3155,q3155,h⟩:=idx_s zt h
   obtain ⟨r3156,hr3156,h⟩:=thn_s h
   try simp -implicitDefEqProofs only [go_sem,b3127,his3151,hws3151,c3155,g3155]
   refine calldG (ih a0 a1 e3155 r3156 hr3156) (by simp -implicitDefEqProofs only [go_sem,b3127,his3151,hws3151,c3155,g3155] <;> rfl) (za _) (by first | exact pers | exact scal rfl) ?_
   try simp -implicitDefEqProofs only [go_sem,b3127,his3151,hws3151,c3155,g3155]
   refine zf (fun b3157=>?_) (fun b3157=>?_)
   ·replace h:=ze h b3157
    try simp -implicitDefEqProofs only [go_sem,b3127,his3151,hws3151,c3155,g3155,b3157]
    exact hNs3151 () () h (weakL (by simp -implicitDefEqProofs only [go_sem,b3127,his3151,hws3151,c3155,g3155,b3157] <;> ((repeat' apply And.intro) <;> rfl)))
   ·replace h:=zd h b3157
    cases h
    try simp -implicitDefEqProofs only [go_sem,b3127,his3151,hws3151,c3155,g3155,b3157]
    all_goals ((repeat' apply And.intro) <;> rfl)
  ·intro i3151 s3151 g3151 Rs3151 hes3151 h
   have hns3151:¬ (i3151 < a2.kids.length):=by omega
   try dsimp only at h
   cases h
   try simp -implicitDefEqProofs only [go_sem,b3127,hns3151]
   all_goals ((repeat' apply And.intro) <;> rfl)
end
end Go.Proofs.YtimojjnmmlhijaaGreat
set_option maxRecDepth 20000
namespace Go.Proofs.YtimojjnmmlhijaaGreat
open Go.Abs


noncomputable section
set_option maxHeartbeats 4000000 in
theorem znr (a0:Types) (a1:List zm) (r:Bool) (h:zd6 a0 a1=some r):CallV Tryz.prog 9 [.agg [.lst (a0.nodes.map encNode),.lst (a0.edges.map encEdgeT)],.lst (a1.map z6)] (fun v=>v = .val (.bool r)):=by
 refine CallV.ple ?_
 refine zc [] Ty.mixed Tryz.func9 rfl (by kernel_rfl) (by simp [Tryz.ntmps9]) ?_; rw [Tryz.ntmps9,Tryz.results9]
 unfold zd6 at h
 obtain ⟨r2100,hr2100,h⟩:=thn_s h
 try simp -implicitDefEqProofs only [go_sem]
 refine callG (znt a0 r2100 hr2100) (by simp -implicitDefEqProofs only [go_sem] <;> rfl) (za _) (by first | exact pers | exact scal rfl) ?_
 try simp -implicitDefEqProofs only [go_sem]
 refine zj (fun b2101=>?_) (fun b2101=>?_)
 ·replace h:=ze h b2101
  try simp -implicitDefEqProofs only [go_sem,b2101]
  refine zb (fun b2102=>?_) (fun b2102=>?_)
  ·replace h:=ze h b2102
   cases h
   try simp -implicitDefEqProofs only [go_sem,b2101,b2102]
   all_goals ((repeat' apply And.intro) <;> rfl)
  ·replace h:=zd h b2102
   obtain ⟨fus2152,h⟩:=chk_s h
   unfold fuel at fus2152
   try simp -implicitDefEqProofs only [go_sem,b2101,b2102]
   refine z7 (fun x:(Nat×(Unit))×(Unit)=>envL [(1,.p (.lst (a1.map z6))),(5,.p (.val (.int .i64 ((x.1.1:Nat):Int))))]) (fun x=>heapL []) () h (weakL (by simp -implicitDefEqProofs only [go_sem,b2101,b2102] <;> ((repeat' apply And.intro) <;> rfl))) ?_ ?_
   ·intro i2152 s2152 g2152 nxts2152 Rs2152 his2152 hNs2152 h
    have hws2152:=zk (k:=i2152) his2152 (by omega)
    try dsimp only at h
    obtain ⟨e2156,c2156,g2156,q2156,h⟩:=idx_s z6 h
    obtain ⟨r2157,hr2157,h⟩:=thn_s h
    try simp -implicitDefEqProofs only [go_sem,b2101,b2102,his2152,hws2152,c2156,g2156]
    refine callG (zn6 e2156 r2157 hr2157) (by simp -implicitDefEqProofs only [go_sem,b2101,b2102,his2152,hws2152,c2156,g2156] <;> rfl) (za _) (by first | exact pers | exact scal rfl) ?_
    try simp -implicitDefEqProofs only [go_sem,b2101,b2102,his2152,hws2152,c2156,g2156]
    refine zf (fun b2158=>?_) (fun b2158=>?_)
    ·replace h:=ze h b2158
     try simp -implicitDefEqProofs only [go_sem,b2101,b2102,his2152,hws2152,c2156,g2156,b2158]
     exact hNs2152 () () h (weakL (by simp -implicitDefEqProofs only [go_sem,b2101,b2102,his2152,hws2152,c2156,g2156,b2158] <;> ((repeat' apply And.intro) <;> rfl)))
    ·replace h:=zd h b2158
     cases h
     try simp -implicitDefEqProofs only [go_sem,b2101,b2102,his2152,hws2152,c2156,g2156,b2158]
     all_goals ((repeat' apply And.intro) <;> rfl)
   ·intro i2152 s2152 g2152 Rs2152 hes2152 h
    have hns2152:¬ (i2152 < a1.length):=by omega
    try dsimp only at h
    cases h
    try simp -implicitDefEqProofs only [go_sem,b2101,b2102,hns2152]
    all_goals ((repeat' apply And.intro) <;> rfl)
 ·replace h:=zd h b2101
  cases h
  try simp -implicitDefEqProofs only [go_sem,b2101]
  all_goals ((repeat' apply And.intro) <;> rfl)
end
end Go.Proofs.YtimojjnmmlhijaaGreat
set_option maxRecDepth 20000
namespace Go.Proofs.YtimojjnmmlhijaaGreat
open Go.Abs


noncomputable section
set_option maxHeartbeats 4000000 in
theorem zsa (a0:Graph) (a1:zcr) (r:Int) (h:zf3 a0 a1=some r):CallV Tryz.prog 240 [.agg [.lst (a0.nodes.map encI),.lst (a0.edges.map encEdge)],.agg [.lst (a1.nodes.map encI),.lst (a1.edges.map encI)]] (fun v=>v = .val (.int .i64 r)):=by
 refine CallV.ple ?_
 refine zc [] Ty.mixed Tryz.func240 rfl (by kernel_rfl) (by simp [Tryz.ntmps240]) ?_; rw [Tryz.ntmps240,Tryz.results240]
 unfold zf3 at h
 obtain ⟨r230,hr230,h⟩:=thn_s h
 try simp -implicitDefEqProofs only [go_sem]
 refine callG (zh8 a0 r230 hr230) (by simp -implicitDefEqProofs only [go_sem] <;> rfl) (za _) (by first | exact pers | exact scal rfl) ?_
 try simp -implicitDefEqProofs only [go_sem]
 refine zf (fun b231=>?_) (fun b231=>?_)
 ·replace h:=ze h b231
  obtain ⟨r315,hr315,h⟩:=thn_s h
  try simp -implicitDefEqProofs only [go_sem,b231]
  refine callG (zs4 (⟨a0.nodes,a0.edges⟩:Graph) (⟨a1.nodes,a1.edges⟩:zcr) r315 hr315) (by simp -implicitDefEqProofs only [go_sem,b231] <;> rfl) (za _) (by first | exact pers | exact scal rfl) ?_
  cases h
  try simp -implicitDefEqProofs only [go_sem,b231]
  all_goals ((repeat' apply And.intro) <;> rfl)
 ·replace h:=zd h b231
  cases h
  try simp -implicitDefEqProofs only [go_sem,b231]
  all_goals ((repeat' apply And.intro) <;> rfl)
end
end Go.Proofs.YtimojjnmmlhijaaGreat
set_option maxRecDepth 20000
namespace Go.Proofs.YtimojjnmmlhijaaGreat
open Go.Abs


noncomputable section
set_option maxHeartbeats 4000000 in
theorem zqr (a0:Graph) (a1:zcr) (r:Graph×zbo×Int) (h:zed a0 a1=some r):CallF Tryz.prog 191 [.agg [.lst (a0.nodes.map encI),.lst (a0.edges.map encEdge)],.agg [.lst (a1.nodes.map encI),.lst (a1.edges.map encI)]] (fun v=>v = .tup [.agg [.row 3 1 (r.1.nodes.map encI),.row 117 3 (r.1.edges.map encEdge)],.agg [.row 3 1 (r.2.1.nodes.map encI),.row 3 1 (r.2.1.edges.map encI)],.p (.val (.int .i64 r.2.2))]):=by
 refine CallF.rle ?_
 refine zbl [37,74] Ty.mixed Tryz.func191 rfl (by kernel_rfl) (by simp [Tryz.ntmps191]) ?_; rw [Tryz.ntmps191,Tryz.results191]
 unfold zed at h
 obtain ⟨r488,hr488,h⟩:=thn_s h
 try simp -implicitDefEqProofs only [go_sem]
 refine callG (zsa a0 a1 r488 hr488) (by simp -implicitDefEqProofs only [go_sem] <;> rfl) (za _) (by first | exact pers | exact scal rfl) ?_
 try simp -implicitDefEqProofs only [go_sem]
 refine zf (fun b489=>?_) (fun b489=>?_)
 ·replace h:=ze h b489
  obtain ⟨fus500,h⟩:=chk_s h
  unfold fuel at fus500
  try simp -implicitDefEqProofs only [go_sem,b489]
  refine z7 (fun x:(Nat×((List Int)))×(Nat)=>envL [(2,.ptr 2 0),(3,.ptr 3 0),(4,.ptr 4 0),(5,.ptr 5 0),(8,.ptr 8 0),(23,.p (.lst (a1.nodes.map encI))),(24,.p (.val (.int .i64 ((a1.nodes.length:Nat):Int)))),(25,.p (.val (.int .i64 ((x.1.1:Nat):Int))))]) (fun x=>heapL [(2,.box [.p (.lst (a0.nodes.map encI)),.p (.lst (a0.edges.map encEdge))]),(3,.box [.p (.lst (a1.nodes.map encI)),.p (.lst (a1.edges.map encI))]),(4,.box [.p (.val (.slice none 0 0)),.p (.val (.slice none 0 0))]),(5,.box [.p (.val (.slice none 0 0)),.p (.val (.slice none 0 0))]),(8,.box [.row 2498 x.2,.p (.val (.slice none 0 0))]),(2498,.row x.2 3 1 (x.1.2.map encI))]) 0 h (by refine Weak.trans (zkq 8 0 2498 3 1 _ rfl rfl rfl (by decide)) ?_; exact (weakL (by simp -implicitDefEqProofs only [go_sem,b489] <;> ((repeat' apply And.intro) <;> rfl)))) ?_ ?_
  ·intro i500 s500 g500 nxts500 Rs500 his500 hNs500 h
   have hws500:=zk (k:=i500) his500 (by omega)
   try dsimp only at h
   obtain ⟨e510,c510,g510,q510,h⟩:=idx_s encI h
   try simp -implicitDefEqProofs only [go_sem,b489,his500,hws500,c510,g510]
   refine zfr [(0,.p),(2,.q),(3,.q),(4,.q),(5,.q),(6,.q),(7,.p),(1,.q),(8,.w),(9,.q),(10,.w)] (by kernel_rfl) ?_
   obtain ⟨e515,c515a,c515b,g515,q515,h⟩:=atZ_s encI h
   have c515n:=zbj c515a c515b
   obtain ⟨c516,h⟩:=chk_s h
   have k517:=eq_true (show (s500.length+1) * 8≤140737488355328 by omega)
   have a518:=ze2 encI s500 [e515] (c:=[[.val (.int .i64 e515)]]) rfl
   try simp -implicitDefEqProofs only [go_sem,b489,his500,hws500,c510,g510,c515a,c515b,c515n,g515,c516,k517,a518]
   exact hNs500 (s500++[e515]) (g500+1) h (weakL (by simp -implicitDefEqProofs only [go_sem,b489,his500,hws500,c510,g510,c515a,c515b,c515n,g515,c516,k517,a518] <;> ((repeat' apply And.intro) <;> rfl)))
  ·intro i500 s500 g500 Rs500 hes500 h
   have hns500:¬ (i500 < a1.nodes.length):=by omega
   try dsimp only at h
   obtain ⟨fus528,h⟩:=chk_s h
   unfold fuel at fus528
   try simp -implicitDefEqProofs only [go_sem,b489,hns500]
   refine z7 (fun x:(Nat×((List Edge)))×(Nat)=>envL [(2,.ptr 2 0),(3,.ptr 3 0),(4,.ptr 4 0),(5,.ptr 5 0),(8,.ptr 8 0),(41,.p (.lst (a1.edges.map encI))),(42,.p (.val (.int .i64 ((a1.edges.length:Nat):Int)))),(43,.p (.val (.int .i64 ((x.1.1:Nat):Int))))]) (fun x=>heapL [(2,.box [.p (.lst (a0.nodes.map encI)),.p (.lst (a0.edges.map encEdge))]),(3,.box [.p (.lst (a1.nodes.map encI)),.p (.lst (a1.edges.map encI))]),(4,.box [.p (.val (.slice none 0 0)),.p (.val (.slice none 0 0))]),(5,.box [.p (.val (.slice none 0 0)),.p (.val (.slice none 0 0))]),(8,.box [.row 2498 g500,.row 2526 x.2]),(2498,.row g500 3 1 (s500.map encI)),(2526,.row x.2 117 3 (x.1.2.map encEdge))]) 0 h (by refine Weak.trans (zkq 8 1 2526 117 3 _ rfl rfl rfl (by decide)) ?_; exact (weakL (by simp -implicitDefEqProofs only [go_sem,b489,hns500] <;> ((repeat' apply And.intro) <;> rfl)))) ?_ ?_
   ·intro i528 s528 g528 nxts528 Rs528 his528 hNs528 h
    have hws528:=zk (k:=i528) his528 (by omega)
    try dsimp only at h
    obtain ⟨e536,c536,g536,q536,h⟩:=idx_s encI h
    obtain ⟨e537,c537a,c537b,g537,q537,h⟩:=atZ_s encEdge h
    have c537n:=zbj c537a c537b
    obtain ⟨r538,hr538,h⟩:=thn_s h
    try simp -implicitDefEqProofs only [go_sem,b489,hns500,his528,hws528,c536,g536,c537a,c537b,c537n,g537]
    refine callG (zgq a1.nodes e537.src r538 hr538) (by simp -implicitDefEqProofs only [go_sem,b489,hns500,his528,hws528,c536,g536,c537a,c537b,c537n,g537] <;> rfl) (za _) (by first | exact pers | exact scal rfl) ?_
    obtain ⟨r539,hr539,h⟩:=thn_s h
    try simp -implicitDefEqProofs only [go_sem,b489,hns500,his528,hws528,c536,g536,c537a,c537b,c537n,g537]
    refine callG (zgq a1.nodes e537.dst r539 hr539) (by simp -implicitDefEqProofs only [go_sem,b489,hns500,his528,hws528,c536,g536,c537a,c537b,c537n,g537] <;> rfl) (za _) (by first | exact pers | exact scal rfl) ?_
    obtain ⟨c540,h⟩:=chk_s h
    have k541:=eq_true (show (s528.length+1) * 24≤140737488355328 by omega)
    have a542:=ze2 encEdge s528 [(⟨e537.type,r538.1,r539.1⟩:Edge)] (c:=[[.val (.int .i64 e537.type),.val (.int .i64 r538.1),.val (.int .i64 r539.1)]]) rfl
    try simp -implicitDefEqProofs only [go_sem,b489,hns500,his528,hws528,c536,g536,c537a,c537b,c537n,g537,c540,k541,a542]
    exact hNs528 (s528++[(⟨e537.type,r538.1,r539.1⟩:Edge)]) (g528+1) h (weakL (by simp -implicitDefEqProofs only [go_sem,b489,hns500,his528,hws528,c536,g536,c537a,c537b,c537n,g537,c540,k541,a542] <;> ((repeat' apply And.intro) <;> rfl)))
   ·intro i528 s528 g528 Rs528 hes528 h
    have hns528:¬ (i528 < a1.edges.length):=by omega
    try dsimp only at h
    try simp -implicitDefEqProofs only [go_sem,b489,hns500,hns528]
    refine zfr [(0,.q),(1,.q),(2,.q),(4,.q),(5,.q),(3,.f),(6,.f),(7,.p),(8,.w),(9,.w),(10,.q)] (by kernel_rfl) ?_
    obtain ⟨r543,hr543,h⟩:=thn_s h
    try simp -implicitDefEqProofs only [go_sem,b489,hns500,hns528]
    refine calldfG 2280 (zit a1.nodes r543 hr543) (by simp -implicitDefEqProofs only [go_sem,b489,hns500,hns528] <;> rfl) (za _) (by first | exact persF | exact flatF rfl | exact flatF (by simp [RV.flat,RV.flatL,PV.scalar,isVal,encI])) (by simp -implicitDefEqProofs only [go_sem,b489,hns500,hns528]) (by simp -implicitDefEqProofs only [go_sem,b489,hns500,hns528]) ?_
    obtain ⟨r544,hr544,h⟩:=thn_s h
    try simp -implicitDefEqProofs only [go_sem,b489,hns500,hns528]
    refine calldfG 2328 (zit a1.edges r544 hr544) (by simp -implicitDefEqProofs only [go_sem,b489,hns500,hns528] <;> rfl) (za _) (by first | exact persF | exact flatF rfl | exact flatF (by simp [RV.flat,RV.flatL,PV.scalar,isVal,encI])) (by simp -implicitDefEqProofs only [go_sem,b489,hns500,hns528]) (by simp -implicitDefEqProofs only [go_sem,b489,hns500,hns528]) ?_
    cases h
    try simp -implicitDefEqProofs only [go_sem,b489,hns500,hns528]
    refine ⟨by decide,_,.refl _,?_⟩
    simp -implicitDefEqProofs only [go_sem,b489,hns500,hns528] <;> ((repeat' apply And.intro) <;> rfl)
 ·replace h:=zd h b489
  cases h
  try simp -implicitDefEqProofs only [go_sem,b489]
  refine ⟨by decide,_,.refl _,?_⟩
  simp -implicitDefEqProofs only [go_sem,b489] <;> ((repeat' apply And.intro) <;> rfl)
end
end Go.Proofs.YtimojjnmmlhijaaGreat
set_option maxRecDepth 20000
namespace Go.Proofs.YtimojjnmmlhijaaGreat
open Go.Abs


noncomputable section
set_option maxHeartbeats 4000000 in
theorem zme (a0:Types) (a1:zx) (a2:zi) (r:Int) (h:zcj a0 a1 a2=some r):CallV Tryz.prog 131 [.agg [.lst (a0.nodes.map encNode),.lst (a0.edges.map encEdgeT)],.agg (zbq a1),.agg (zt a2)] (fun v=>v = .val (.int .i64 r)):=by
 refine CallV.ple ?_
 refine zc [] Ty.mixed Tryz.func131 rfl (by kernel_rfl) (by simp [Tryz.ntmps131]) ?_; rw [Tryz.ntmps131,Tryz.results131]
 unfold zcj at h
 obtain ⟨r3033,hr3033,h⟩:=thn_s h
 try simp -implicitDefEqProofs only [go_sem]
 refine callG (zg3 a0 a1 r3033 hr3033) (by simp -implicitDefEqProofs only [go_sem] <;> rfl) (za _) (by first | exact pers | exact scal rfl) ?_
 try simp -implicitDefEqProofs only [go_sem]
 refine zf (fun b3034=>?_) (fun b3034=>?_)
 ·replace h:=ze h b3034
  obtain ⟨r3087,hr3087,h⟩:=thn_s h
  try simp -implicitDefEqProofs only [go_sem,b3034]
  refine callG (zmi a2 r3087 hr3087) (by simp -implicitDefEqProofs only [go_sem,b3034] <;> rfl) (za _) (by first | exact pers | exact scal rfl) ?_
  try simp -implicitDefEqProofs only [go_sem,b3034]
  refine zf (fun b3088=>?_) (fun b3088=>?_)
  ·replace h:=ze h b3088
   obtain ⟨r3158,hr3158,h⟩:=thn_s h
   try simp -implicitDefEqProofs only [go_sem,b3034,b3088]
   refine callG (zno fuel a0 a1 a2 r3158 hr3158) (by simp -implicitDefEqProofs only [go_sem,b3034,b3088] <;> rfl) (za _) (by first | exact pers | exact scal rfl) ?_
   cases h
   try simp -implicitDefEqProofs only [go_sem,b3034,b3088]
   all_goals ((repeat' apply And.intro) <;> rfl)
  ·replace h:=zd h b3088
   cases h
   try simp -implicitDefEqProofs only [go_sem,b3034,b3088]
   all_goals ((repeat' apply And.intro) <;> rfl)
 ·replace h:=zd h b3034
  cases h
  try simp -implicitDefEqProofs only [go_sem,b3034]
  all_goals ((repeat' apply And.intro) <;> rfl)
end
end Go.Proofs.YtimojjnmmlhijaaGreat
set_option maxRecDepth 20000
namespace Go.Proofs.YtimojjnmmlhijaaGreat
open Go.Abs


noncomputable section
set_option maxHeartbeats 4000000 in
theorem zq8 (a0:Types) (a1:zx) (a2:zi) (r:Int) (h:zgn a0 a1 a2=some r):CallV Tryz.prog 153 [.agg [.lst (a0.nodes.map encNode),.lst (a0.edges.map encEdgeT)],.agg (zbq a1),.agg (zt a2)] (fun v=>v = .val (.int .i64 r)):=by
 refine CallV.ple ?_
 refine zc [] Ty.mixed Tryz.func153 rfl (by kernel_rfl) (by simp [Tryz.ntmps153]) ?_; rw [Tryz.ntmps153,Tryz.results153]
 unfold zgn at h
 obtain ⟨r678,hr678,h⟩:=thn_s h
 try simp -implicitDefEqProofs only [go_sem]
 refine callG (zjd a0 a1 r678 hr678) (by simp -implicitDefEqProofs only [go_sem] <;> rfl) (za _) (by first | exact pers | exact scal rfl) ?_
 try simp -implicitDefEqProofs only [go_sem]
 refine zf (fun b679=>?_) (fun b679=>?_)
 ·replace h:=ze h b679
  obtain ⟨r746,hr746,h⟩:=thn_s h
  try simp -implicitDefEqProofs only [go_sem,b679]
  refine callG (zq7 a2 r746 hr746) (by simp -implicitDefEqProofs only [go_sem,b679] <;> rfl) (za _) (by first | exact pers | exact scal rfl) ?_
  try simp -implicitDefEqProofs only [go_sem,b679]
  refine zf (fun b747=>?_) (fun b747=>?_)
  ·replace h:=ze h b747
   obtain ⟨r807,hr807,h⟩:=thn_s h
   try simp -implicitDefEqProofs only [go_sem,b679,b747]
   refine callG (zqk fuel a0 a1 a2 r807 hr807) (by simp -implicitDefEqProofs only [go_sem,b679,b747] <;> rfl) (za _) (by first | exact pers | exact scal rfl) ?_
   cases h
   try simp -implicitDefEqProofs only [go_sem,b679,b747]
   all_goals ((repeat' apply And.intro) <;> rfl)
  ·replace h:=zd h b747
   cases h
   try simp -implicitDefEqProofs only [go_sem,b679,b747]
   all_goals ((repeat' apply And.intro) <;> rfl)
 ·replace h:=zd h b679
  cases h
  try simp -implicitDefEqProofs only [go_sem,b679]
  all_goals ((repeat' apply And.intro) <;> rfl)
end
end Go.Proofs.YtimojjnmmlhijaaGreat
set_option maxRecDepth 20000
namespace Go.Proofs.YtimojjnmmlhijaaGreat
open Go.Abs


noncomputable section
set_option maxHeartbeats 4000000 in
theorem zjc (a0:Types) (a1:zm) (r:Int) (h:zb1 a0 a1=some r):CallV Tryz.prog 92 [.agg [.lst (a0.nodes.map encNode),.lst (a0.edges.map encEdgeT)],.agg (z6 a1)] (fun v=>v = .val (.int .i64 r)):=by
 refine CallV.ple ?_
 refine zc [] Ty.mixed Tryz.func92 rfl (by kernel_rfl) (by simp [Tryz.ntmps92]) ?_; rw [Tryz.ntmps92,Tryz.results92]
 unfold zb1 at h
 obtain ⟨r2169,hr2169,h⟩:=thn_s h
 try simp -implicitDefEqProofs only [go_sem]
 refine callG (zfu a0 r2169 hr2169) (by simp -implicitDefEqProofs only [go_sem] <;> rfl) (za _) (by first | exact pers | exact scal rfl) ?_
 try simp -implicitDefEqProofs only [go_sem]
 refine zf (fun b2170=>?_) (fun b2170=>?_)
 ·replace h:=ze h b2170
  obtain ⟨r2171,hr2171,h⟩:=thn_s h
  try simp -implicitDefEqProofs only [go_sem,b2170]
  refine callG (zl0 a1.name r2171 hr2171) (by simp -implicitDefEqProofs only [go_sem,b2170] <;> rfl) (za _) (by first | exact pers | exact scal rfl) ?_
  try simp -implicitDefEqProofs only [go_sem,b2170]
  refine zf (fun b2172=>?_) (fun b2172=>?_)
  ·replace h:=ze h b2172
   obtain ⟨r2287,hr2287,h⟩:=thn_s h
   try simp -implicitDefEqProofs only [go_sem,b2170,b2172]
   refine callG (zg3 (⟨a0.nodes,a0.edges⟩:Types) a1.left r2287 hr2287) (by simp -implicitDefEqProofs only [go_sem,b2170,b2172] <;> rfl) (za _) (by first | exact pers | exact scal rfl) ?_
   try simp -implicitDefEqProofs only [go_sem,b2170,b2172]
   refine zf (fun b2288=>?_) (fun b2288=>?_)
   ·replace h:=ze h b2288
    obtain ⟨r2328,hr2328,h⟩:=thn_s h
    try simp -implicitDefEqProofs only [go_sem,b2170,b2172,b2288]
    refine callG (zmf a0 (⟨a1.name,a1.left,a1.right,a1.keep,a1.into,a1.injective,a1.condition⟩:zm) r2328 hr2328) (by simp -implicitDefEqProofs only [go_sem,b2170,b2172,b2288] <;> rfl) (za _) (by first | exact pers | exact scal rfl) ?_
    try simp -implicitDefEqProofs only [go_sem,b2170,b2172,b2288]
    refine zf (fun b2329=>?_) (fun b2329=>?_)
    ·replace h:=ze h b2329
     obtain ⟨r2908,hr2908,h⟩:=thn_s h
     try simp -implicitDefEqProofs only [go_sem,b2170,b2172,b2288,b2329]
     refine callG (znn (⟨a1.name,a1.left,a1.right,a1.keep,a1.into,a1.injective,a1.condition⟩:zm) r2908 hr2908) (by simp -implicitDefEqProofs only [go_sem,b2170,b2172,b2288,b2329] <;> rfl) (za _) (by first | exact pers | exact scal rfl) ?_
     try simp -implicitDefEqProofs only [go_sem,b2170,b2172,b2288,b2329]
     refine zf (fun b2909=>?_) (fun b2909=>?_)
     ·replace h:=ze h b2909
      obtain ⟨r2948,hr2948,h⟩:=thn_s h
      try simp -implicitDefEqProofs only [go_sem,b2170,b2172,b2288,b2329,b2909]
      refine callG (ze0 a1.into.nodes r2948 hr2948) (by simp -implicitDefEqProofs only [go_sem,b2170,b2172,b2288,b2329,b2909] <;> rfl) (za _) (by first | exact pers | exact scal rfl) ?_
      try simp -implicitDefEqProofs only [go_sem,b2170,b2172,b2288,b2329,b2909]
      refine zj (fun b2949=>?_) (fun b2949=>?_)
      ·replace h:=ze h b2949
       obtain ⟨r2950,hr2950,h⟩:=thn_s h
       try simp -implicitDefEqProofs only [go_sem,b2170,b2172,b2288,b2329,b2909,b2949]
       refine callG (ze0 a1.into.edges r2950 hr2950) (by simp -implicitDefEqProofs only [go_sem,b2170,b2172,b2288,b2329,b2909,b2949] <;> rfl) (za _) (by first | exact pers | exact scal rfl) ?_
       try simp -implicitDefEqProofs only [go_sem,b2170,b2172,b2288,b2329,b2909,b2949]
       refine zf (fun b2951=>?_) (fun b2951=>?_)
       ·replace h:=ze h b2951
        obtain ⟨r2994,hr2994,h⟩:=thn_s h
        try simp -implicitDefEqProofs only [go_sem,b2170,b2172,b2288,b2329,b2909,b2949,b2951]
        refine callfG 1896 (zin (⟨a1.name,a1.left,a1.right,a1.keep,a1.into,a1.injective,a1.condition⟩:zm) r2994 hr2994) (by simp -implicitDefEqProofs only [go_sem,b2170,b2172,b2288,b2329,b2909,b2949,b2951] <;> rfl) (za _) (by first | exact persF | exact flatF rfl | exact flatF (by simp [RV.flat,RV.flatL,PV.scalar,isVal,encI,encI])) (by simp -implicitDefEqProofs only [go_sem,b2170,b2172,b2288,b2329,b2909,b2949,b2951]) ?_
        obtain ⟨r3031,hr3031,h⟩:=thn_s h
        try simp -implicitDefEqProofs only [go_sem,b2170,b2172,b2288,b2329,b2909,b2949,b2951]
        refine callG (zl3 a0 a1.right.graph r2994.1 r2994.2 r3031 hr3031) (by simp -implicitDefEqProofs only [go_sem,b2170,b2172,b2288,b2329,b2909,b2949,b2951] <;> rfl) (za _) (by first | exact pers | exact scal rfl) ?_
        try simp -implicitDefEqProofs only [go_sem,b2170,b2172,b2288,b2329,b2909,b2949,b2951]
        refine zf (fun b3032=>?_) (fun b3032=>?_)
        ·replace h:=ze h b3032
         obtain ⟨r3159,hr3159,h⟩:=thn_s h
         try simp -implicitDefEqProofs only [go_sem,b2170,b2172,b2288,b2329,b2909,b2949,b2951,b3032]
         refine callG (zme a0 a1.left a1.condition r3159 hr3159) (by simp -implicitDefEqProofs only [go_sem,b2170,b2172,b2288,b2329,b2909,b2949,b2951,b3032] <;> rfl) (za _) (by first | exact pers | exact scal rfl) ?_
         cases h
         try simp -implicitDefEqProofs only [go_sem,b2170,b2172,b2288,b2329,b2909,b2949,b2951,b3032]
         all_goals ((repeat' apply And.intro) <;> rfl)
        ·replace h:=zd h b3032
         cases h
         try simp -implicitDefEqProofs only [go_sem,b2170,b2172,b2288,b2329,b2909,b2949,b2951,b3032]
         all_goals ((repeat' apply And.intro) <;> rfl)
       ·replace h:=zd h b2951
        cases h
        try simp -implicitDefEqProofs only [go_sem,b2170,b2172,b2288,b2329,b2909,b2949,b2951]
        all_goals ((repeat' apply And.intro) <;> rfl)
      ·replace h:=zd h b2949
       cases h
       try simp -implicitDefEqProofs only [go_sem,b2170,b2172,b2288,b2329,b2909,b2949]
       all_goals ((repeat' apply And.intro) <;> rfl)
     ·replace h:=zd h b2909
      cases h
      try simp -implicitDefEqProofs only [go_sem,b2170,b2172,b2288,b2329,b2909]
      all_goals ((repeat' apply And.intro) <;> rfl)
    ·replace h:=zd h b2329
     cases h
     try simp -implicitDefEqProofs only [go_sem,b2170,b2172,b2288,b2329]
     all_goals ((repeat' apply And.intro) <;> rfl)
   ·replace h:=zd h b2288
    cases h
    try simp -implicitDefEqProofs only [go_sem,b2170,b2172,b2288]
    all_goals ((repeat' apply And.intro) <;> rfl)
  ·replace h:=zd h b2172
   cases h
   try simp -implicitDefEqProofs only [go_sem,b2170,b2172]
   all_goals ((repeat' apply And.intro) <;> rfl)
 ·replace h:=zd h b2170
  cases h
  try simp -implicitDefEqProofs only [go_sem,b2170]
  all_goals ((repeat' apply And.intro) <;> rfl)
end
end Go.Proofs.YtimojjnmmlhijaaGreat
set_option maxRecDepth 20000
namespace Go.Proofs.YtimojjnmmlhijaaGreat
open Go.Abs


noncomputable section
set_option maxHeartbeats 4000000 in
theorem zyo (a0:zm) (r:Int) (h:zii a0=some r):CallV Tryz.prog 151 [.agg (z6 a0)] (fun v=>v = .val (.int .i64 r)):=by
 refine CallV.ple ?_
 refine zc [] Ty.mixed Tryz.func151 rfl (by kernel_rfl) (by simp [Tryz.ntmps151]) ?_; rw [Tryz.ntmps151,Tryz.results151]
 unfold zii at h
 obtain ⟨r545,hr545,h⟩:=thn_s h
 try simp -implicitDefEqProofs only [go_sem]
 refine callfG 1208 (zqr a0.left.graph a0.keep r545 hr545) (by simp -implicitDefEqProofs only [go_sem] <;> rfl) (za _) (by first | exact persF | exact flatF rfl | exact flatF (by simp [RV.flat,RV.flatL,PV.scalar,isVal,encI,encEdge,encI,encI])) (by simp -implicitDefEqProofs only [go_sem]) ?_
 try simp -implicitDefEqProofs only [go_sem]
 refine zf (fun b546=>?_) (fun b546=>?_)
 ·replace h:=ze h b546
  obtain ⟨r607,hr607,h⟩:=thn_s h
  try simp -implicitDefEqProofs only [go_sem,b546]
  refine callG (zjq r545.1 a0.right.graph a0.into r607 hr607) (by simp -implicitDefEqProofs only [go_sem,b546] <;> rfl) (za _) (by first | exact pers | exact scal rfl) ?_
  try simp -implicitDefEqProofs only [go_sem,b546]
  refine zf (fun b608=>?_) (fun b608=>?_)
  ·replace h:=ze h b608
   obtain ⟨r617,hr617,h⟩:=thn_s h
   try simp -implicitDefEqProofs only [go_sem,b546,b608]
   refine callG (zj9 r545.1 a0.right.graph a0.into r617 hr617) (by simp -implicitDefEqProofs only [go_sem,b546,b608] <;> rfl) (za _) (by first | exact pers | exact scal rfl) ?_
   try simp -implicitDefEqProofs only [go_sem,b546,b608]
   refine zf (fun b618=>?_) (fun b618=>?_)
   ·replace h:=ze h b618
    cases h
    try simp -implicitDefEqProofs only [go_sem,b546,b608,b618]
    all_goals ((repeat' apply And.intro) <;> rfl)
   ·replace h:=zd h b618
    cases h
    try simp -implicitDefEqProofs only [go_sem,b546,b608,b618]
    all_goals ((repeat' apply And.intro) <;> rfl)
  ·replace h:=zd h b608
   cases h
   try simp -implicitDefEqProofs only [go_sem,b546,b608]
   all_goals ((repeat' apply And.intro) <;> rfl)
 ·replace h:=zd h b546
  cases h
  try simp -implicitDefEqProofs only [go_sem,b546]
  all_goals ((repeat' apply And.intro) <;> rfl)
end
end Go.Proofs.YtimojjnmmlhijaaGreat
set_option maxRecDepth 20000
namespace Go.Proofs.YtimojjnmmlhijaaGreat
open Go.Abs


noncomputable section
set_option maxHeartbeats 4000000 in
theorem zp8 (a0:Types) (a1:zm) (r:Int) (h:zgd a0 a1=some r):CallV Tryz.prog 116 [.agg [.lst (a0.nodes.map encNode),.lst (a0.edges.map encEdgeT)],.agg (z6 a1)] (fun v=>v = .val (.int .i64 r)):=by
 refine CallV.ple ?_
 refine zc [] Ty.mixed Tryz.func116 rfl (by kernel_rfl) (by simp [Tryz.ntmps116]) ?_; rw [Tryz.ntmps116,Tryz.results116]
 unfold zgd at h
 obtain ⟨r32,hr32,h⟩:=thn_s h
 try simp -implicitDefEqProofs only [go_sem]
 refine callG (zlf a0 r32 hr32) (by simp -implicitDefEqProofs only [go_sem] <;> rfl) (za _) (by first | exact pers | exact scal rfl) ?_
 try simp -implicitDefEqProofs only [go_sem]
 refine zf (fun b33=>?_) (fun b33=>?_)
 ·replace h:=ze h b33
  obtain ⟨r34,hr34,h⟩:=thn_s h
  try simp -implicitDefEqProofs only [go_sem,b33]
  refine callG (ztn a1.name r34 hr34) (by simp -implicitDefEqProofs only [go_sem,b33] <;> rfl) (za _) (by first | exact pers | exact scal rfl) ?_
  try simp -implicitDefEqProofs only [go_sem,b33]
  refine zf (fun b35=>?_) (fun b35=>?_)
  ·replace h:=ze h b35
   obtain ⟨r176,hr176,h⟩:=thn_s h
   try simp -implicitDefEqProofs only [go_sem,b33,b35]
   refine callG (zjd (⟨a0.nodes,a0.edges⟩:Types) a1.left r176 hr176) (by simp -implicitDefEqProofs only [go_sem,b33,b35] <;> rfl) (za _) (by first | exact pers | exact scal rfl) ?_
   try simp -implicitDefEqProofs only [go_sem,b33,b35]
   refine zf (fun b177=>?_) (fun b177=>?_)
   ·replace h:=ze h b177
    obtain ⟨r228,hr228,h⟩:=thn_s h
    try simp -implicitDefEqProofs only [go_sem,b33,b35,b177]
    refine callG (zwi (⟨a0.nodes,a0.edges⟩:Types) (⟨a1.name,a1.left,a1.right,a1.keep,a1.into,a1.injective,a1.condition⟩:zm) r228 hr228) (by simp -implicitDefEqProofs only [go_sem,b33,b35,b177] <;> rfl) (za _) (by first | exact pers | exact scal rfl) ?_
    try simp -implicitDefEqProofs only [go_sem,b33,b35,b177]
    refine zf (fun b229=>?_) (fun b229=>?_)
    ·replace h:=ze h b229
     obtain ⟨r619,hr619,h⟩:=thn_s h
     try simp -implicitDefEqProofs only [go_sem,b33,b35,b177,b229]
     refine callG (zyo (⟨a1.name,a1.left,a1.right,a1.keep,a1.into,a1.injective,a1.condition⟩:zm) r619 hr619) (by simp -implicitDefEqProofs only [go_sem,b33,b35,b177,b229] <;> rfl) (za _) (by first | exact pers | exact scal rfl) ?_
     try simp -implicitDefEqProofs only [go_sem,b33,b35,b177,b229]
     refine zf (fun b620=>?_) (fun b620=>?_)
     ·replace h:=ze h b620
      obtain ⟨r664,hr664,h⟩:=thn_s h
      try simp -implicitDefEqProofs only [go_sem,b33,b35,b177,b229,b620]
      refine callfG 1704 (znp (⟨a1.name,a1.left,a1.right,a1.keep,a1.into,a1.injective,a1.condition⟩:zm) r664 hr664) (by simp -implicitDefEqProofs only [go_sem,b33,b35,b177,b229,b620] <;> rfl) (za _) (by first | exact persF | exact flatF rfl | exact flatF (by simp [RV.flat,RV.flatL,PV.scalar,isVal,encI,encI])) (by simp -implicitDefEqProofs only [go_sem,b33,b35,b177,b229,b620]) ?_
      obtain ⟨r676,hr676,h⟩:=thn_s h
      try simp -implicitDefEqProofs only [go_sem,b33,b35,b177,b229,b620]
      refine callG (zt7 (⟨a0.nodes,a0.edges⟩:Types) a1.right.graph r664.1 r664.2 r676 hr676) (by simp -implicitDefEqProofs only [go_sem,b33,b35,b177,b229,b620] <;> rfl) (za _) (by first | exact pers | exact scal rfl) ?_
      try simp -implicitDefEqProofs only [go_sem,b33,b35,b177,b229,b620]
      refine zf (fun b677=>?_) (fun b677=>?_)
      ·replace h:=ze h b677
       obtain ⟨r808,hr808,h⟩:=thn_s h
       try simp -implicitDefEqProofs only [go_sem,b33,b35,b177,b229,b620,b677]
       refine callG (zq8 a0 a1.left a1.condition r808 hr808) (by simp -implicitDefEqProofs only [go_sem,b33,b35,b177,b229,b620,b677] <;> rfl) (za _) (by first | exact pers | exact scal rfl) ?_
       cases h
       try simp -implicitDefEqProofs only [go_sem,b33,b35,b177,b229,b620,b677]
       all_goals ((repeat' apply And.intro) <;> rfl)
      ·replace h:=zd h b677
       cases h
       try simp -implicitDefEqProofs only [go_sem,b33,b35,b177,b229,b620,b677]
       all_goals ((repeat' apply And.intro) <;> rfl)
     ·replace h:=zd h b620
      cases h
      try simp -implicitDefEqProofs only [go_sem,b33,b35,b177,b229,b620]
      all_goals ((repeat' apply And.intro) <;> rfl)
    ·replace h:=zd h b229
     cases h
     try simp -implicitDefEqProofs only [go_sem,b33,b35,b177,b229]
     all_goals ((repeat' apply And.intro) <;> rfl)
   ·replace h:=zd h b177
    cases h
    try simp -implicitDefEqProofs only [go_sem,b33,b35,b177]
    all_goals ((repeat' apply And.intro) <;> rfl)
  ·replace h:=zd h b35
   cases h
   try simp -implicitDefEqProofs only [go_sem,b33,b35]
   all_goals ((repeat' apply And.intro) <;> rfl)
 ·replace h:=zd h b33
  cases h
  try simp -implicitDefEqProofs only [go_sem,b33]
  all_goals ((repeat' apply And.intro) <;> rfl)
end
end Go.Proofs.YtimojjnmmlhijaaGreat
set_option maxRecDepth 20000
namespace Go.Proofs.YtimojjnmmlhijaaGreat
open Go.Abs


noncomputable section
set_option maxHeartbeats 4000000 in
theorem zil (a0:Types) (a1:zm) (r:(List Int)×(List Int)×Int) (h:zde a0 a1=some r):CallF Tryz.prog 64 [.agg [.lst (a0.nodes.map encNode),.lst (a0.edges.map encEdgeT)],.agg (z6 a1)] (fun v=>v = .tup [.row 3 1 (r.1.map encI),.row 3 1 (r.2.1.map encI),.p (.val (.int .i64 r.2.2))]):=by
 refine CallF.rle ?_
 refine zbl [] Ty.mixed Tryz.func64 rfl (by kernel_rfl) (by simp [Tryz.ntmps64]) ?_; rw [Tryz.ntmps64,Tryz.results64]
 unfold zde at h
 obtain ⟨r3160,hr3160,h⟩:=thn_s h
 try simp -implicitDefEqProofs only [go_sem]
 refine callG (zjc a0 (⟨a1.name,a1.left,a1.right,a1.keep,a1.into,a1.injective,a1.condition⟩:zm) r3160 hr3160) (by simp -implicitDefEqProofs only [go_sem] <;> rfl) (za _) (by first | exact pers | exact scal rfl) ?_
 try simp -implicitDefEqProofs only [go_sem]
 refine zf (fun b3161=>?_) (fun b3161=>?_)
 ·replace h:=ze h b3161
  obtain ⟨r3168,hr3168,h⟩:=thn_s h
  try simp -implicitDefEqProofs only [go_sem,b3161]
  refine callfG 1288 (zlr (⟨a1.name,a1.left,a1.right,a1.keep,a1.into,a1.injective,a1.condition⟩:zm) r3168 hr3168) (by simp -implicitDefEqProofs only [go_sem,b3161] <;> rfl) (za _) (by first | exact persF | exact flatF rfl | exact flatF (by simp [RV.flat,RV.flatL,PV.scalar,isVal,encI,encI])) (by simp -implicitDefEqProofs only [go_sem,b3161]) ?_
  cases h
  try simp -implicitDefEqProofs only [go_sem,b3161]
  refine ⟨by decide,_,.refl _,?_⟩
  simp -implicitDefEqProofs only [go_sem,b3161] <;> ((repeat' apply And.intro) <;> rfl)
 ·replace h:=zd h b3161
  cases h
  try simp -implicitDefEqProofs only [go_sem,b3161]
  refine ⟨by decide,_,.refl _,?_⟩
  simp -implicitDefEqProofs only [go_sem,b3161] <;> ((repeat' apply And.intro) <;> rfl)
end
end Go.Proofs.YtimojjnmmlhijaaGreat
set_option maxRecDepth 20000
namespace Go.Proofs.YtimojjnmmlhijaaGreat
open Go.Abs


noncomputable section
set_option maxHeartbeats 4000000 in
theorem zlo (a0:Types) (a1:zm) (r:(List Int)×(List Int)×Int) (h:zd4 a0 a1=some r):CallF Tryz.prog 75 [.agg [.lst (a0.nodes.map encNode),.lst (a0.edges.map encEdgeT)],.agg (z6 a1)] (fun v=>v = .tup [.row 3 1 (r.1.map encI),.row 3 1 (r.2.1.map encI),.p (.val (.int .i64 r.2.2))]):=by
 refine CallF.rle ?_
 refine zbl [] Ty.mixed Tryz.func75 rfl (by kernel_rfl) (by simp [Tryz.ntmps75]) ?_; rw [Tryz.ntmps75,Tryz.results75]
 unfold zd4 at h
 obtain ⟨r3445,hr3445,h⟩:=thn_s h
 try simp -implicitDefEqProofs only [go_sem]
 refine callG (zjc a0 a1 r3445 hr3445) (by simp -implicitDefEqProofs only [go_sem] <;> rfl) (za _) (by first | exact pers | exact scal rfl) ?_
 try simp -implicitDefEqProofs only [go_sem]
 refine zf (fun b3446=>?_) (fun b3446=>?_)
 ·replace h:=ze h b3446
  obtain ⟨r3447,hr3447,h⟩:=thn_s h
  try simp -implicitDefEqProofs only [go_sem,b3446]
  refine callfG 1288 (zin a1 r3447 hr3447) (by simp -implicitDefEqProofs only [go_sem,b3446] <;> rfl) (za _) (by first | exact persF | exact flatF rfl | exact flatF (by simp [RV.flat,RV.flatL,PV.scalar,isVal,encI,encI])) (by simp -implicitDefEqProofs only [go_sem,b3446]) ?_
  cases h
  try simp -implicitDefEqProofs only [go_sem,b3446]
  refine ⟨by decide,_,.refl _,?_⟩
  simp -implicitDefEqProofs only [go_sem,b3446] <;> ((repeat' apply And.intro) <;> rfl)
 ·replace h:=zd h b3446
  cases h
  try simp -implicitDefEqProofs only [go_sem,b3446]
  refine ⟨by decide,_,.refl _,?_⟩
  simp -implicitDefEqProofs only [go_sem,b3446] <;> ((repeat' apply And.intro) <;> rfl)
end
end Go.Proofs.YtimojjnmmlhijaaGreat
set_option maxRecDepth 20000
namespace Go.Proofs.YtimojjnmmlhijaaGreat
open Go.Abs


noncomputable section
set_option maxHeartbeats 4000000 in
theorem zmg (a0:Types) (a1:List zm) (r:Int) (h:zej a0 a1=some r):CallV Tryz.prog 34 [.agg [.lst (a0.nodes.map encNode),.lst (a0.edges.map encEdgeT)],.lst (a1.map z6)] (fun v=>v = .val (.int .i64 r)):=by
 refine CallV.ple ?_
 refine zc [] Ty.mixed Tryz.func34 rfl (by kernel_rfl) (by simp [Tryz.ntmps34]) ?_; rw [Tryz.ntmps34,Tryz.results34]
 unfold zej at h
 obtain ⟨r2163,hr2163,h⟩:=thn_s h
 try simp -implicitDefEqProofs only [go_sem]
 refine callG (zfu a0 r2163 hr2163) (by simp -implicitDefEqProofs only [go_sem] <;> rfl) (za _) (by first | exact pers | exact scal rfl) ?_
 try simp -implicitDefEqProofs only [go_sem]
 refine zf (fun b2164=>?_) (fun b2164=>?_)
 ·replace h:=ze h b2164
  try simp -implicitDefEqProofs only [go_sem,b2164]
  refine zb (fun b2165=>?_) (fun b2165=>?_)
  ·replace h:=ze h b2165
   cases h
   try simp -implicitDefEqProofs only [go_sem,b2164,b2165]
   all_goals ((repeat' apply And.intro) <;> rfl)
  ·replace h:=zd h b2165
   obtain ⟨fus3231,h⟩:=chk_s h
   unfold fuel at fus3231
   try simp -implicitDefEqProofs only [go_sem,b2164,b2165]
   refine z7 (fun x:(Nat×(Unit))×(Unit)=>envL [(1,.p (.lst (a1.map z6))),(2,.ptr 2 0),(7,.p (.val (.int .i64 ((x.1.1:Nat):Int))))]) (fun x=>heapL [(2,.box [.p (.lst (a0.nodes.map encNode)),.p (.lst (a0.edges.map encEdgeT))])]) () h (weakL (by simp -implicitDefEqProofs only [go_sem,b2164,b2165] <;> ((repeat' apply And.intro) <;> rfl))) ?_ ?_
   ·intro i3231 s3231 g3231 nxts3231 Rs3231 his3231 hNs3231 h
    have hws3231:=zk (k:=i3231) his3231 (by omega)
    try dsimp only at h
    try simp -implicitDefEqProofs only [go_sem,b2164,b2165,his3231,hws3231]
    refine zbd [.q,.q,.q,.q,.q,.q,.q,.q,.q,.q,.q,.q,.q] (by kernel_rfl) ?_
    obtain ⟨e3250,c3250,g3250,q3250,h⟩:=idx_s z6 h
    obtain ⟨r3251,hr3251,h⟩:=thn_s h
    try simp -implicitDefEqProofs only [go_sem,b2164,b2165,his3231,hws3231,c3250,g3250]
    refine calldG (show CallV _ _ _ (fun v=>v = .tup [.lst (r3251.1.map encI),.lst (r3251.2.1.map encI),.val (.int .i64 r3251.2.2)]) from (zil a0 e3250 r3251 hr3251).toV1) (by simp -implicitDefEqProofs only [go_sem,b2164,b2165,his3231,hws3231,c3250,g3250] <;> rfl) (za _) (by first | exact pers | exact scal rfl) ?_
    try simp -implicitDefEqProofs only [go_sem,b2164,b2165,his3231,hws3231,c3250,g3250]
    refine zf (fun b3252=>?_) (fun b3252=>?_)
    ·replace h:=ze h b3252
     obtain ⟨fus3259,h⟩:=chk_s h
     unfold fuel at fus3259
     try simp -implicitDefEqProofs only [go_sem,b2164,b2165,his3231,hws3231,c3250,g3250,b3252]
     refine z7 (fun x:(Nat×(Unit))×(Unit)=>envL [(1,.p (.lst (a1.map z6))),(2,.ptr 2 0),(7,.p (.val (.int .i64 ((i3231:Nat):Int)))),(8,.p (.lst (r3251.1.map encI))),(11,.p (.val (.int .i64 ((x.1.1:Nat):Int))))]) (fun x=>heapL [(2,.box [.p (.lst (a0.nodes.map encNode)),.p (.lst (a0.edges.map encEdgeT))])]) () h (weakL (by simp -implicitDefEqProofs only [go_sem,b2164,b2165,his3231,hws3231,c3250,g3250,b3252] <;> ((repeat' apply And.intro) <;> rfl))) ?_ ?_
     ·intro i3259 s3259 g3259 nxts3259 Rs3259 his3259 hNs3259 h
      have hws3259:=zk (k:=i3259) his3259 (by omega)
      try dsimp only at h
      try simp -implicitDefEqProofs only [go_sem,b2164,b2165,his3231,hws3231,c3250,g3250,b3252,his3259,hws3259]
      refine zbd [.q,.q,.q,.q,.q,.q,.q,.q,.q,.q,.q,.q,.q,.q,.q,.q,.q,.q,.q,.q] (by kernel_rfl) ?_
      obtain ⟨e3264,c3264,g3264,q3264,h⟩:=idx_s encI h
      obtain ⟨e3265,c3265a,c3265b,g3265,q3265,h⟩:=atZ_s encI h
      have c3265n:=zbj c3265a c3265b
      obtain ⟨r3266,hr3266,h⟩:=thn_s h
      try simp -implicitDefEqProofs only [go_sem,b2164,b2165,his3231,hws3231,c3250,g3250,b3252,his3259,hws3259,c3264,g3264,c3265a,c3265b,c3265n,g3265]
      refine calldG (show CallV _ _ _ (fun v=>v = .tup [.lst (r3266.1.map encI),.val (.int .i64 r3266.2)]) from (zmm a0 e3265 r3266 hr3266).toV1) (by simp -implicitDefEqProofs only [go_sem,b2164,b2165,his3231,hws3231,c3250,g3250,b3252,his3259,hws3259,c3264,g3264,c3265a,c3265b,c3265n,g3265] <;> rfl) (za _) (by first | exact pers | exact scal rfl) ?_
      try simp -implicitDefEqProofs only [go_sem,b2164,b2165,his3231,hws3231,c3250,g3250,b3252,his3259,hws3259,c3264,g3264,c3265a,c3265b,c3265n,g3265]
      refine zb (fun b3267=>?_) (fun b3267=>?_)
      ·replace h:=ze h b3267
       cases h
       try simp -implicitDefEqProofs only [go_sem,b2164,b2165,his3231,hws3231,c3250,g3250,b3252,his3259,hws3259,c3264,g3264,c3265a,c3265b,c3265n,g3265,b3267]
       all_goals ((repeat' apply And.intro) <;> rfl)
      ·replace h:=zd h b3267
       try simp -implicitDefEqProofs only [go_sem,b2164,b2165,his3231,hws3231,c3250,g3250,b3252,his3259,hws3259,c3264,g3264,c3265a,c3265b,c3265n,g3265,b3267]
       exact hNs3259 () () h (weakL (by simp -implicitDefEqProofs only [go_sem,b2164,b2165,his3231,hws3231,c3250,g3250,b3252,his3259,hws3259,c3264,g3264,c3265a,c3265b,c3265n,g3265,b3267] <;> ((repeat' apply And.intro) <;> rfl)))
     ·intro i3259 s3259 g3259 Rs3259 hes3259 h
      have hns3259:¬ (i3259 < r3251.1.length):=by omega
      try dsimp only at h
      try simp -implicitDefEqProofs only [go_sem,b2164,b2165,his3231,hws3231,c3250,g3250,b3252,hns3259]
      exact hNs3231 () () h (weakL (by simp -implicitDefEqProofs only [go_sem,b2164,b2165,his3231,hws3231,c3250,g3250,b3252,hns3259] <;> ((repeat' apply And.intro) <;> rfl)))
    ·replace h:=zd h b3252
     cases h
     try simp -implicitDefEqProofs only [go_sem,b2164,b2165,his3231,hws3231,c3250,g3250,b3252]
     all_goals ((repeat' apply And.intro) <;> rfl)
   ·intro i3231 s3231 g3231 Rs3231 hes3231 h
    have hns3231:¬ (i3231 < a1.length):=by omega
    try dsimp only at h
    cases h
    try simp -implicitDefEqProofs only [go_sem,b2164,b2165,hns3231]
    all_goals ((repeat' apply And.intro) <;> rfl)
 ·replace h:=zd h b2164
  cases h
  try simp -implicitDefEqProofs only [go_sem,b2164]
  all_goals ((repeat' apply And.intro) <;> rfl)
end
end Go.Proofs.YtimojjnmmlhijaaGreat
set_option maxRecDepth 20000
namespace Go.Proofs.YtimojjnmmlhijaaGreat
open Go.Abs


noncomputable section
set_option maxHeartbeats 4000000 in
theorem zua (a0:Types) (a1:zm) (r:(List Int)×(List Int)×Int) (h:zhq a0 a1=some r):CallF Tryz.prog 84 [.agg [.lst (a0.nodes.map encNode),.lst (a0.edges.map encEdgeT)],.agg (z6 a1)] (fun v=>v = .tup [.row 3 1 (r.1.map encI),.row 3 1 (r.2.1.map encI),.p (.val (.int .i64 r.2.2))]):=by
 refine CallF.rle ?_
 refine zbl [] Ty.mixed Tryz.func84 rfl (by kernel_rfl) (by simp [Tryz.ntmps84]) ?_; rw [Tryz.ntmps84,Tryz.results84]
 unfold zhq at h
 obtain ⟨r809,hr809,h⟩:=thn_s h
 try simp -implicitDefEqProofs only [go_sem]
 refine callG (zp8 a0 (⟨a1.name,a1.left,a1.right,a1.keep,a1.into,a1.injective,a1.condition⟩:zm) r809 hr809) (by simp -implicitDefEqProofs only [go_sem] <;> rfl) (za _) (by first | exact pers | exact scal rfl) ?_
 try simp -implicitDefEqProofs only [go_sem]
 refine zf (fun b810=>?_) (fun b810=>?_)
 ·replace h:=ze h b810
  obtain ⟨r817,hr817,h⟩:=thn_s h
  try simp -implicitDefEqProofs only [go_sem,b810]
  refine callfG 1288 (zti (⟨a1.name,a1.left,a1.right,a1.keep,a1.into,a1.injective,a1.condition⟩:zm) r817 hr817) (by simp -implicitDefEqProofs only [go_sem,b810] <;> rfl) (za _) (by first | exact persF | exact flatF rfl | exact flatF (by simp [RV.flat,RV.flatL,PV.scalar,isVal,encI,encI])) (by simp -implicitDefEqProofs only [go_sem,b810]) ?_
  cases h
  try simp -implicitDefEqProofs only [go_sem,b810]
  refine ⟨by decide,_,.refl _,?_⟩
  simp -implicitDefEqProofs only [go_sem,b810] <;> ((repeat' apply And.intro) <;> rfl)
 ·replace h:=zd h b810
  cases h
  try simp -implicitDefEqProofs only [go_sem,b810]
  refine ⟨by decide,_,.refl _,?_⟩
  simp -implicitDefEqProofs only [go_sem,b810] <;> ((repeat' apply And.intro) <;> rfl)
end
end Go.Proofs.YtimojjnmmlhijaaGreat
set_option maxRecDepth 20000
namespace Go.Proofs.YtimojjnmmlhijaaGreat
open Go.Abs


noncomputable section
set_option maxHeartbeats 4000000 in
theorem zty (a0:Types) (a1:zm) (r:(List Int)×(List Int)×Int) (h:zgt a0 a1=some r):CallF Tryz.prog 87 [.agg [.lst (a0.nodes.map encNode),.lst (a0.edges.map encEdgeT)],.agg (z6 a1)] (fun v=>v = .tup [.row 3 1 (r.1.map encI),.row 3 1 (r.2.1.map encI),.p (.val (.int .i64 r.2.2))]):=by
 refine CallF.rle ?_
 refine zbl [] Ty.mixed Tryz.func87 rfl (by kernel_rfl) (by simp [Tryz.ntmps87]) ?_; rw [Tryz.ntmps87,Tryz.results87]
 unfold zgt at h
 obtain ⟨r849,hr849,h⟩:=thn_s h
 try simp -implicitDefEqProofs only [go_sem]
 refine callG (zp8 a0 a1 r849 hr849) (by simp -implicitDefEqProofs only [go_sem] <;> rfl) (za _) (by first | exact pers | exact scal rfl) ?_
 try simp -implicitDefEqProofs only [go_sem]
 refine zf (fun b850=>?_) (fun b850=>?_)
 ·replace h:=ze h b850
  obtain ⟨r851,hr851,h⟩:=thn_s h
  try simp -implicitDefEqProofs only [go_sem,b850]
  refine callfG 1288 (znp a1 r851 hr851) (by simp -implicitDefEqProofs only [go_sem,b850] <;> rfl) (za _) (by first | exact persF | exact flatF rfl | exact flatF (by simp [RV.flat,RV.flatL,PV.scalar,isVal,encI,encI])) (by simp -implicitDefEqProofs only [go_sem,b850]) ?_
  cases h
  try simp -implicitDefEqProofs only [go_sem,b850]
  refine ⟨by decide,_,.refl _,?_⟩
  simp -implicitDefEqProofs only [go_sem,b850] <;> ((repeat' apply And.intro) <;> rfl)
 ·replace h:=zd h b850
  cases h
  try simp -implicitDefEqProofs only [go_sem,b850]
  refine ⟨by decide,_,.refl _,?_⟩
  simp -implicitDefEqProofs only [go_sem,b850] <;> ((repeat' apply And.intro) <;> rfl)
end
end Go.Proofs.YtimojjnmmlhijaaGreat
set_option maxRecDepth 20000
namespace Go.Proofs.YtimojjnmmlhijaaGreat
open Go.Abs


noncomputable section
set_option maxHeartbeats 4000000 in
theorem zls (a0:Types) (a1:zm) (r:(List Int)) (h:zdc a0 a1=some r):CallF Tryz.prog 49 [.agg [.lst (a0.nodes.map encNode),.lst (a0.edges.map encEdgeT)],.agg (z6 a1)] (fun v=>v = .row 3 1 (r.map encI)):=by
 refine CallF.rle ?_
 refine zbl [] Ty.mixed Tryz.func49 rfl (by kernel_rfl) (by simp [Tryz.ntmps49]) ?_; rw [Tryz.ntmps49,Tryz.results49]
 unfold zdc at h
 obtain ⟨r3448,hr3448,h⟩:=thn_s h
 try simp -implicitDefEqProofs only [go_sem]
 refine callfG 1176 (zlo a0 a1 r3448 hr3448) (by simp -implicitDefEqProofs only [go_sem] <;> rfl) (za _) (by first | exact persF | exact flatF rfl | exact flatF (by simp [RV.flat,RV.flatL,PV.scalar,isVal,encI,encI])) (by simp -implicitDefEqProofs only [go_sem]) ?_
 obtain ⟨r3449,hr3449,h⟩:=thn_s h
 try simp -implicitDefEqProofs only [go_sem]
 refine callfG 1336 (zis a0 a1.right.graph r3448.1 r3448.2.1 r3449 hr3449) (by simp -implicitDefEqProofs only [go_sem] <;> rfl) (za _) (by first | exact persF | exact flatF rfl | exact flatF (by simp [RV.flat,RV.flatL,PV.scalar,isVal,encI])) (by simp -implicitDefEqProofs only [go_sem]) ?_
 cases h
 try simp -implicitDefEqProofs only [go_sem]
 refine ⟨by decide,_,.refl _,?_⟩
 simp -implicitDefEqProofs only [go_sem] <;> ((repeat' apply And.intro) <;> rfl)
end
end Go.Proofs.YtimojjnmmlhijaaGreat
set_option maxRecDepth 20000
namespace Go.Proofs.YtimojjnmmlhijaaGreat
open Go.Abs


noncomputable section
set_option maxHeartbeats 4000000 in
theorem zik (a0:Types) (a1:zm) (r:(List Int)) (h:zcm a0 a1=some r):CallF Tryz.prog 35 [.agg [.lst (a0.nodes.map encNode),.lst (a0.edges.map encEdgeT)],.agg (z6 a1)] (fun v=>v = .row 3 1 (r.map encI)):=by
 refine CallF.rle ?_
 refine zbl [] Ty.mixed Tryz.func35 rfl (by kernel_rfl) (by simp [Tryz.ntmps35]) ?_; rw [Tryz.ntmps35,Tryz.results35]
 unfold zcm at h
 obtain ⟨r3273,hr3273,h⟩:=thn_s h
 try simp -implicitDefEqProofs only [go_sem]
 refine callfG 1176 (zil a0 a1 r3273 hr3273) (by simp -implicitDefEqProofs only [go_sem] <;> rfl) (za _) (by first | exact persF | exact flatF rfl | exact flatF (by simp [RV.flat,RV.flatL,PV.scalar,isVal,encI,encI])) (by simp -implicitDefEqProofs only [go_sem]) ?_
 obtain ⟨r3411,hr3411,h⟩:=thn_s h
 try simp -implicitDefEqProofs only [go_sem]
 refine callfG 1336 (zis a0 a1.left.graph r3273.1 r3273.2.1 r3411 hr3411) (by simp -implicitDefEqProofs only [go_sem] <;> rfl) (za _) (by first | exact persF | exact flatF rfl | exact flatF (by simp [RV.flat,RV.flatL,PV.scalar,isVal,encI])) (by simp -implicitDefEqProofs only [go_sem]) ?_
 cases h
 try simp -implicitDefEqProofs only [go_sem]
 refine ⟨by decide,_,.refl _,?_⟩
 simp -implicitDefEqProofs only [go_sem] <;> ((repeat' apply And.intro) <;> rfl)
end
end Go.Proofs.YtimojjnmmlhijaaGreat
set_option maxRecDepth 20000
namespace Go.Proofs.YtimojjnmmlhijaaGreat
open Go.Abs


noncomputable section
end
end Go.Proofs.YtimojjnmmlhijaaGreat
set_option maxRecDepth 20000
namespace Go.Proofs.YtimojjnmmlhijaaGreat
open Go.Abs


noncomputable section
set_option maxHeartbeats 4000000 in
theorem zma (a0:Types) (a1:List zm) (a2:List Int) (r:(List Int)×(List Int)) (h:zds a0 a1 a2=some r):CallF Tryz.prog 71 [.agg [.lst (a0.nodes.map encNode),.lst (a0.edges.map encEdgeT)],.lst (a1.map z6),.lst (a2.map encI)] (fun v=>v = .tup [.row 3 1 (r.1.map encI),.row 3 1 (r.2.map encI)]):=by
 refine CallF.rle ?_
 refine zbl [16,18,55] Ty.mixed Tryz.func71 rfl (by kernel_rfl) (by simp [Tryz.ntmps71]) ?_; rw [Tryz.ntmps71,Tryz.results71]
 unfold zds at h
 obtain ⟨c3510,h⟩:=chk_s h
 have k3511:=eq_true (show (a2.length) * 8≤140737488355328 by omega)
 have k3512:=eq_true (zif (n:=1) (f:=encI) (fun _=>rfl) a2)
 obtain ⟨fus3542,h⟩:=chk_s h
 unfold fuel at fus3542
 try simp -implicitDefEqProofs only [go_sem,c3510,k3511,k3512]
 refine z7 (fun x:(Nat×((List Int)×(List Int)))×(Nat×Nat)=>envL [(1,.p (.lst (a1.map z6))),(2,.p (.lst (a2.map encI))),(3,.ptr 3 0),(8,.row 5540 x.2.1),(9,.row 16 x.2.2),(10,.p (.val (.int .i64 ((x.1.1:Nat):Int))))]) (fun x=>heapL [(3,.box [.p (.lst (a0.nodes.map encNode)),.p (.lst (a0.edges.map encEdgeT))]),(5540,.row x.2.1 3 1 (x.1.2.1.map encI)),(16,.row x.2.2 3 1 (x.1.2.2.map encI))]) (0,1) h (by refine Weak.trans (zha 8 5540 3 1 rfl rfl (by decide)) ?_; exact (weakL (by simp -implicitDefEqProofs only [go_sem,c3510,k3511,k3512] <;> ((repeat' apply And.intro) <;> rfl)))) ?_ ?_
 ·intro i3542 s3542 g3542 nxts3542 Rs3542 his3542 hNs3542 h
  have hws3542:=zk (k:=i3542) his3542 (by omega)
  try dsimp only at h
  try simp -implicitDefEqProofs only [go_sem,c3510,k3511,k3512,his3542,hws3542]
  refine zbd [.q,.q,.q,.q,.q,.q,.q,.q,.q,.q,.q,.q,.q,.q] (by kernel_rfl) ?_
  obtain ⟨e3570,c3570,g3570,q3570,h⟩:=idx_s z6 h
  obtain ⟨r3571,hr3571,h⟩:=thn_s h
  try simp -implicitDefEqProofs only [go_sem,c3510,k3511,k3512,his3542,hws3542,c3570,g3570]
  refine calldG (show CallV _ _ _ (fun v=>v = .lst (r3571.map encI)) from (zik a0 e3570 r3571 hr3571).toV1) (by simp -implicitDefEqProofs only [go_sem,c3510,k3511,k3512,his3542,hws3542,c3570,g3570] <;> rfl) (za _) (by first | exact pers | exact scal rfl) ?_
  obtain ⟨r3572,hr3572,h⟩:=thn_s h
  try simp -implicitDefEqProofs only [go_sem,c3510,k3511,k3512,his3542,hws3542,c3570,g3570]
  refine calldG (show CallV _ _ _ (fun v=>v = .lst (r3572.map encI)) from (zls a0 e3570 r3572 hr3572).toV1) (by simp -implicitDefEqProofs only [go_sem,c3510,k3511,k3512,his3542,hws3542,c3570,g3570] <;> rfl) (za _) (by first | exact pers | exact scal rfl) ?_
  obtain ⟨fus3577,h⟩:=chk_s h
  unfold fuel at fus3577
  try simp -implicitDefEqProofs only [go_sem,c3510,k3511,k3512,his3542,hws3542,c3570,g3570]
  refine z7 (fun x:(Nat×(Int))×(Unit)=>envL [(1,.p (.lst (a1.map z6))),(2,.p (.lst (a2.map encI))),(3,.ptr 3 0),(8,.row 5540 g3542.1),(9,.row 16 g3542.2),(10,.p (.val (.int .i64 ((i3542:Nat):Int)))),(11,.p (.lst (r3571.map encI))),(12,.p (.lst (r3572.map encI))),(13,.p (.val (.int .i64 x.1.2))),(14,.p (.val (.int .i64 ((x.1.1:Nat):Int))))]) (fun x=>heapL [(3,.box [.p (.lst (a0.nodes.map encNode)),.p (.lst (a0.edges.map encEdgeT))]),(5540,.row g3542.1 3 1 (s3542.1.map encI)),(16,.row g3542.2 3 1 (s3542.2.map encI))]) () h (weakL (by simp -implicitDefEqProofs only [go_sem,c3510,k3511,k3512,his3542,hws3542,c3570,g3570] <;> ((repeat' apply And.intro) <;> rfl))) ?_ ?_
  ·intro i3577 s3577 g3577 nxts3577 Rs3577 his3577 hNs3577 h
   have hws3577:=zk (k:=i3577) his3577 (by omega)
   try dsimp only at h
   obtain ⟨e3580,c3580,g3580,q3580,h⟩:=idx_s encI h
   obtain ⟨e3581,c3581a,c3581b,g3581,q3581,h⟩:=atZ_s encI h
   have c3581n:=zbj c3581a c3581b
   try simp -implicitDefEqProofs only [go_sem,c3510,k3511,k3512,his3542,hws3542,c3570,g3570,his3577,hws3577,c3580,g3580,c3581a,c3581b,c3581n,g3581]
   exact hNs3577 (max s3577 e3581) () h (weakL (by simp -implicitDefEqProofs only [go_sem,c3510,k3511,k3512,his3542,hws3542,c3570,g3570,his3577,hws3577,c3580,g3580,c3581a,c3581b,c3581n,g3581] <;> ((repeat' apply And.intro) <;> rfl)))
  ·intro i3577 s3577 g3577 Rs3577 hes3577 h
   have hns3577:¬ (i3577 < r3571.length):=by omega
   try dsimp only at h
   obtain ⟨c3582,h⟩:=chk_s h
   have k3583:=eq_true (show (s3542.1.length+1) * 8≤140737488355328 by omega)
   have a3584:=ze2 encI s3542.1 [s3577] (c:=[[.val (.int .i64 s3577)]]) rfl
   obtain ⟨fus3590,h⟩:=chk_s h
   unfold fuel at fus3590
   try simp -implicitDefEqProofs only [go_sem,c3510,k3511,k3512,his3542,hws3542,c3570,g3570,hns3577,c3582,k3583,a3584]
   refine z7 (fun x:(Nat×((List Int)))×(Nat)=>envL [(1,.p (.lst (a1.map z6))),(2,.p (.lst (a2.map encI))),(3,.ptr 3 0),(8,.row 5540 (g3542.1+1)),(9,.row 16 x.2),(10,.p (.val (.int .i64 ((i3542:Nat):Int)))),(12,.p (.lst (r3572.map encI))),(13,.p (.val (.int .i64 s3577))),(15,.p (.val (.int .i64 ((x.1.1:Nat):Int))))]) (fun x=>heapL [(3,.box [.p (.lst (a0.nodes.map encNode)),.p (.lst (a0.edges.map encEdgeT))]),(5540,.row (g3542.1+1) 3 1 ((s3542.1++[s3577]).map encI)),(16,.row x.2 3 1 (x.1.2.map encI))]) g3542.2 h (weakL (by simp -implicitDefEqProofs only [go_sem,c3510,k3511,k3512,his3542,hws3542,c3570,g3570,hns3577,c3582,k3583,a3584] <;> ((repeat' apply And.intro) <;> rfl))) ?_ ?_
   ·intro i3590 s3590 g3590 nxts3590 Rs3590 his3590 hNs3590 h
    have hws3590:=zk (k:=i3590) his3590 (by omega)
    try dsimp only at h
    try simp -implicitDefEqProofs only [go_sem,c3510,k3511,k3512,his3542,hws3542,c3570,g3570,hns3577,c3582,k3583,a3584,his3590,hws3590]
    refine zbd [.q,.q,.q,.q,.q,.q,.q,.q,.q,.q,.q,.q,.q,.q,.q,.q,.w] (by kernel_rfl) ?_
    obtain ⟨e3594,c3594,g3594,q3594,h⟩:=idx_s encI h
    obtain ⟨e3595,c3595a,c3595b,g3595,q3595,h⟩:=atZ_s encI h
    have c3595n:=zbj c3595a c3595b
    have s3596:=zok encI s3590 e3594.toNat (max e3595 (IntKind.i64.wrap (s3577+1))) (c:=[.val (.int .i64 (max e3595 (IntKind.i64.wrap (s3577+1))))]) rfl
    try simp -implicitDefEqProofs only [go_sem,c3510,k3511,k3512,his3542,hws3542,c3570,g3570,hns3577,c3582,k3583,a3584,his3590,hws3590,c3594,g3594,c3595a,c3595b,c3595n,g3595,s3596]
    exact hNs3590 (s3590.set e3594.toNat (max e3595 (IntKind.i64.wrap (s3577+1)))) g3590 h (weakL (by simp -implicitDefEqProofs only [go_sem,c3510,k3511,k3512,his3542,hws3542,c3570,g3570,hns3577,c3582,k3583,a3584,his3590,hws3590,c3594,g3594,c3595a,c3595b,c3595n,g3595,s3596] <;> ((repeat' apply And.intro) <;> rfl)))
   ·intro i3590 s3590 g3590 Rs3590 hes3590 h
    have hns3590:¬ (i3590 < r3572.length):=by omega
    try dsimp only at h
    try simp -implicitDefEqProofs only [go_sem,c3510,k3511,k3512,his3542,hws3542,c3570,g3570,hns3577,c3582,k3583,a3584,hns3590]
    exact hNs3542 ((s3542.1++[s3577]),s3590) (g3542.1+1,g3590) h (weakL (by simp -implicitDefEqProofs only [go_sem,c3510,k3511,k3512,his3542,hws3542,c3570,g3570,hns3577,c3582,k3583,a3584,hns3590] <;> ((repeat' apply And.intro) <;> rfl)))
 ·intro i3542 s3542 g3542 Rs3542 hes3542 h
  have hns3542:¬ (i3542 < a1.length):=by omega
  try dsimp only at h
  cases h
  try simp -implicitDefEqProofs only [go_sem,c3510,k3511,k3512,hns3542]
  refine ⟨by decide,_,.refl _,?_⟩
  simp -implicitDefEqProofs only [go_sem,c3510,k3511,k3512,hns3542] <;> ((repeat' apply And.intro) <;> rfl)
end
end Go.Proofs.YtimojjnmmlhijaaGreat
set_option maxRecDepth 20000
namespace Go.Proofs.YtimojjnmmlhijaaGreat
open Go.Abs


noncomputable section
end
end Go.Proofs.YtimojjnmmlhijaaGreat
set_option maxRecDepth 20000
namespace Go.Proofs.YtimojjnmmlhijaaGreat
open Go.Abs


noncomputable section
set_option maxHeartbeats 4000000 in
theorem zvo (a0:Types) (a1:zm) (r:zl×Int) (h:zia a0 a1=some r):CallF Tryz.prog 59 [.agg [.lst (a0.nodes.map encNode),.lst (a0.edges.map encEdgeT)],.agg (z6 a1)] (fun v=>v = .tup [.agg [.row 3 1 (r.1.deletes.map encI),.row 3 1 (r.1.creates.map encI)],.p (.val (.int .i64 r.2))]):=by
 refine CallF.rle ?_
 refine zbl [] Ty.mixed Tryz.func59 rfl (by kernel_rfl) (by simp [Tryz.ntmps59]) ?_; rw [Tryz.ntmps59,Tryz.results59]
 unfold zia at h
 obtain ⟨r939,hr939,h⟩:=thn_s h
 try simp -implicitDefEqProofs only [go_sem]
 refine callfG 1272 (zua a0 a1 r939 hr939) (by simp -implicitDefEqProofs only [go_sem] <;> rfl) (za _) (by first | exact persF | exact flatF rfl | exact flatF (by simp [RV.flat,RV.flatL,PV.scalar,isVal,encI,encI])) (by simp -implicitDefEqProofs only [go_sem]) ?_
 try simp -implicitDefEqProofs only [go_sem]
 refine zf (fun b940=>?_) (fun b940=>?_)
 ·replace h:=ze h b940
  obtain ⟨fus947,h⟩:=chk_s h
  unfold fuel at fus947
  try simp -implicitDefEqProofs only [go_sem,b940]
  refine z7 (fun x:(Nat×(Unit))×(Unit)=>envL [(2,.ptr 2 0),(3,.ptr 3 0),(4,.ptr 4 0),(6,.row 1272 0),(7,.row 1273 0),(25,.row 1272 0),(26,.p (.val (.int .i64 ((r939.1.length:Nat):Int)))),(27,.p (.val (.int .i64 ((x.1.1:Nat):Int))))]) (fun x=>heapL [(2,.box [.p (.lst (a0.nodes.map encNode)),.p (.lst (a0.edges.map encEdgeT))]),(3,.box ((z6 a1).map .p)),(4,.box [.p (.val (.slice none 0 0)),.p (.val (.slice none 0 0))]),(1272,.row 0 3 1 (r939.1.map encI)),(1273,.row 0 3 1 (r939.2.1.map encI))]) () h (weakL (by simp -implicitDefEqProofs only [go_sem,b940] <;> ((repeat' apply And.intro) <;> rfl))) ?_ ?_
  ·intro i947 s947 g947 nxts947 Rs947 his947 hNs947 h
   have hws947:=zk (k:=i947) his947 (by omega)
   try dsimp only at h
   obtain ⟨e952,c952,g952,q952,h⟩:=idx_s encI h
   obtain ⟨r953,hr953,h⟩:=thn_s h
   try simp -implicitDefEqProofs only [go_sem,b940,his947,hws947,c952,g952]
   refine callG (zke a0.nodes (fun x954=>zg5 x954 a1 e952) 86 [] [.eptr (z6 a1) 0,.eptr [.val (.int .i64 e952)] 0] (fun x954 r h=>zsu x954 a1 e952 r h) r953 hr953) (by simp -implicitDefEqProofs only [go_sem,b940,his947,hws947,c952,g952] <;> rfl) (za _) (by first | exact pers | exact scal rfl) ?_
   try simp -implicitDefEqProofs only [go_sem,b940,his947,hws947,c952,g952]
   refine zb (fun b955=>?_) (fun b955=>?_)
   ·replace h:=ze h b955
    cases h
    try simp -implicitDefEqProofs only [go_sem,b940,his947,hws947,c952,g952,b955]
    refine ⟨by decide,_,.refl _,?_⟩
    simp -implicitDefEqProofs only [go_sem,b940,his947,hws947,c952,g952,b955] <;> ((repeat' apply And.intro) <;> rfl)
   ·replace h:=zd h b955
    try simp -implicitDefEqProofs only [go_sem,b940,his947,hws947,c952,g952,b955]
    exact hNs947 () () h (weakL (by simp -implicitDefEqProofs only [go_sem,b940,his947,hws947,c952,g952,b955] <;> ((repeat' apply And.intro) <;> rfl)))
  ·intro i947 s947 g947 Rs947 hes947 h
   have hns947:¬ (i947 < r939.1.length):=by omega
   try dsimp only at h
   obtain ⟨r956,hr956,h⟩:=thn_s h
   try simp -implicitDefEqProofs only [go_sem,b940,hns947]
   refine callfG 1640 (zty a0 a1 r956 hr956) (by simp -implicitDefEqProofs only [go_sem,b940,hns947] <;> rfl) (za _) (by first | exact persF | exact flatF rfl | exact flatF (by simp [RV.flat,RV.flatL,PV.scalar,isVal,encI,encI])) (by simp -implicitDefEqProofs only [go_sem,b940,hns947]) ?_
   try simp -implicitDefEqProofs only [go_sem,b940,hns947]
   refine zhw 1272 0 3 1 (r939.1.map encI) [6] (by simp -implicitDefEqProofs only [go_sem,b940,hns947] <;> rfl) (by simp -implicitDefEqProofs only [go_sem,b940,hns947] <;> ((repeat' apply And.intro) <;> rfl)) (by decide) ?_
   refine zhw 1273 0 3 1 (r939.2.1.map encI) [7] (by simp -implicitDefEqProofs only [go_sem,b940,hns947] <;> rfl) (by simp -implicitDefEqProofs only [go_sem,b940,hns947] <;> ((repeat' apply And.intro) <;> rfl)) (by decide) ?_
   refine zhw 1640 0 3 1 (r956.1.map encI) [11] (by simp -implicitDefEqProofs only [go_sem,b940,hns947] <;> rfl) (by simp -implicitDefEqProofs only [go_sem,b940,hns947] <;> ((repeat' apply And.intro) <;> rfl)) (by decide) ?_
   refine zhw 1641 0 3 1 (r956.2.1.map encI) [12] (by simp -implicitDefEqProofs only [go_sem,b940,hns947] <;> rfl) (by simp -implicitDefEqProofs only [go_sem,b940,hns947] <;> ((repeat' apply And.intro) <;> rfl)) (by decide) ?_
   refine zfr [(0,.q),(1,.q),(2,.q),(3,.q),(4,.q),(5,.q),(7,.q),(8,.q),(9,.q),(10,.q),(6,.f),(11,.q),(12,.q),(13,.f),(14,.q),(15,.w),(16,.q)] (by kernel_rfl) ?_
   obtain ⟨r961,hr961,h⟩:=thn_s h
   try simp -implicitDefEqProofs only [go_sem,b940,hns947]
   refine calldfG 1800 (zli a0 a1.left.graph r939.1 r939.2.1 r961 hr961) (by simp -implicitDefEqProofs only [go_sem,b940,hns947] <;> rfl) (za _) (by first | exact persF | exact flatF rfl | exact flatF (by simp [RV.flat,RV.flatL,PV.scalar,isVal,encI])) (by simp -implicitDefEqProofs only [go_sem,b940,hns947]) (by simp -implicitDefEqProofs only [go_sem,b940,hns947]) ?_
   obtain ⟨r962,hr962,h⟩:=thn_s h
   try simp -implicitDefEqProofs only [go_sem,b940,hns947]
   refine calldfG 1912 (zli a0 a1.right.graph r956.1 r956.2.1 r962 hr962) (by simp -implicitDefEqProofs only [go_sem,b940,hns947] <;> rfl) (za _) (by first | exact persF | exact flatF rfl | exact flatF (by simp [RV.flat,RV.flatL,PV.scalar,isVal,encI])) (by simp -implicitDefEqProofs only [go_sem,b940,hns947]) (by simp -implicitDefEqProofs only [go_sem,b940,hns947]) ?_
   cases h
   try simp -implicitDefEqProofs only [go_sem,b940,hns947]
   refine ⟨by decide,_,.refl _,?_⟩
   simp -implicitDefEqProofs only [go_sem,b940,hns947] <;> ((repeat' apply And.intro) <;> rfl)
 ·replace h:=zd h b940
  cases h
  try simp -implicitDefEqProofs only [go_sem,b940]
  refine ⟨by decide,_,.refl _,?_⟩
  simp -implicitDefEqProofs only [go_sem,b940] <;> ((repeat' apply And.intro) <;> rfl)
end
end Go.Proofs.YtimojjnmmlhijaaGreat
set_option maxRecDepth 20000
namespace Go.Proofs.YtimojjnmmlhijaaGreat
open Go.Abs


noncomputable section
end
end Go.Proofs.YtimojjnmmlhijaaGreat
set_option maxRecDepth 20000
namespace Go.Proofs.YtimojjnmmlhijaaGreat
open Go.Abs


noncomputable section
end
end Go.Proofs.YtimojjnmmlhijaaGreat
set_option maxRecDepth 20000
namespace Go.Proofs.YtimojjnmmlhijaaGreat
open Go.Abs


noncomputable section
set_option maxHeartbeats 4000000 in
theorem zmp (a0:Types) (a1:List zm) (r:zbr×Bool) (h:zdq a0 a1=some r):CallF Tryz.prog 41 [.agg [.lst (a0.nodes.map encNode),.lst (a0.edges.map encEdgeT)],.lst (a1.map z6)] (fun v=>v = .tup [.agg [.row 3 1 (r.1.rules.map encI),.p (.lst (r.1.nodes.map encI)),.p (.lst (r.1.edges.map encI))],.p (.val (.bool r.2))]):=by
 refine CallF.rle ?_
 refine zbl [35] Ty.mixed Tryz.func41 rfl (by kernel_rfl) (by simp [Tryz.ntmps41]) ?_; rw [Tryz.ntmps41,Tryz.results41]
 unfold zdq at h
 obtain ⟨fus3426,h⟩:=chk_s h
 unfold fuel at fus3426
 try simp -implicitDefEqProofs only [go_sem]
 refine z7 (fun x:(Nat×(Unit))×(Unit)=>envL [(1,.p (.lst (a1.map z6))),(2,.ptr 2 0),(4,.ptr 4 0),(6,.p (.val (.int .i64 ((x.1.1:Nat):Int))))]) (fun x=>heapL [(2,.box [.p (.lst (a0.nodes.map encNode)),.p (.lst (a0.edges.map encEdgeT))]),(4,.box [.p (.val (.slice none 0 0)),.p (.val (.slice none 0 0)),.p (.val (.slice none 0 0))])]) () h (weakL (by simp -implicitDefEqProofs only [go_sem] <;> ((repeat' apply And.intro) <;> rfl))) ?_ ?_
 ·intro i3426 s3426 g3426 nxts3426 Rs3426 his3426 hNs3426 h
  have hws3426:=zk (k:=i3426) his3426 (by omega)
  try dsimp only at h
  try simp -implicitDefEqProofs only [go_sem,his3426,hws3426]
  refine zbd [.q,.q,.q,.q,.q,.q,.q,.q] (by kernel_rfl) ?_
  obtain ⟨e3430,c3430,g3430,q3430,h⟩:=idx_s z6 h
  obtain ⟨r3431,hr3431,h⟩:=thn_s h
  try simp -implicitDefEqProofs only [go_sem,his3426,hws3426,c3430,g3430]
  refine calldG (show CallV _ _ _ (fun v=>v = .lst (r3431.map encI)) from (zik a0 e3430 r3431 hr3431).toV1) (by simp -implicitDefEqProofs only [go_sem,his3426,hws3426,c3430,g3430] <;> rfl) (za _) (by first | exact pers | exact scal rfl) ?_
  try simp -implicitDefEqProofs only [go_sem,his3426,hws3426,c3430,g3430]
  refine zb (fun b3432=>?_) (fun b3432=>?_)
  ·replace h:=ze h b3432
   cases h
   try simp -implicitDefEqProofs only [go_sem,his3426,hws3426,c3430,g3430,b3432]
   refine ⟨by decide,_,.refl _,?_⟩
   simp -implicitDefEqProofs only [go_sem,his3426,hws3426,c3430,g3430,b3432] <;> ((repeat' apply And.intro) <;> rfl)
  ·replace h:=zd h b3432
   try simp -implicitDefEqProofs only [go_sem,his3426,hws3426,c3430,g3430,b3432]
   exact hNs3426 () () h (weakL (by simp -implicitDefEqProofs only [go_sem,his3426,hws3426,c3430,g3430,b3432] <;> ((repeat' apply And.intro) <;> rfl)))
 ·intro i3426 s3426 g3426 Rs3426 hes3426 h
  have hns3426:¬ (i3426 < a1.length):=by omega
  try dsimp only at h
  obtain ⟨⟨c3433a,c3433b⟩,h⟩:=chk_s h
  have k3434:=eq_true (show (IntKind.i64.wrap (((a0.nodes.length:Nat):Int)+((a0.edges.length:Nat):Int))) * ((8:Nat):Int)≤140737488355328 by omega)
  have m3435:=zqz encI ((IntKind.i64.wrap (((a0.nodes.length:Nat):Int)+((a0.edges.length:Nat):Int))).toNat) 0 (c:=[.val (.int .i64 0)]) rfl
  try simp -implicitDefEqProofs only [go_sem,hns3426,c3433a,c3433b,k3434,m3435]
  refine zjt (fun x:((List Int)×Int)×(Unit)=>envL [(1,.p (.lst (a1.map z6))),(2,.ptr 2 0),(4,.ptr 4 0),(7,.p (.val (.int .i64 (IntKind.i64.wrap (((a0.nodes.length:Nat):Int)+((a0.edges.length:Nat):Int)))))),(8,.p (.lst (x.1.1.map encI))),(9,.p (.val (.int .i64 x.1.2)))]) (fun x=>heapL [(2,.box [.p (.lst (a0.nodes.map encNode)),.p (.lst (a0.edges.map encEdgeT))]),(4,.box [.p (.val (.slice none 0 0)),.p (.val (.slice none 0 0)),.p (.val (.slice none 0 0))])]) () h (by refine Weak.trans (zm2 35 0 3 1 ((List.replicate ((IntKind.i64.wrap (((a0.nodes.length:Nat):Int)+((a0.edges.length:Nat):Int))).toNat) 0).map encI) [8] (by simp -implicitDefEqProofs only [go_sem,hns3426,c3433a,c3433b,k3434,m3435] <;> rfl) (by simp -implicitDefEqProofs only [go_sem,hns3426,c3433a,c3433b,k3434,m3435] <;> ((repeat' apply And.intro) <;> rfl)) (by decide)) ?_; exact (weakL (by simp -implicitDefEqProofs only [go_sem,hns3426,c3433a,c3433b,k3434,m3435] <;> ((repeat' apply And.intro) <;> rfl)))) ?_
  intro s3626 g3626 nxts3626 Rs3626 hNs3626 h
  try dsimp only at h
  try simp -implicitDefEqProofs only [go_sem,hns3426,c3433a,c3433b,k3434,m3435]
  refine zb (fun b3635=>?_) (fun b3635=>?_)
  ·replace h:=ze h b3635
   obtain ⟨r3636,hr3636,h⟩:=thn_s h
   try simp -implicitDefEqProofs only [go_sem,hns3426,c3433a,c3433b,k3434,m3435,b3635]
   refine callfG 1736 (zma (⟨a0.nodes,a0.edges⟩:Types) a1 s3626.1 r3636 hr3636) (by simp -implicitDefEqProofs only [go_sem,hns3426,c3433a,c3433b,k3434,m3435,b3635] <;> rfl) (za _) (by first | exact persF | exact flatF rfl | exact flatF (by simp [RV.flat,RV.flatL,PV.scalar,isVal,encI,encI])) (by simp -implicitDefEqProofs only [go_sem,hns3426,c3433a,c3433b,k3434,m3435,b3635]) ?_
   obtain ⟨r3637,hr3637,h⟩:=thn_s h
   try simp -implicitDefEqProofs only [go_sem,hns3426,c3433a,c3433b,k3434,m3435,b3635]
   refine callG (zez s3626.1 r3636.2 r3637 hr3637) (by simp -implicitDefEqProofs only [go_sem,hns3426,c3433a,c3433b,k3434,m3435,b3635] <;> rfl) (za _) (by first | exact pers | exact scal rfl) ?_
   try simp -implicitDefEqProofs only [go_sem,hns3426,c3433a,c3433b,k3434,m3435,b3635]
   refine zb (fun b3638=>?_) (fun b3638=>?_)
   ·replace h:=ze h b3638
    try simp -implicitDefEqProofs only [go_sem,hns3426,c3433a,c3433b,k3434,m3435,b3635,b3638]
    refine zbd [.q,.q,.q,.q,.q,.q,.q,.q,.q,.q,.q,.q,.w,.q] (by kernel_rfl) ?_
    obtain ⟨⟨c3641a,c3641b,c3641c⟩,h⟩:=chk_s h
    have c3641l:=eq_true (zif (n:=1) (f:=encI) (fun _=>rfl) s3626.1)
    obtain ⟨⟨c3642a,c3642b,c3642c⟩,h⟩:=chk_s h
    have c3642l:=eq_true (zif (n:=1) (f:=encI) (fun _=>rfl) s3626.1)
    cases h
    try simp -implicitDefEqProofs only [go_sem,hns3426,c3433a,c3433b,k3434,m3435,b3635,b3638,c3641a,c3641b,c3641c,c3641l,c3642a,c3642b,c3642c,c3642l]
    refine ⟨by decide,_,.refl _,?_⟩
    simp -implicitDefEqProofs only [go_sem,hns3426,c3433a,c3433b,k3434,m3435,b3635,b3638,c3641a,c3641b,c3641c,c3641l,c3642a,c3642b,c3642c,c3642l] <;> ((repeat' apply And.intro) <;> rfl)
   ·replace h:=zd h b3638
    try simp -implicitDefEqProofs only [go_sem,hns3426,c3433a,c3433b,k3434,m3435,b3635,b3638]
    exact hNs3626 (r3636.2,(IntKind.i64.wrap (s3626.2+1))) () h (by refine Weak.trans (zm2 1737 0 3 1 (r3636.2.map encI) [8,11,48,50,64] (by simp -implicitDefEqProofs only [go_sem,hns3426,c3433a,c3433b,k3434,m3435,b3635,b3638] <;> rfl) (by simp -implicitDefEqProofs only [go_sem,hns3426,c3433a,c3433b,k3434,m3435,b3635,b3638] <;> ((repeat' apply And.intro) <;> rfl)) (by decide)) ?_; exact (weakL (by simp -implicitDefEqProofs only [go_sem,hns3426,c3433a,c3433b,k3434,m3435,b3635,b3638] <;> ((repeat' apply And.intro) <;> rfl))))
  ·replace h:=zd h b3635
   try dsimp only at h
   cases h
   try simp -implicitDefEqProofs only [go_sem,hns3426,c3433a,c3433b,k3434,m3435,b3635]
   refine ⟨by decide,_,.refl _,?_⟩
   simp -implicitDefEqProofs only [go_sem,hns3426,c3433a,c3433b,k3434,m3435,b3635] <;> ((repeat' apply And.intro) <;> rfl)
end
end Go.Proofs.YtimojjnmmlhijaaGreat
set_option maxRecDepth 20000
namespace Go.Proofs.YtimojjnmmlhijaaGreat
open Go.Abs


noncomputable section
set_option maxHeartbeats 4000000 in
theorem zjp (a0:Types) (a1:List zm) (r:(List zl)×Int) (h:ze1 a0 a1=some r):CallF Tryz.prog 29 [.agg [.lst (a0.nodes.map encNode),.lst (a0.edges.map encEdgeT)],.lst (a1.map z6)] (fun v=>v = .tup [.row 85 2 (r.1.map zy),.p (.val (.int .i64 r.2))]):=by
 refine CallF.rle ?_
 refine zbl [42] Ty.mixed Tryz.func29 rfl (by kernel_rfl) (by simp [Tryz.ntmps29]) ?_; rw [Tryz.ntmps29,Tryz.results29]
 unfold ze1 at h
 obtain ⟨r971,hr971,h⟩:=thn_s h
 try simp -implicitDefEqProofs only [go_sem]
 refine callG (zlf a0 r971 hr971) (by simp -implicitDefEqProofs only [go_sem] <;> rfl) (za _) (by first | exact pers | exact scal rfl) ?_
 try simp -implicitDefEqProofs only [go_sem]
 refine zf (fun b972=>?_) (fun b972=>?_)
 ·replace h:=ze h b972
  try simp -implicitDefEqProofs only [go_sem,b972]
  refine zb (fun b973=>?_) (fun b973=>?_)
  ·replace h:=ze h b973
   cases h
   try simp -implicitDefEqProofs only [go_sem,b972,b973]
   refine ⟨by decide,_,.refl _,?_⟩
   simp -implicitDefEqProofs only [go_sem,b972,b973] <;> ((repeat' apply And.intro) <;> rfl)
  ·replace h:=zd h b973
   obtain ⟨fus982,h⟩:=chk_s h
   unfold fuel at fus982
   try simp -implicitDefEqProofs only [go_sem,b972,b973]
   refine z7 (fun x:(Nat×((List zl)))×(Nat)=>envL [(2,.ptr 2 0),(8,.row 2980 x.2),(24,.p (.lst (a1.map z6))),(25,.p (.val (.int .i64 ((a1.length:Nat):Int)))),(26,.p (.val (.int .i64 ((x.1.1:Nat):Int))))]) (fun x=>heapL [(2,.box [.p (.lst (a0.nodes.map encNode)),.p (.lst (a0.edges.map encEdgeT))]),(2980,.row x.2 85 2 (x.1.2.map zy))]) 0 h (by refine Weak.trans (zha 8 2980 85 2 rfl rfl (by decide)) ?_; exact (weakL (by simp -implicitDefEqProofs only [go_sem,b972,b973] <;> ((repeat' apply And.intro) <;> rfl)))) ?_ ?_
   ·intro i982 s982 g982 nxts982 Rs982 his982 hNs982 h
    have hws982:=zk (k:=i982) his982 (by omega)
    try dsimp only at h
    obtain ⟨e989,c989,g989,q989,h⟩:=idx_s z6 h
    obtain ⟨r990,hr990,h⟩:=thn_s h
    try simp -implicitDefEqProofs only [go_sem,b972,b973,his982,hws982,c989,g989]
    refine callfG 1528 (zvo a0 e989 r990 hr990) (by simp -implicitDefEqProofs only [go_sem,b972,b973,his982,hws982,c989,g989] <;> rfl) (za _) (by first | exact persF | exact flatF rfl | exact flatF (by simp [RV.flat,RV.flatL,PV.scalar,isVal,encI,encI])) (by simp -implicitDefEqProofs only [go_sem,b972,b973,his982,hws982,c989,g989]) ?_
    try simp -implicitDefEqProofs only [go_sem,b972,b973,his982,hws982,c989,g989]
    refine zf (fun b991=>?_) (fun b991=>?_)
    ·replace h:=ze h b991
     obtain ⟨c992,h⟩:=chk_s h
     have k993:=eq_true (show (s982.length+1) * 48≤140737488355328 by omega)
     have a994:=ze2 zy s982 [r990.1] (c:=[[.lst (r990.1.deletes.map encI),.lst (r990.1.creates.map encI)]]) rfl
     try simp -implicitDefEqProofs only [go_sem,b972,b973,his982,hws982,c989,g989,b991,c992,k993,a994]
     exact hNs982 (s982++[r990.1]) (g982+1) h (weakL (by simp -implicitDefEqProofs only [go_sem,b972,b973,his982,hws982,c989,g989,b991,c992,k993,a994] <;> ((repeat' apply And.intro) <;> rfl)))
    ·replace h:=zd h b991
     cases h
     try simp -implicitDefEqProofs only [go_sem,b972,b973,his982,hws982,c989,g989,b991]
     refine ⟨by decide,_,.refl _,?_⟩
     simp -implicitDefEqProofs only [go_sem,b972,b973,his982,hws982,c989,g989,b991] <;> ((repeat' apply And.intro) <;> rfl)
   ·intro i982 s982 g982 Rs982 hes982 h
    have hns982:¬ (i982 < a1.length):=by omega
    try dsimp only at h
    cases h
    try simp -implicitDefEqProofs only [go_sem,b972,b973,hns982]
    refine ⟨by decide,_,.refl _,?_⟩
    simp -implicitDefEqProofs only [go_sem,b972,b973,hns982] <;> ((repeat' apply And.intro) <;> rfl)
 ·replace h:=zd h b972
  cases h
  try simp -implicitDefEqProofs only [go_sem,b972]
  refine ⟨by decide,_,.refl _,?_⟩
  simp -implicitDefEqProofs only [go_sem,b972] <;> ((repeat' apply And.intro) <;> rfl)
end
end Go.Proofs.YtimojjnmmlhijaaGreat
set_option maxRecDepth 20000
namespace Go.Proofs.YtimojjnmmlhijaaGreat
open Go.Abs


noncomputable section
end
end Go.Proofs.YtimojjnmmlhijaaGreat
set_option maxRecDepth 20000
namespace Go.Proofs.YtimojjnmmlhijaaGreat
open Go.Abs


noncomputable section
set_option maxHeartbeats 4000000 in
theorem zrv (a0:Types) (a1:List zm) (a2:zbr) (r:Bool) (h:zf1 a0 a1 a2=some r):CallV Tryz.prog 20 [.agg [.lst (a0.nodes.map encNode),.lst (a0.edges.map encEdgeT)],.lst (a1.map z6),.agg (zc7 a2)] (fun v=>v = .val (.bool r)):=by
 refine CallV.ple ?_
 refine zc [] Ty.mixed Tryz.func20 rfl (by kernel_rfl) (by simp [Tryz.ntmps20]) ?_; rw [Tryz.ntmps20,Tryz.results20]
 unfold zf1 at h
 obtain ⟨r3655,hr3655,h⟩:=thn_s h
 try simp -implicitDefEqProofs only [go_sem]
 refine callfG 1240 (zjp a0 a1 r3655 hr3655) (by simp -implicitDefEqProofs only [go_sem] <;> rfl) (za _) (by first | exact persF | exact flatF rfl | exact flatF (by simp [RV.flat,RV.flatL,PV.scalar,isVal,zy])) (by simp -implicitDefEqProofs only [go_sem]) ?_
 try simp -implicitDefEqProofs only [go_sem]
 refine zj (fun b3656=>?_) (fun b3656=>?_)
 ·replace h:=ze h b3656
  obtain ⟨r3661,hr3661,h⟩:=thn_s h
  try simp -implicitDefEqProofs only [go_sem,b3656]
  refine callG (ziy a2.rules ((a1.length:Nat):Int) r3661 hr3661) (by simp -implicitDefEqProofs only [go_sem,b3656] <;> rfl) (za _) (by first | exact pers | exact scal rfl) ?_
  try simp -implicitDefEqProofs only [go_sem,b3656]
  refine zj (fun b3662=>?_) (fun b3662=>?_)
  ·replace h:=ze h b3662
   obtain ⟨r3663,hr3663,h⟩:=thn_s h
   try simp -implicitDefEqProofs only [go_sem,b3656,b3662]
   refine callG (ziy a2.nodes ((a0.nodes.length:Nat):Int) r3663 hr3663) (by simp -implicitDefEqProofs only [go_sem,b3656,b3662] <;> rfl) (za _) (by first | exact pers | exact scal rfl) ?_
   try simp -implicitDefEqProofs only [go_sem,b3656,b3662]
   refine zj (fun b3664=>?_) (fun b3664=>?_)
   ·replace h:=ze h b3664
    obtain ⟨r3665,hr3665,h⟩:=thn_s h
    try simp -implicitDefEqProofs only [go_sem,b3656,b3662,b3664]
    refine callG (ziy a2.edges ((a0.edges.length:Nat):Int) r3665 hr3665) (by simp -implicitDefEqProofs only [go_sem,b3656,b3662,b3664] <;> rfl) (za _) (by first | exact pers | exact scal rfl) ?_
    try simp -implicitDefEqProofs only [go_sem,b3656,b3662,b3664]
    refine zf (fun b3666=>?_) (fun b3666=>?_)
    ·replace h:=ze h b3666
     obtain ⟨r3692,hr3692,h⟩:=thn_s h
     try simp -implicitDefEqProofs only [go_sem,b3656,b3662,b3664,b3666]
     refine callfG 1816 (zpn [a2.nodes,a2.edges] r3692 hr3692) (by simp -implicitDefEqProofs only [go_sem,b3656,b3662,b3664,b3666] <;> rfl) (za _) (by first | exact persF | exact flatF rfl | exact flatF (by simp [RV.flat,RV.flatL,PV.scalar,isVal,encI])) (by simp -implicitDefEqProofs only [go_sem,b3656,b3662,b3664,b3666]) ?_
     obtain ⟨fus3707,h⟩:=chk_s h
     unfold fuel at fus3707
     try simp -implicitDefEqProofs only [go_sem,b3656,b3662,b3664,b3666]
     refine z7 (fun x:(Nat×(Unit))×(Unit)=>envL [(5,.ptr 5 0),(9,.ptr 9 0),(52,.row 1240 0),(53,.p (.val (.int .i64 ((r3655.1.length:Nat):Int)))),(54,.p (.val (.int .i64 ((x.1.1:Nat):Int))))]) (fun x=>heapL [(5,.box ((zc7 a2).map .p)),(9,.box [.row 1816 0]),(1240,.row 0 85 2 (r3655.1.map zy)),(1816,.row 0 3 1 (r3692.map encI))]) () h (weakL (by simp -implicitDefEqProofs only [go_sem,b3656,b3662,b3664,b3666] <;> ((repeat' apply And.intro) <;> rfl))) ?_ ?_
     ·intro i3707 s3707 g3707 nxts3707 Rs3707 his3707 hNs3707 h
      have hws3707:=zk (k:=i3707) his3707 (by omega)
      try dsimp only at h
      obtain ⟨e3716,c3716,g3716,q3716,h⟩:=idx_s zy h
      try simp -implicitDefEqProofs only [go_sem,b3656,b3662,b3664,b3666,his3707,hws3707,c3716,g3716]
      refine zb (fun b3717=>?_) (fun b3717=>?_)
      ·replace h:=ze h b3717
       cases h
       try simp -implicitDefEqProofs only [go_sem,b3656,b3662,b3664,b3666,his3707,hws3707,c3716,g3716,b3717]
       all_goals ((repeat' apply And.intro) <;> rfl)
      ·replace h:=zd h b3717
       obtain ⟨r3718,hr3718,h⟩:=thn_s h
       try simp -implicitDefEqProofs only [go_sem,b3656,b3662,b3664,b3666,his3707,hws3707,c3716,g3716,b3717]
       refine callG (zco e3716.deletes (fun x3719=>zfe x3719 r3692 a2 ((i3707:Nat):Int)) 46 [] [.eptr [.lst (r3692.map encI)] 0,.eptr (zc7 a2) 0,.eptr [.val (.int .i64 ((i3707:Nat):Int))] 0] (fun x3719 r h=>zqw x3719 r3692 a2 ((i3707:Nat):Int) r h) r3718 hr3718) (by simp -implicitDefEqProofs only [go_sem,b3656,b3662,b3664,b3666,his3707,hws3707,c3716,g3716,b3717] <;> rfl) (za _) (by first | exact pers | exact scal rfl) ?_
       try simp -implicitDefEqProofs only [go_sem,b3656,b3662,b3664,b3666,his3707,hws3707,c3716,g3716,b3717]
       refine zn (fun b3720=>?_) (fun b3720=>?_)
       ·replace h:=ze h b3720
        cases h
        try simp -implicitDefEqProofs only [go_sem,b3656,b3662,b3664,b3666,his3707,hws3707,c3716,g3716,b3717,b3720]
        all_goals ((repeat' apply And.intro) <;> rfl)
       ·replace h:=zd h b3720
        obtain ⟨r3721,hr3721,h⟩:=thn_s h
        try simp -implicitDefEqProofs only [go_sem,b3656,b3662,b3664,b3666,his3707,hws3707,c3716,g3716,b3717,b3720]
        refine callG (zco e3716.creates (fun x3722=>ze4 x3722 r3692 a2 ((i3707:Nat):Int)) 47 [] [.eptr [.lst (r3692.map encI)] 0,.eptr (zc7 a2) 0,.eptr [.val (.int .i64 ((i3707:Nat):Int))] 0] (fun x3722 r h=>zpt x3722 r3692 a2 ((i3707:Nat):Int) r h) r3721 hr3721) (by simp -implicitDefEqProofs only [go_sem,b3656,b3662,b3664,b3666,his3707,hws3707,c3716,g3716,b3717,b3720] <;> rfl) (za _) (by first | exact pers | exact scal rfl) ?_
        try simp -implicitDefEqProofs only [go_sem,b3656,b3662,b3664,b3666,his3707,hws3707,c3716,g3716,b3717,b3720]
        refine zb (fun b3723=>?_) (fun b3723=>?_)
        ·replace h:=ze h b3723
         cases h
         try simp -implicitDefEqProofs only [go_sem,b3656,b3662,b3664,b3666,his3707,hws3707,c3716,g3716,b3717,b3720,b3723]
         all_goals ((repeat' apply And.intro) <;> rfl)
        ·replace h:=zd h b3723
         try simp -implicitDefEqProofs only [go_sem,b3656,b3662,b3664,b3666,his3707,hws3707,c3716,g3716,b3717,b3720,b3723]
         exact hNs3707 () () h (weakL (by simp -implicitDefEqProofs only [go_sem,b3656,b3662,b3664,b3666,his3707,hws3707,c3716,g3716,b3717,b3720,b3723] <;> ((repeat' apply And.intro) <;> rfl)))
     ·intro i3707 s3707 g3707 Rs3707 hes3707 h
      have hns3707:¬ (i3707 < r3655.1.length):=by omega
      try dsimp only at h
      cases h
      try simp -implicitDefEqProofs only [go_sem,b3656,b3662,b3664,b3666,hns3707]
      all_goals ((repeat' apply And.intro) <;> rfl)
    ·replace h:=zd h b3666
     cases h
     try simp -implicitDefEqProofs only [go_sem,b3656,b3662,b3664,b3666]
     all_goals ((repeat' apply And.intro) <;> rfl)
   ·replace h:=zd h b3664
    cases h
    try simp -implicitDefEqProofs only [go_sem,b3656,b3662,b3664]
    all_goals ((repeat' apply And.intro) <;> rfl)
  ·replace h:=zd h b3662
   cases h
   try simp -implicitDefEqProofs only [go_sem,b3656,b3662]
   all_goals ((repeat' apply And.intro) <;> rfl)
 ·replace h:=zd h b3656
  cases h
  try simp -implicitDefEqProofs only [go_sem,b3656]
  all_goals ((repeat' apply And.intro) <;> rfl)
end
end Go.Proofs.YtimojjnmmlhijaaGreat
set_option maxRecDepth 20000
namespace Go.Proofs.YtimojjnmmlhijaaGreat
open Go.Abs


noncomputable section
set_option maxHeartbeats 4000000 in
theorem zq9 (a0:Types) (a1:List zm) (r:(List zbm)×Int) (h:zgm a0 a1=some r):CallV Tryz.prog 10 [.agg [.lst (a0.nodes.map encNode),.lst (a0.edges.map encEdgeT)],.lst (a1.map z6)] (fun v=>v = .tup [.lst (r.1.map zq),.val (.int .i64 r.2)]):=by
 refine CallV.ple ?_
 refine zc [25] Ty.mixed Tryz.func10 rfl (by kernel_rfl) (by simp [Tryz.ntmps10]) ?_; rw [Tryz.ntmps10,Tryz.results10]
 unfold zgm at h
 obtain ⟨r1412,hr1412,h⟩:=thn_s h
 try simp -implicitDefEqProofs only [go_sem]
 refine callfG 1208 (zjp a0 a1 r1412 hr1412) (by simp -implicitDefEqProofs only [go_sem] <;> rfl) (za _) (by first | exact persF | exact flatF rfl | exact flatF (by simp [RV.flat,RV.flatL,PV.scalar,isVal,zy])) (by simp -implicitDefEqProofs only [go_sem]) ?_
 try simp -implicitDefEqProofs only [go_sem]
 refine zf (fun b1413=>?_) (fun b1413=>?_)
 ·replace h:=ze h b1413
  obtain ⟨r1414,hr1414,h⟩:=thn_s h
  try simp -implicitDefEqProofs only [go_sem,b1413]
  refine callG (zgi r1412.1 (fun x1415=>zfy x1415) 31 [] [] (fun x1415 r h=>zpg x1415 r h) r1414 hr1414) (by simp -implicitDefEqProofs only [go_sem,b1413] <;> rfl) (za _) (by first | exact pers | exact scal rfl) ?_
  try simp -implicitDefEqProofs only [go_sem,b1413]
  refine zb (fun b1416=>?_) (fun b1416=>?_)
  ·replace h:=ze h b1416
   cases h
   try simp -implicitDefEqProofs only [go_sem,b1413,b1416]
   all_goals ((repeat' apply And.intro) <;> rfl)
  ·replace h:=zd h b1416
   try simp -implicitDefEqProofs only [go_sem,b1413,b1416]
   refine zhw 1208 0 85 2 (r1412.1.map zy) [6] (by simp -implicitDefEqProofs only [go_sem,b1413,b1416] <;> rfl) (by simp -implicitDefEqProofs only [go_sem,b1413,b1416] <;> ((repeat' apply And.intro) <;> rfl)) (by decide) ?_
   refine zbd [.q,.q,.q,.q,.q,.q,.q,.q,.q,.q,.q] (by kernel_rfl) ?_
   obtain ⟨r1918,hr1918,h⟩:=thn_s h
   try simp -implicitDefEqProofs only [go_sem,b1413,b1416]
   refine calldG (show CallV _ _ _ (fun v=>v = .lst (r1918.map zq)) from (zqe r1412.1 r1918 hr1918).toV1) (by simp -implicitDefEqProofs only [go_sem,b1413,b1416] <;> rfl) (za _) (by first | exact pers | exact scal rfl) ?_
   obtain ⟨r1919,hr1919,h⟩:=thn_s h
   try simp -implicitDefEqProofs only [go_sem,b1413,b1416]
   refine calldG (zra r1918 (IntKind.i64.wrap (((a0.nodes.length:Nat):Int)+((a0.edges.length:Nat):Int))) r1919 hr1919) (by simp -implicitDefEqProofs only [go_sem,b1413,b1416] <;> rfl) (za _) (by first | exact pers | exact scal rfl) ?_
   try simp -implicitDefEqProofs only [go_sem,b1413,b1416]
   refine zb (fun b1920=>?_) (fun b1920=>?_)
   ·replace h:=ze h b1920
    cases h
    try simp -implicitDefEqProofs only [go_sem,b1413,b1416,b1920]
    all_goals ((repeat' apply And.intro) <;> rfl)
   ·replace h:=zd h b1920
    cases h
    try simp -implicitDefEqProofs only [go_sem,b1413,b1416,b1920]
    all_goals ((repeat' apply And.intro) <;> rfl)
 ·replace h:=zd h b1413
  cases h
  try simp -implicitDefEqProofs only [go_sem,b1413]
  all_goals ((repeat' apply And.intro) <;> rfl)
end
end Go.Proofs.YtimojjnmmlhijaaGreat
set_option maxRecDepth 20000
namespace Go.Proofs.YtimojjnmmlhijaaGreat
open Go.Abs


noncomputable section
set_option maxHeartbeats 4000000 in
theorem zkd (a0:Types) (a1:List zm) (r:zbr×Int) (h:zdl a0 a1=some r):CallF Tryz.prog 14 [.agg [.lst (a0.nodes.map encNode),.lst (a0.edges.map encEdgeT)],.lst (a1.map z6)] (fun v=>v = .tup [.agg [.row 3 1 (r.1.rules.map encI),.p (.lst (r.1.nodes.map encI)),.p (.lst (r.1.edges.map encI))],.p (.val (.int .i64 r.2))]):=by
 refine CallF.rle ?_
 refine zbl [] Ty.mixed Tryz.func14 rfl (by kernel_rfl) (by simp [Tryz.ntmps14]) ?_; rw [Tryz.ntmps14,Tryz.results14]
 unfold zdl at h
 obtain ⟨r995,hr995,h⟩:=thn_s h
 try simp -implicitDefEqProofs only [go_sem]
 refine callfG 1240 (zjp a0 a1 r995 hr995) (by simp -implicitDefEqProofs only [go_sem] <;> rfl) (za _) (by first | exact persF | exact flatF rfl | exact flatF (by simp [RV.flat,RV.flatL,PV.scalar,isVal,zy])) (by simp -implicitDefEqProofs only [go_sem]) ?_
 try simp -implicitDefEqProofs only [go_sem]
 refine zf (fun b996=>?_) (fun b996=>?_)
 ·replace h:=ze h b996
  obtain ⟨r1384,hr1384,h⟩:=thn_s h
  try simp -implicitDefEqProofs only [go_sem,b996]
  refine callfG 1512 (zrt r995.1 (IntKind.i64.wrap (((a0.nodes.length:Nat):Int)+((a0.edges.length:Nat):Int))) r1384 hr1384) (by simp -implicitDefEqProofs only [go_sem,b996] <;> rfl) (za _) (by first | exact persF | exact flatF rfl | exact flatF (by simp [RV.flat,RV.flatL,PV.scalar,isVal,encI,encI])) (by simp -implicitDefEqProofs only [go_sem,b996]) ?_
  try simp -implicitDefEqProofs only [go_sem,b996]
  refine zf (fun b1385=>?_) (fun b1385=>?_)
  ·replace h:=ze h b1385
   try simp -implicitDefEqProofs only [go_sem,b996,b1385]
   refine zhw 1513 0 3 1 (r1384.2.1.map encI) [10] (by simp -implicitDefEqProofs only [go_sem,b996,b1385] <;> rfl) (by simp -implicitDefEqProofs only [go_sem,b996,b1385] <;> ((repeat' apply And.intro) <;> rfl)) (by decide) ?_
   refine zbd [.q,.q,.q,.q,.q,.q,.q,.q,.q,.w,.q] (by kernel_rfl) ?_
   obtain ⟨⟨c1388a,c1388b,c1388c,c1388d⟩,h⟩:=chk_s h
   have c1388l:=eq_true (zif (n:=1) (f:=encI) (fun _=>rfl) r1384.2.1)
   obtain ⟨⟨c1389a,c1389b,c1389c⟩,h⟩:=chk_s h
   have c1389l:=eq_true (zif (n:=1) (f:=encI) (fun _=>rfl) r1384.2.1)
   cases h
   try simp -implicitDefEqProofs only [go_sem,b996,b1385,c1388a,c1388b,c1388c,c1388d,c1388l,c1389a,c1389b,c1389c,c1389l]
   refine ⟨by decide,_,.refl _,?_⟩
   simp -implicitDefEqProofs only [go_sem,b996,b1385,c1388a,c1388b,c1388c,c1388d,c1388l,c1389a,c1389b,c1389c,c1389l] <;> ((repeat' apply And.intro) <;> rfl)
  ·replace h:=zd h b1385
   cases h
   try simp -implicitDefEqProofs only [go_sem,b996,b1385]
   refine ⟨by decide,_,.refl _,?_⟩
   simp -implicitDefEqProofs only [go_sem,b996,b1385] <;> ((repeat' apply And.intro) <;> rfl)
 ·replace h:=zd h b996
  cases h
  try simp -implicitDefEqProofs only [go_sem,b996]
  refine ⟨by decide,_,.refl _,?_⟩
  simp -implicitDefEqProofs only [go_sem,b996] <;> ((repeat' apply And.intro) <;> rfl)
end
end Go.Proofs.YtimojjnmmlhijaaGreat
set_option maxRecDepth 20000
namespace Go.Proofs.YtimojjnmmlhijaaGreat
open Go.Abs


noncomputable section
set_option maxHeartbeats 4000000 in
theorem znl (a0:Types) (a1:List zm) (r:zbr×Int) (h:zdx a0 a1=some r):CallF Tryz.prog 18 [.agg [.lst (a0.nodes.map encNode),.lst (a0.edges.map encEdgeT)],.lst (a1.map z6)] (fun v=>v = .tup [.agg [.row 3 1 (r.1.rules.map encI),.p (.lst (r.1.nodes.map encI)),.p (.lst (r.1.edges.map encI))],.p (.val (.int .i64 r.2))]):=by
 refine CallF.rle ?_
 refine zbl [] Ty.mixed Tryz.func18 rfl (by kernel_rfl) (by simp [Tryz.ntmps18]) ?_; rw [Tryz.ntmps18,Tryz.results18]
 unfold zdx at h
 obtain ⟨r3268,hr3268,h⟩:=thn_s h
 try simp -implicitDefEqProofs only [go_sem]
 refine callG (zmg a0 a1 r3268 hr3268) (by simp -implicitDefEqProofs only [go_sem] <;> rfl) (za _) (by first | exact pers | exact scal rfl) ?_
 try simp -implicitDefEqProofs only [go_sem]
 refine zf (fun b3269=>?_) (fun b3269=>?_)
 ·replace h:=ze h b3269
  obtain ⟨r3643,hr3643,h⟩:=thn_s h
  try simp -implicitDefEqProofs only [go_sem,b3269]
  refine callfG 1304 (zmp (⟨a0.nodes,a0.edges⟩:Types) a1 r3643 hr3643) (by simp -implicitDefEqProofs only [go_sem,b3269] <;> rfl) (za _) (by first | exact persF | exact flatF rfl | exact flatF (by simp [RV.flat,RV.flatL,PV.scalar,isVal,encI])) (by simp -implicitDefEqProofs only [go_sem,b3269]) ?_
  try simp -implicitDefEqProofs only [go_sem,b3269]
  refine zf (fun b3644=>?_) (fun b3644=>?_)
  ·replace h:=ze h b3644
   cases h
   try simp -implicitDefEqProofs only [go_sem,b3269,b3644]
   refine ⟨by decide,_,.refl _,?_⟩
   simp -implicitDefEqProofs only [go_sem,b3269,b3644] <;> ((repeat' apply And.intro) <;> rfl)
  ·replace h:=zd h b3644
   cases h
   try simp -implicitDefEqProofs only [go_sem,b3269,b3644]
   refine ⟨by decide,_,.refl _,?_⟩
   simp -implicitDefEqProofs only [go_sem,b3269,b3644] <;> ((repeat' apply And.intro) <;> rfl)
 ·replace h:=zd h b3269
  cases h
  try simp -implicitDefEqProofs only [go_sem,b3269]
  refine ⟨by decide,_,.refl _,?_⟩
  simp -implicitDefEqProofs only [go_sem,b3269] <;> ((repeat' apply And.intro) <;> rfl)
end
end Go.Proofs.YtimojjnmmlhijaaGreat
set_option maxRecDepth 20000
namespace Go.Proofs.YtimojjnmmlhijaaGreat
open Go.Abs


noncomputable section
set_option maxHeartbeats 4000000 in
theorem zg2  (r:Bool) (h:zc1  = some r):CallV Tryz.prog 8 [] (fun v=>v = .val (.bool r)):=by
 refine CallV.ple ?_
 refine zc [] Ty.mixed Tryz.func8 rfl (by kernel_rfl) (by simp [Tryz.ntmps8]) ?_; rw [Tryz.ntmps8,Tryz.results8]
 unfold zc1 at h
 obtain ⟨r1391,hr1391,h⟩:=thn_s h
 try simp -implicitDefEqProofs only [go_sem]
 refine callfG 1128 (zlp r1391 hr1391) (by simp -implicitDefEqProofs only [go_sem] <;> rfl) (za _) (by first | exact persF | exact flatF rfl | exact flatF (by simp [RV.flat,RV.flatL,PV.scalar,isVal,encNode,encEdgeT])) (by simp -implicitDefEqProofs only [go_sem]) ?_
 try simp -implicitDefEqProofs only [go_sem]
 refine zhw 1128 0 113 4 (r1391.nodes.map encNode) [] (by simp -implicitDefEqProofs only [go_sem] <;> rfl) (by simp -implicitDefEqProofs only [go_sem] <;> ((repeat' apply And.intro) <;> rfl)) (by decide) ?_
 refine zhw 1129 0 115 7 (r1391.edges.map encEdgeT) [] (by simp -implicitDefEqProofs only [go_sem] <;> rfl) (by simp -implicitDefEqProofs only [go_sem] <;> ((repeat' apply And.intro) <;> rfl)) (by decide) ?_
 refine zfr [(1,.q),(2,.p),(0,.q),(3,.f),(4,.q),(5,.q),(6,.o),(7,.w),(8,.s),(9,.q)] (by kernel_rfl) ?_
 obtain ⟨r1400,hr1400,h⟩:=thn_s h
 try simp -implicitDefEqProofs only [go_sem]
 refine calldG (zhe 0 r1400 hr1400) (by simp -implicitDefEqProofs only [go_sem] <;> rfl) (za _) (by first | exact pers | exact scal rfl) ?_
 obtain ⟨r1401,hr1401,h⟩:=thn_s h
 try simp -implicitDefEqProofs only [go_sem]
 refine calldfG 1208 (zkd r1391 [r1400] r1401 hr1401) (by simp -implicitDefEqProofs only [go_sem] <;> rfl) (za _) (by first | exact persF | exact flatF rfl | exact flatF (by simp [RV.flat,RV.flatL,PV.scalar,isVal,encI])) (by simp -implicitDefEqProofs only [go_sem]) (by simp -implicitDefEqProofs only [go_sem]) ?_
 try simp -implicitDefEqProofs only [go_sem]
 refine zfr [(1,.q),(2,.p),(0,.q),(3,.q),(4,.q),(5,.q),(6,.o),(7,.w),(8,.s),(9,.q)] (by kernel_rfl) ?_
 obtain ⟨r1404,hr1404,h⟩:=thn_s h
 try simp -implicitDefEqProofs only [go_sem]
 refine calldG (zhe 1 r1404 hr1404) (by simp -implicitDefEqProofs only [go_sem] <;> rfl) (za _) (by first | exact pers | exact scal rfl) ?_
 obtain ⟨r1405,hr1405,h⟩:=thn_s h
 try simp -implicitDefEqProofs only [go_sem]
 refine calldG (show CallV _ _ _ (fun v=>v = .tup [.agg (zc7 r1405.1),.val (.int .i64 r1405.2)]) from (zkd r1391 [r1404] r1405 hr1405).toV1) (by simp -implicitDefEqProofs only [go_sem] <;> rfl) (za _) (by first | exact pers | exact scal rfl) ?_
 try simp -implicitDefEqProofs only [go_sem]
 refine zfr [(1,.q),(2,.p),(0,.q),(3,.q),(4,.q),(5,.q),(6,.q),(7,.q),(8,.q)] (by kernel_rfl) ?_
 obtain ⟨r1922,hr1922,h⟩:=thn_s h
 try simp -implicitDefEqProofs only [go_sem]
 refine calldG (zhe 2 r1922 hr1922) (by simp -implicitDefEqProofs only [go_sem] <;> rfl) (za _) (by first | exact pers | exact scal rfl) ?_
 obtain ⟨r1923,hr1923,h⟩:=thn_s h
 try simp -implicitDefEqProofs only [go_sem]
 refine calldG (zq9 r1391 [r1922] r1923 hr1923) (by simp -implicitDefEqProofs only [go_sem] <;> rfl) (za _) (by first | exact pers | exact scal rfl) ?_
 try simp -implicitDefEqProofs only [go_sem]
 refine zj (fun b1924=>?_) (fun b1924=>?_)
 ·replace h:=ze h b1924
  obtain ⟨r1938,hr1938,h⟩:=thn_s h
  try simp -implicitDefEqProofs only [go_sem,b1924]
  refine callG (zk3 r1401.1.rules [0] r1938 hr1938) (by simp -implicitDefEqProofs only [go_sem,b1924] <;> rfl) (za _) (by first | exact pers | exact scal rfl) ?_
  try simp -implicitDefEqProofs only [go_sem,b1924]
  refine zj (fun b1939=>?_) (fun b1939=>?_)
  ·replace h:=ze h b1939
   try simp -implicitDefEqProofs only [go_sem,b1924,b1939]
   refine zj (fun b1940=>?_) (fun b1940=>?_)
   ·replace h:=ze h b1940
    obtain ⟨r1941,hr1941,h⟩:=thn_s h
    try simp -implicitDefEqProofs only [go_sem,b1924,b1939,b1940]
    refine callG (zk3 r1405.1.nodes [0,0,1,0] r1941 hr1941) (by simp -implicitDefEqProofs only [go_sem,b1924,b1939,b1940] <;> rfl) (za _) (by first | exact pers | exact scal rfl) ?_
    try simp -implicitDefEqProofs only [go_sem,b1924,b1939,b1940]
    refine zj (fun b1942=>?_) (fun b1942=>?_)
    ·replace h:=ze h b1942
     try simp -implicitDefEqProofs only [go_sem,b1924,b1939,b1940,b1942]
     refine zj (fun b1943=>?_) (fun b1943=>?_)
     ·replace h:=ze h b1943
      obtain ⟨r1957,hr1957,h⟩:=thn_s h
      try simp -implicitDefEqProofs only [go_sem,b1924,b1939,b1940,b1942,b1943]
      refine callG (zn2 r1923.1 [(⟨0,5,5,1⟩:zbm)] r1957 hr1957) (by simp -implicitDefEqProofs only [go_sem,b1924,b1939,b1940,b1942,b1943] <;> rfl) (za _) (by first | exact pers | exact scal rfl) ?_
      cases h
      try simp -implicitDefEqProofs only [go_sem,b1924,b1939,b1940,b1942,b1943]
      all_goals ((repeat' apply And.intro) <;> rfl)
     ·replace h:=zd h b1943
      cases h
      try simp -implicitDefEqProofs only [go_sem,b1924,b1939,b1940,b1942,b1943]
      all_goals ((repeat' apply And.intro) <;> rfl)
    ·replace h:=zd h b1942
     cases h
     try simp -implicitDefEqProofs only [go_sem,b1924,b1939,b1940,b1942]
     all_goals ((repeat' apply And.intro) <;> rfl)
   ·replace h:=zd h b1940
    cases h
    try simp -implicitDefEqProofs only [go_sem,b1924,b1939,b1940]
    all_goals ((repeat' apply And.intro) <;> rfl)
  ·replace h:=zd h b1939
   cases h
   try simp -implicitDefEqProofs only [go_sem,b1924,b1939]
   all_goals ((repeat' apply And.intro) <;> rfl)
 ·replace h:=zd h b1924
  cases h
  try simp -implicitDefEqProofs only [go_sem,b1924]
  all_goals ((repeat' apply And.intro) <;> rfl)
end
end Go.Proofs.YtimojjnmmlhijaaGreat
set_option maxRecDepth 20000
namespace Go.Proofs.YtimojjnmmlhijaaGreat
open Go.Abs


noncomputable section
end
end Go.Proofs.YtimojjnmmlhijaaGreat
set_option maxRecDepth 20000
namespace Go.Proofs.YtimojjnmmlhijaaGreat
open Go.Abs


noncomputable section
set_option maxHeartbeats 4000000 in
theorem zj8 (a0:Types) (a1:List zm) (r:Bool) (h:zc9 a0 a1=some r):CallV Tryz.prog 5 [.agg [.lst (a0.nodes.map encNode),.lst (a0.edges.map encEdgeT)],.lst (a1.map z6)] (fun v=>v = .val (.bool r)):=by
 refine CallV.ple ?_
 refine zc [] Ty.mixed Tryz.func5 rfl (by kernel_rfl) (by simp [Tryz.ntmps5]) ?_; rw [Tryz.ntmps5,Tryz.results5]
 unfold zc9 at h
 obtain ⟨r1958,hr1958,h⟩:=thn_s h
 try simp -implicitDefEqProofs only [go_sem]
 refine callG (zg2 r1958 hr1958) (by simp -implicitDefEqProofs only [go_sem] <;> rfl) (za _) (by first | exact pers | exact scal rfl) ?_
 try simp -implicitDefEqProofs only [go_sem]
 refine zj (fun b1959=>?_) (fun b1959=>?_)
 ·replace h:=ze h b1959
  obtain ⟨r2159,hr2159,h⟩:=thn_s h
  try simp -implicitDefEqProofs only [go_sem,b1959]
  refine callG (znr (⟨a0.nodes,a0.edges⟩:Types) a1 r2159 hr2159) (by simp -implicitDefEqProofs only [go_sem,b1959] <;> rfl) (za _) (by first | exact pers | exact scal rfl) ?_
  try simp -implicitDefEqProofs only [go_sem,b1959]
  refine zf (fun b2160=>?_) (fun b2160=>?_)
  ·replace h:=ze h b2160
   try simp -implicitDefEqProofs only [go_sem,b1959,b2160]
   refine zbd [.q,.q,.q,.q,.q,.q,.o,.w,.s,.q] (by kernel_rfl) ?_
   obtain ⟨r2161,hr2161,h⟩:=thn_s h
   try simp -implicitDefEqProofs only [go_sem,b1959,b2160]
   refine calldG (show CallV _ _ _ (fun v=>v = .lst (r2161.map z6)) from (zpm a1 r2161 hr2161).toV1) (by simp -implicitDefEqProofs only [go_sem,b1959,b2160] <;> rfl) (za _) (by first | exact pers | exact scal rfl) ?_
   obtain ⟨r2162,hr2162,h⟩:=thn_s h
   try simp -implicitDefEqProofs only [go_sem,b1959,b2160]
   refine calldG (show CallV _ _ _ (fun v=>v = .tup [.agg (zc7 r2162.1),.val (.int .i64 r2162.2)]) from (zkd (⟨a0.nodes,a0.edges⟩:Types) r2161 r2162 hr2162).toV1) (by simp -implicitDefEqProofs only [go_sem,b1959,b2160] <;> rfl) (za _) (by first | exact pers | exact scal rfl) ?_
   obtain ⟨r3645,hr3645,h⟩:=thn_s h
   try simp -implicitDefEqProofs only [go_sem,b1959,b2160]
   refine callfG 1448 (znl (⟨a0.nodes,a0.edges⟩:Types) a1 r3645 hr3645) (by simp -implicitDefEqProofs only [go_sem,b1959,b2160] <;> rfl) (za _) (by first | exact persF | exact flatF rfl | exact flatF (by simp [RV.flat,RV.flatL,PV.scalar,isVal,encI])) (by simp -implicitDefEqProofs only [go_sem,b1959,b2160]) ?_
   try simp -implicitDefEqProofs only [go_sem,b1959,b2160]
   refine zj (fun b3646=>?_) (fun b3646=>?_)
   ·replace h:=ze h b3646
    obtain ⟨r3652,hr3652,h⟩:=thn_s h
    try simp -implicitDefEqProofs only [go_sem,b1959,b2160,b3646]
    refine callG (zj5 r2162.1 r3645.1 r3652 hr3652) (by simp -implicitDefEqProofs only [go_sem,b1959,b2160,b3646] <;> rfl) (za _) (by first | exact pers | exact scal rfl) ?_
    try simp -implicitDefEqProofs only [go_sem,b1959,b2160,b3646]
    refine zj (fun b3653=>?_) (fun b3653=>?_)
    ·replace h:=ze h b3653
     try simp -implicitDefEqProofs only [go_sem,b1959,b2160,b3646,b3653]
     refine zj (fun b3654=>?_) (fun b3654=>?_)
     ·replace h:=ze h b3654
      obtain ⟨r3724,hr3724,h⟩:=thn_s h
      try simp -implicitDefEqProofs only [go_sem,b1959,b2160,b3646,b3653,b3654]
      refine callG (zrv (⟨a0.nodes,a0.edges⟩:Types) a1 r2162.1 r3724 hr3724) (by simp -implicitDefEqProofs only [go_sem,b1959,b2160,b3646,b3653,b3654] <;> rfl) (za _) (by first | exact pers | exact scal rfl) ?_
      cases h
      try simp -implicitDefEqProofs only [go_sem,b1959,b2160,b3646,b3653,b3654]
      all_goals ((repeat' apply And.intro) <;> rfl)
     ·replace h:=zd h b3654
      cases h
      try simp -implicitDefEqProofs only [go_sem,b1959,b2160,b3646,b3653,b3654]
      all_goals ((repeat' apply And.intro) <;> rfl)
    ·replace h:=zd h b3653
     cases h
     try simp -implicitDefEqProofs only [go_sem,b1959,b2160,b3646,b3653]
     all_goals ((repeat' apply And.intro) <;> rfl)
   ·replace h:=zd h b3646
    cases h
    try simp -implicitDefEqProofs only [go_sem,b1959,b2160,b3646]
    all_goals ((repeat' apply And.intro) <;> rfl)
  ·replace h:=zd h b2160
   obtain ⟨r3725,hr3725,h⟩:=thn_s h
   try simp -implicitDefEqProofs only [go_sem,b1959,b2160]
   refine callG (zg2 r3725 hr3725) (by simp -implicitDefEqProofs only [go_sem,b1959,b2160] <;> rfl) (za _) (by first | exact pers | exact scal rfl) ?_
   cases h
   try simp -implicitDefEqProofs only [go_sem,b1959,b2160]
   all_goals ((repeat' apply And.intro) <;> rfl)
 ·replace h:=zd h b1959
  obtain ⟨r3726,hr3726,h⟩:=thn_s h
  try simp -implicitDefEqProofs only [go_sem,b1959]
  refine callG (zg2 r3726 hr3726) (by simp -implicitDefEqProofs only [go_sem,b1959] <;> rfl) (za _) (by first | exact pers | exact scal rfl) ?_
  cases h
  try simp -implicitDefEqProofs only [go_sem,b1959]
  all_goals ((repeat' apply And.intro) <;> rfl)
end
end Go.Proofs.YtimojjnmmlhijaaGreat
set_option maxRecDepth 20000
namespace Go.Proofs.YtimojjnmmlhijaaGreat
open Go.Abs


noncomputable section
end
end Go.Proofs.YtimojjnmmlhijaaGreat
set_option maxRecDepth 20000
namespace Go.Proofs.YtimojjnmmlhijaaGreat
open Go.Abs


noncomputable section
end
end Go.Proofs.YtimojjnmmlhijaaGreat
namespace Go.Proofs.YtimojjnmmlhijaaGreat
open Go.Abs


end Go.Proofs.YtimojjnmmlhijaaGreat
namespace Go.Proofs.YtimojjnmmlhijaaGreat
open Go.Abs
open Go.ChangeShapes Go.WideShapes Go.ChangeAt Go.RowKit
variable {w:World} {H:Type} {enc:TypeId×Value→H}

def G9 (_:ByteArray):Prop:=True
theorem d9:Dec Tryz.prog w enc 9 1 encS G9 :=
 .str Tryz.underlying9
def G3 (n:Int):Prop:=IntKind.i64.min≤n∧n≤IntKind.i64.max
theorem d3:Dec Tryz.prog w enc 3 1 (fun n:Int=>[.val (.int .i64 n)]) G3 :=
 .intk .i64 Tryz.underlying3
def G4 (_:Bool):Prop:=True
theorem d4:Dec Tryz.prog w enc 4 1 enc_b G4 :=
 .bool Tryz.underlying4
def G108 (l:List ByteArray):Prop:=(∀ x∈l,G9 x)∧l.length≤reachBytes
theorem d108:Dec Tryz.prog w enc 108 1 (fun l:List ByteArray=>[.lst (l.map encS)]) G108 :=
 (Dec.slice Tryz.underlying108 (by kernel_rfl) (by decide) (of_decide_eq_true (by kernel_rfl)) d9).map id id (fun _=>rfl) (fun _=>rfl) (fun _ h=>h)
def G110 (x:Attr):Prop:=G9 x.name∧G3 x.low∧G3 x.high∧G108 x.names∧True
theorem d110:Dec Tryz.prog w enc 110 4 (fun x:Attr=>[.val (.string x.name),.val (.int .i64 x.low),.val (.int .i64 x.high),.lst (x.names.map encS)]) G110 :=
 (Dec.struct Tryz.underlying110 (by kernel_rfl) (.cons rfl (by kernel_rfl) d9 (.cons rfl (by kernel_rfl) d3 (.cons rfl (by kernel_rfl) d3 (.cons rfl (by kernel_rfl) d108 (.nil _)))))).map (fun x=>⟨x.1,x.2.1,x.2.2.1,x.2.2.2.1⟩) (fun a=>(a.name,a.low,a.high,a.names,())) (fun _=>rfl) (fun _=>rfl) (fun _ h=>h)
def G111 (l:List Attr):Prop:=(∀ x∈l,G110 x)∧l.length≤reachBytes
theorem d111:Dec Tryz.prog w enc 111 1 (fun l:List Attr=>[.lst (l.map encAttr)]) G111 :=
 (Dec.slice Tryz.underlying111 (by kernel_rfl) (by decide) (of_decide_eq_true (by kernel_rfl)) d110).map id id (fun _=>rfl) (fun _=>rfl) (fun _ h=>h)
def G113 (x:NodeT):Prop:=G9 x.name∧G3 x.parent∧G4 x.abs∧G111 x.attrs∧True
theorem d113:Dec Tryz.prog w enc 113 4 (fun x:NodeT=>[.val (.string x.name),.val (.int .i64 x.parent),.val (.bool x.abs),.lst (x.attrs.map encAttr)]) G113 :=
 (Dec.struct Tryz.underlying113 (by kernel_rfl) (.cons rfl (by kernel_rfl) d9 (.cons rfl (by kernel_rfl) d3 (.cons rfl (by kernel_rfl) d4 (.cons rfl (by kernel_rfl) d111 (.nil _)))))).map (fun x=>⟨x.1,x.2.1,x.2.2.1,x.2.2.2.1⟩) (fun a=>(a.name,a.parent,a.abs,a.attrs,())) (fun _=>rfl) (fun _=>rfl) (fun _ h=>h)
def G22 (l:List NodeT):Prop:=(∀ x∈l,G113 x)∧l.length≤reachBytes
theorem d22:Dec Tryz.prog w enc 22 1 (fun l:List NodeT=>[.lst (l.map encNode)]) G22 :=
 (Dec.slice Tryz.underlying22 (by kernel_rfl) (by decide) (of_decide_eq_true (by kernel_rfl)) d113).map id id (fun _=>rfl) (fun _=>rfl) (fun _ h=>h)
def G115 (x:EdgeT):Prop:=G9 x.name∧G3 x.src∧G3 x.dst∧G3 x.outLow∧G3 x.outHigh∧G3 x.inLow∧G3 x.inHigh∧True
theorem d115:Dec Tryz.prog w enc 115 7 (fun x:EdgeT=>[.val (.string x.name),.val (.int .i64 x.src),.val (.int .i64 x.dst),.val (.int .i64 x.outLow),.val (.int .i64 x.outHigh),.val (.int .i64 x.inLow),.val (.int .i64 x.inHigh)]) G115 :=
 (Dec.struct Tryz.underlying115 (by kernel_rfl) (.cons rfl (by kernel_rfl) d9 (.cons rfl (by kernel_rfl) d3 (.cons rfl (by kernel_rfl) d3 (.cons rfl (by kernel_rfl) d3 (.cons rfl (by kernel_rfl) d3 (.cons rfl (by kernel_rfl) d3 (.cons rfl (by kernel_rfl) d3 (.nil _))))))))).map (fun x=>⟨x.1,x.2.1,x.2.2.1,x.2.2.2.1,x.2.2.2.2.1,x.2.2.2.2.2.1,x.2.2.2.2.2.2.1⟩) (fun a=>(a.name,a.src,a.dst,a.outLow,a.outHigh,a.inLow,a.inHigh,())) (fun _=>rfl) (fun _=>rfl) (fun _ h=>h)
def G23 (l:List EdgeT):Prop:=(∀ x∈l,G115 x)∧l.length≤reachBytes
theorem d23:Dec Tryz.prog w enc 23 1 (fun l:List EdgeT=>[.lst (l.map encEdgeT)]) G23 :=
 (Dec.slice Tryz.underlying23 (by kernel_rfl) (by decide) (of_decide_eq_true (by kernel_rfl)) d115).map id id (fun _=>rfl) (fun _=>rfl) (fun _ h=>h)
def G25 (x:Types):Prop:=G22 x.nodes∧G23 x.edges∧True
theorem d25:Dec Tryz.prog w enc 25 2 (fun x:Types=>[.lst (x.nodes.map encNode),.lst (x.edges.map encEdgeT)]) G25 :=
 (Dec.struct Tryz.underlying25 (by kernel_rfl) (.cons rfl (by kernel_rfl) d22 (.cons rfl (by kernel_rfl) d23 (.nil _)))).map (fun x=>⟨x.1,x.2.1⟩) (fun a=>(a.nodes,a.edges,())) (fun _=>rfl) (fun _=>rfl) (fun _ h=>h)
def G34 (l:List Int):Prop:=(∀ x∈l,G3 x)∧l.length≤reachBytes
theorem d34:Dec Tryz.prog w enc 34 1 (fun l:List Int=>[.lst (l.map encI)]) G34 :=
 (Dec.slice Tryz.underlying34 (by kernel_rfl) (by decide) (of_decide_eq_true (by kernel_rfl)) d3).map id id (fun _=>rfl) (fun _=>rfl) (fun _ h=>h)
def G117 (x:Edge):Prop:=G3 x.type∧G3 x.src∧G3 x.dst∧True
theorem d117:Dec Tryz.prog w enc 117 3 (fun x:Edge=>[.val (.int .i64 x.type),.val (.int .i64 x.src),.val (.int .i64 x.dst)]) G117 :=
 (Dec.struct Tryz.underlying117 (by kernel_rfl) (.cons rfl (by kernel_rfl) d3 (.cons rfl (by kernel_rfl) d3 (.cons rfl (by kernel_rfl) d3 (.nil _))))).map (fun x=>⟨x.1,x.2.1,x.2.2.1⟩) (fun a=>(a.type,a.src,a.dst,())) (fun _=>rfl) (fun _=>rfl) (fun _ h=>h)
def G35 (l:List Edge):Prop:=(∀ x∈l,G117 x)∧l.length≤reachBytes
theorem d35:Dec Tryz.prog w enc 35 1 (fun l:List Edge=>[.lst (l.map encEdge)]) G35 :=
 (Dec.slice Tryz.underlying35 (by kernel_rfl) (by decide) (of_decide_eq_true (by kernel_rfl)) d117).map id id (fun _=>rfl) (fun _=>rfl) (fun _ h=>h)
def G37 (x:Graph):Prop:=G34 x.nodes∧G35 x.edges∧True
theorem d37:Dec Tryz.prog w enc 37 2 (fun x:Graph=>[.lst (x.nodes.map encI),.lst (x.edges.map encEdge)]) G37 :=
 (Dec.struct Tryz.underlying37 (by kernel_rfl) (.cons rfl (by kernel_rfl) d34 (.cons rfl (by kernel_rfl) d35 (.nil _)))).map (fun x=>⟨x.1,x.2.1⟩) (fun a=>(a.nodes,a.edges,())) (fun _=>rfl) (fun _=>rfl) (fun _ h=>h)
def G199 (x:zic):Prop:=G3 x.var∧G3 x.add∧True
theorem d199:Dec Tryz.prog w enc 199 2 (fun x:zic=>[.val (.int .i64 x.var),.val (.int .i64 x.add)]) G199 :=
 (Dec.struct Tryz.underlying199 (by kernel_rfl) (.cons rfl (by kernel_rfl) d3 (.cons rfl (by kernel_rfl) d3 (.nil _)))).map (fun x=>⟨x.1,x.2.1⟩) (fun a=>(a.var,a.add,())) (fun _=>rfl) (fun _=>rfl) (fun _ h=>h)
def G201 (x:zbs):Prop:=G3 x.node∧G3 x.attr∧G199 x.term∧True
theorem d201:Dec Tryz.prog w enc 201 4 (fun x:zbs=>[.val (.int .i64 x.node),.val (.int .i64 x.attr),.val (.int .i64 x.term.var),.val (.int .i64 x.term.add)]) G201 :=
 (Dec.struct Tryz.underlying201 (by kernel_rfl) (.cons rfl (by kernel_rfl) d3 (.cons rfl (by kernel_rfl) d3 (.cons rfl (by kernel_rfl) d199 (.nil _))))).map (fun x=>⟨x.1,x.2.1,x.2.2.1⟩) (fun a=>(a.node,a.attr,a.term,())) (fun _=>rfl) (fun _=>rfl) (fun _ h=>h)
def G38 (l:List zbs):Prop:=(∀ x∈l,G201 x)∧l.length≤reachBytes
theorem d38:Dec Tryz.prog w enc 38 1 (fun l:List zbs=>[.lst (l.map zbk)]) G38 :=
 (Dec.slice Tryz.underlying38 (by kernel_rfl) (by decide) (of_decide_eq_true (by kernel_rfl)) d201).map id id (fun _=>rfl) (fun _=>rfl) (fun _ h=>h)
def G203 (x:zcq):Prop:=G3 x.kind∧G199 x.left∧G199 x.right∧True
theorem d203:Dec Tryz.prog w enc 203 5 (fun x:zcq=>[.val (.int .i64 x.kind),.val (.int .i64 x.left.var),.val (.int .i64 x.left.add),.val (.int .i64 x.right.var),.val (.int .i64 x.right.add)]) G203 :=
 (Dec.struct Tryz.underlying203 (by kernel_rfl) (.cons rfl (by kernel_rfl) d3 (.cons rfl (by kernel_rfl) d199 (.cons rfl (by kernel_rfl) d199 (.nil _))))).map (fun x=>⟨x.1,x.2.1,x.2.2.1⟩) (fun a=>(a.kind,a.left,a.right,())) (fun _=>rfl) (fun _=>rfl) (fun _ h=>h)
def G39 (l:List zcq):Prop:=(∀ x∈l,G203 x)∧l.length≤reachBytes
theorem d39:Dec Tryz.prog w enc 39 1 (fun l:List zcq=>[.lst (l.map zbv)]) G39 :=
 (Dec.slice Tryz.underlying39 (by kernel_rfl) (by decide) (of_decide_eq_true (by kernel_rfl)) d203).map id id (fun _=>rfl) (fun _=>rfl) (fun _ h=>h)
def G41 (x:zx):Prop:=G37 x.graph∧G38 x.slots∧G3 x.vars∧G39 x.tests∧True
theorem d41:Dec Tryz.prog w enc 41 5 (fun x:zx=>[.lst (x.graph.nodes.map encI),.lst (x.graph.edges.map encEdge),.lst (x.slots.map zbk),.val (.int .i64 x.vars),.lst (x.tests.map zbv)]) G41 :=
 (Dec.struct Tryz.underlying41 (by kernel_rfl) (.cons rfl (by kernel_rfl) d37 (.cons rfl (by kernel_rfl) d38 (.cons rfl (by kernel_rfl) d3 (.cons rfl (by kernel_rfl) d39 (.nil _)))))).map (fun x=>⟨x.1,x.2.1,x.2.2.1,x.2.2.2.1⟩) (fun a=>(a.graph,a.slots,a.vars,a.tests,())) (fun _=>rfl) (fun _=>rfl) (fun _ h=>h)
def G43 (x:zcr):Prop:=G34 x.nodes∧G34 x.edges∧True
theorem d43:Dec Tryz.prog w enc 43 2 (fun x:zcr=>[.lst (x.nodes.map encI),.lst (x.edges.map encI)]) G43 :=
 (Dec.struct Tryz.underlying43 (by kernel_rfl) (.cons rfl (by kernel_rfl) d34 (.cons rfl (by kernel_rfl) d34 (.nil _)))).map (fun x=>⟨x.1,x.2.1⟩) (fun a=>(a.nodes,a.edges,())) (fun _=>rfl) (fun _=>rfl) (fun _ h=>h)
def G44 (x:zbo):Prop:=G34 x.nodes∧G34 x.edges∧True
theorem d44:Dec Tryz.prog w enc 44 2 (fun x:zbo=>[.lst (x.nodes.map encI),.lst (x.edges.map encI)]) G44 :=
 (Dec.struct Tryz.underlying44 (by kernel_rfl) (.cons rfl (by kernel_rfl) d34 (.cons rfl (by kernel_rfl) d34 (.nil _)))).map (fun x=>⟨x.1,x.2.1⟩) (fun a=>(a.nodes,a.edges,())) (fun _=>rfl) (fun _=>rfl) (fun _ h=>h)
inductive G47:zi→Prop
 | mk (x:zi):G3 x.kind→(∀ k∈x.kids,G47 k)→x.kids.length≤reachBytes→G44 x.map→G41 x.pattern→G47 x
theorem d47:Dec Tryz.prog w enc 47 9 (fun x:zi=>[.val (.int .i64 x.kind),.lst (x.kids.map zt),.lst (x.map.nodes.map encI),.lst (x.map.edges.map encI),.lst (x.pattern.graph.nodes.map encI),.lst (x.pattern.graph.edges.map encEdge),.lst (x.pattern.slots.map zbk),.val (.int .i64 x.pattern.vars),.lst (x.pattern.tests.map zbv)]) G47 :=
 Dec.ofN fun N=>by
  induction N with
  | zero=>exact DecN.zero (fun _=>rfl)
  | succ N ih =>
   have h0:=DecN.struct (w:=w) (enc:=enc) (N:=N) Tryz.underlying47 (by kernel_rfl) (.cons rfl (by kernel_rfl) (d3.toN N) (.cons rfl (by kernel_rfl) (DecN.slice Tryz.underlying45 (by kernel_rfl) (by decide) (of_decide_eq_true (by kernel_rfl)) (ih.map id id (fun b=>(zg9 b).symm) (fun b=>zg9 b) (fun _ h=>h))) (.cons rfl (by kernel_rfl) (d44.toN N) (.cons rfl (by kernel_rfl) (d41.toN N) (.nil _)))))
   exact DecN.map (fun x:Int×(List zi)×zbo×zx×Unit=>⟨x.1,x.2.1,x.2.2.1,x.2.2.2.1⟩) (fun a=>(a.kind,a.kids,a.map,a.pattern,())) (fun _=>rfl) (fun _=>rfl) (fun x h=>.mk _ h.1 h.2.1.1 h.2.1.2 h.2.2.1 h.2.2.2.1) h0
def G49 (x:zm):Prop:=G9 x.name∧G41 x.left∧G41 x.right∧G43 x.keep∧G44 x.into∧G4 x.injective∧G47 x.condition∧True
theorem d49:Dec Tryz.prog w enc 49 25 (fun x:zm=>[.val (.string x.name),.lst (x.left.graph.nodes.map encI),.lst (x.left.graph.edges.map encEdge),.lst (x.left.slots.map zbk),.val (.int .i64 x.left.vars),.lst (x.left.tests.map zbv),.lst (x.right.graph.nodes.map encI),.lst (x.right.graph.edges.map encEdge),.lst (x.right.slots.map zbk),.val (.int .i64 x.right.vars),.lst (x.right.tests.map zbv),.lst (x.keep.nodes.map encI),.lst (x.keep.edges.map encI),.lst (x.into.nodes.map encI),.lst (x.into.edges.map encI),.val (.bool x.injective),.val (.int .i64 x.condition.kind),.lst (x.condition.kids.map zt),.lst (x.condition.map.nodes.map encI),.lst (x.condition.map.edges.map encI),.lst (x.condition.pattern.graph.nodes.map encI),.lst (x.condition.pattern.graph.edges.map encEdge),.lst (x.condition.pattern.slots.map zbk),.val (.int .i64 x.condition.pattern.vars),.lst (x.condition.pattern.tests.map zbv)]) G49 :=
 (Dec.struct Tryz.underlying49 (by kernel_rfl) (.cons rfl (by kernel_rfl) d9 (.cons rfl (by kernel_rfl) d41 (.cons rfl (by kernel_rfl) d41 (.cons rfl (by kernel_rfl) d43 (.cons rfl (by kernel_rfl) d44 (.cons rfl (by kernel_rfl) d4 (.cons rfl (by kernel_rfl) d47 (.nil _))))))))).map (fun x=>⟨x.1,x.2.1,x.2.2.1,x.2.2.2.1,x.2.2.2.2.1,x.2.2.2.2.2.1,x.2.2.2.2.2.2.1⟩) (fun a=>(a.name,a.left,a.right,a.keep,a.into,a.injective,a.condition,())) (fun _=>rfl) (fun _=>rfl) (fun _ h=>h)
def G26 (l:List zm):Prop:=(∀ x∈l,G49 x)∧l.length≤reachBytes
theorem d26:Dec Tryz.prog w enc 26 1 (fun l:List zm=>[.lst (l.map z6)]) G26 :=
 (Dec.slice Tryz.underlying26 (by kernel_rfl) (by decide) (of_decide_eq_true (by kernel_rfl)) d49).map id id (fun _=>rfl) (fun _=>rfl) (fun _ h=>h)
set_option maxRecDepth 100000 in
theorem zbem:laidOutB Tryz.checked.prog=true:=by kernel_rfl
end Go.Proofs.YtimojjnmmlhijaaGreat
namespace Go.Proofs.YtimojjnmmlhijaaGreat
open Go.Abs

theorem zjr:reachBytes≤1125899906842624:=by decide
theorem condFit {c:zi} (h:G47 c):CFit c:=by
 induction h with
 | mk x h1 h2 h3 h4 h5 ih=>exact .mk x ⟨Nat.le_trans h4.1.2 zjr,Nat.le_trans h4.2.1.2 zjr⟩ ih
theorem ruleFit {r:zm} (h:G49 r):FitR r:=by
 obtain ⟨_,_,_,h4,h5,_,h7,_⟩:=h
 exact ⟨⟨Nat.le_trans h4.1.2 zjr,Nat.le_trans h4.2.1.2 zjr⟩,⟨Nat.le_trans h5.1.2 zjr,Nat.le_trans h5.2.1.2 zjr⟩,condFit h7⟩
theorem typesFit {t:Types} (h:G25 t):FitT t:=⟨fun n hn=>Nat.le_trans (h.1.1 n hn).2.2.2.1.2 zjr⟩
end Go.Proofs.YtimojjnmmlhijaaGreat
namespace Go.Proofs.YtimojjnmmlhijaaGreat
open Go.Abs
open Go.ChangeShapes Go.WideShapes Go.ChangeAt Go.RowKit
variable {w:World} {H:Type} {enc:TypeId×Value→H}

set_option maxRecDepth 100000 in
theorem zpi:Tryz.prog.funcNamed Rows.layeringFindRow.func=some 5:=by kernel_rfl
set_option maxRecDepth 100000 in
theorem zpq:joinedFacts Tryz.prog 5 Tryz.f5 Rows.layeringFindSpec Rows.layeringFindRow=true:=by kernel_rfl
set_option maxRecDepth 100000 in
theorem zrb (l:∀ (a0:Types) (a1:List zm),G25 a0→G26 a1→zc9 a0 a1=some true):Rows.LayeringFindSaid :=
 OpenClaim.holds_of_wide 5 Tryz.f5 rfl rfl rfl rfl rfl rfl rfl ⟨rfl,rfl,rfl,rfl,rfl⟩ rfl rfl rfl rfl rfl zpi Tryz.func5 zpq
  (of_decide_eq_true (by kernel_rfl)) (by unfold Func.isWrapper; first | (rw [if_pos (by decide +kernel)]; kernel_rfl) | (rw [if_neg (by decide +kernel)]; exact ⟨rfl,rfl⟩))
  (fun os started H enc _=>zbb5 (C:=Tryz.checked) (α:=Types×(List zm)×Unit) (e:=fun x=>[.agg [.lst (x.1.nodes.map encNode),.lst (x.1.edges.map encEdgeT)],.lst (x.2.1.map z6)]) (G:=fun x=>G25 x.1∧G26 x.2.1∧True) (s:=Rows.layeringFindSpec) (conds:=Rows.layeringFindRow.domain) (by kernel_rfl) zbem started (by kernel_rfl) Tryz.func5
   (ChangeSpec.witness6 (enc:=enc) (C:=Tryz.checked) false ⟨#[],#[.agg #[.slice none 0 0,.slice none 0 0],.slice none 0 0],[]⟩ 8 (by kernel_rfl) (by kernel_rfl) (by kernel_rfl) (by kernel_rfl))
   rfl Tryz.underlying4 rfl (fun ds hl=>by match ds,hl with | [d0,d1],_=>exact ⟨rfl,rfl,rfl⟩) (fun W=>by
   rw [Tryz.params5]
   exact (.cons (show DecV Tryz.prog W enc 25 (fun x:Types=>.agg [.lst (x.nodes.map encNode),.lst (x.edges.map encEdgeT)]) G25 from DecV.struct Tryz.underlying25 d25 (by kernel_rfl) (of_decide_eq_true (by kernel_rfl)))
   (.cons (show DecV Tryz.prog W enc 26 (fun x:List zm=>.lst (x.map z6)) G26 from DecV.one (zz1 Tryz.underlying26) d26 (by kernel_rfl) (of_decide_eq_true (by kernel_rfl)))
   .nil))) (fun x h=>zj8 x.1 x.2.1 true (l x.1 x.2.1 h.1 h.2.1)))
end Go.Proofs.YtimojjnmmlhijaaGreat
