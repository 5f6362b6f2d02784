/- Joined texts, part 5: lemmas for the statement. No condition. -/
import Derived.Test.YtdlohnchnneaeaaGreatJ4
import Derived.ChangeArms
import Derived.SizedLaws
import Derived.Test.YtdlohnchnneaeaaGreatJ1
set_option linter.unusedSimpArgs false
set_option linter.unusedVariables false
open Nat (reduceEqDiff reduceLT reduceLeDiff reduceMul reduceAdd reduceSub)
/- Functions of the program as functions of Lean, and the walks that show them. Printed by gen.py. -/
set_option linter.unusedSimpArgs false
set_option linter.unusedVariables false
set_option maxRecDepth 20000
namespace Go.Proofs.YtdlohnchnneaeaaGreat
open Go.Abs

structure T_scarfjointlaw52_Case where
  t : Types
  s : Sorts
structure T_Morphism where
  nodes : List Int
  edges : List Int
structure T_A2_Int where
  x0 : Int
  x1 : Int
structure T_A3_Int where
  x0 : Int
  x1 : Int
  x2 : Int
structure T_scarfjointref15_Draft where
  nodes : List T_A2_Int
  edges : List T_A3_Int
def enc_T_A2_Int (x : T_A2_Int) : List PV := [.val (.int .u8 x.x0), .val (.int .u8 x.x1)]
def enc_T_A3_Int (x : T_A3_Int) : List PV := [.val (.int .u8 x.x0), .val (.int .u8 x.x1), .val (.int .u8 x.x2)]

noncomputable section
def f_triple_part (a0 : Sorts) (a1 : Graph) (a2 : Int) : Option Part :=
  chk (a1.nodes.length ≤ fuel) <|
  forN (fun i217 (s217 : (List Int)) nxts217 brks217 =>
    thn (a1.nodes[i217]?) fun e224 =>
    thn (atZ a0.nodes e224) fun e225 =>
    cond (decide (e225 = a2)) (
      chk (s217.length + 1 ≤ 68719476736) <|
      nxts217 (s217 ++ [((i217 : Nat) : Int)])) <|
    nxts217 s217)
  (a1.nodes.length - 0) 0 ([] : List Int) fun s217 =>
  chk (a1.edges.length ≤ fuel) <|
  forN (fun i238 (s238 : (List Int)) nxts238 brks238 =>
    thn (a1.edges[i238]?) fun e245 =>
    thn (atZ a0.edges e245.type) fun e246 =>
    cond (decide (e246 = a2)) (
      chk (s238.length + 1 ≤ 68719476736) <|
      nxts238 (s238 ++ [((i238 : Nat) : Int)])) <|
    nxts238 s238)
  (a1.edges.length - 0) 0 ([] : List Int) fun s238 =>
  some (⟨s217, s238⟩ : Part)
set_option maxHeartbeats 4000000 in
theorem w_triple_part (a0 : Sorts) (a1 : Graph) (a2 : Int) (r : Part) (h : f_triple_part a0 a1 a2 = some r) : CallF Go.Proofs.Tryz.prog 51 [.agg [.lst (a0.nodes.map encI), .lst (a0.edges.map encI)], .agg [.lst (a1.nodes.map encI), .lst (a1.edges.map encEdge)], .val (.int .i64 a2)] (fun v => v = .agg [.row 3 1 (r.nodes.map encI), .row 3 1 (r.edges.map encI)]) := by
  refine CallF.rle ?_
  refine callF_of_cw [31, 54] Ty.mixed Go.Proofs.Tryz.func51 rfl (by kernel_rfl) (by simp [Go.Proofs.Tryz.ntmps51]) ?_; rw [Go.Proofs.Tryz.ntmps51, Go.Proofs.Tryz.results51]
  unfold f_triple_part at h
  obtain ⟨fus217, h⟩ := chk_s h
  unfold fuel at fus217
  try simp -implicitDefEqProofs only [go_sem, reduceEqDiff, reduceLT, reduceLeDiff, reduceMul, reduceAdd, reduceIte, reduceCtorEq, Nat.reduceBEq, reduceSub, Int.reduceToNat, encEdge, encI]
  refine forN_go (fun x : (Nat × ((List Int))) × (Nat) => envL [(2, .p (.val (.int .i64 a2))), (3, .ptr 3 0), (4, .ptr 4 0), (6, .ptr 6 0), (7, .ptr 7 0), (13, .p (.lst (a1.nodes.map encI))), (14, .p (.val (.int .i64 ((a1.nodes.length : Nat) : Int)))), (15, .p (.val (.int .i64 ((x.1.1 : Nat) : Int))))]) (fun x => heapL [(3, .box [.p (.lst (a0.nodes.map encI)), .p (.lst (a0.edges.map encI))]), (4, .box [.p (.lst (a1.nodes.map encI)), .p (.lst (a1.edges.map encEdge))]), (6, .box [.p (.val (.slice none 0 0)), .p (.val (.slice none 0 0))]), (7, .box [.row 2215 x.2, .p (.val (.slice none 0 0))]), (2215, .row x.2 3 1 (x.1.2.map encI))]) 0 h (by refine Weak.trans (weak_nilbox 7 0 2215 3 1 _ rfl rfl rfl (by decide)) ?_; exact (weakL (by simp -implicitDefEqProofs only [go_sem, reduceEqDiff, reduceLT, reduceLeDiff, reduceMul, reduceAdd, reduceIte, reduceCtorEq, Nat.reduceBEq, reduceSub, Int.reduceToNat, encEdge, encI] <;> ((repeat' apply And.intro) <;> rfl)))) ?_ ?_
  · intro i217 s217 g217 nxts217 Rs217 his217 hNs217 h
    have hws217 := wrap_succ (k := i217) his217 (by omega)
    try dsimp only at h
    obtain ⟨e224, c224, g224, q224, h⟩ := idx_s encI h
    obtain ⟨e225, c225a, c225b, g225, q225, h⟩ := atZ_s encI h
    have c225n := toNat_lt c225a c225b
    try simp -implicitDefEqProofs only [go_sem, reduceEqDiff, reduceLT, reduceLeDiff, reduceMul, reduceAdd, reduceIte, reduceCtorEq, Nat.reduceBEq, reduceSub, Int.reduceToNat, encEdge, encI, his217, hws217, c224, g224, c225a, c225b, c225n, g225]
    refine condC_split (fun b226 => ?_) (fun b226 => ?_)
    · replace h := cond_t h b226
      obtain ⟨c227, h⟩ := chk_s h
      have k228 := eq_true (show (s217.length + 1) * 8 ≤ 140737488355328 by omega)
      have a229 := map_apps encI s217 [((i217 : Nat) : Int)] (c := [[.val (.int .i64 ((i217 : Nat) : Int))]]) rfl
      try simp -implicitDefEqProofs only [go_sem, reduceEqDiff, reduceLT, reduceLeDiff, reduceMul, reduceAdd, reduceIte, reduceCtorEq, Nat.reduceBEq, reduceSub, Int.reduceToNat, encEdge, encI, his217, hws217, c224, g224, c225a, c225b, c225n, g225, b226, c227, k228, a229]
      exact hNs217 (s217 ++ [((i217 : Nat) : Int)]) (g217 + 1) h (weakL (by simp -implicitDefEqProofs only [go_sem, reduceEqDiff, reduceLT, reduceLeDiff, reduceMul, reduceAdd, reduceIte, reduceCtorEq, Nat.reduceBEq, reduceSub, Int.reduceToNat, encEdge, encI, his217, hws217, c224, g224, c225a, c225b, c225n, g225, b226, c227, k228, a229] <;> ((repeat' apply And.intro) <;> rfl)))
    · replace h := cond_f h b226
      try simp -implicitDefEqProofs only [go_sem, reduceEqDiff, reduceLT, reduceLeDiff, reduceMul, reduceAdd, reduceIte, reduceCtorEq, Nat.reduceBEq, reduceSub, Int.reduceToNat, encEdge, encI, his217, hws217, c224, g224, c225a, c225b, c225n, g225, b226]
      exact hNs217 s217 g217 h (weakL (by simp -implicitDefEqProofs only [go_sem, reduceEqDiff, reduceLT, reduceLeDiff, reduceMul, reduceAdd, reduceIte, reduceCtorEq, Nat.reduceBEq, reduceSub, Int.reduceToNat, encEdge, encI, his217, hws217, c224, g224, c225a, c225b, c225n, g225, b226] <;> ((repeat' apply And.intro) <;> rfl)))
  · intro i217 s217 g217 Rs217 hes217 h
    have hns217 : ¬ (i217 < a1.nodes.length) := by omega
    try dsimp only at h
    obtain ⟨fus238, h⟩ := chk_s h
    unfold fuel at fus238
    try simp -implicitDefEqProofs only [go_sem, reduceEqDiff, reduceLT, reduceLeDiff, reduceMul, reduceAdd, reduceIte, reduceCtorEq, Nat.reduceBEq, reduceSub, Int.reduceToNat, encEdge, encI, hns217]
    refine forN_go (fun x : (Nat × ((List Int))) × (Nat) => envL [(2, .p (.val (.int .i64 a2))), (3, .ptr 3 0), (6, .ptr 6 0), (7, .ptr 7 0), (35, .p (.lst (a1.edges.map encEdge))), (36, .p (.val (.int .i64 ((a1.edges.length : Nat) : Int)))), (37, .p (.val (.int .i64 ((x.1.1 : Nat) : Int))))]) (fun x => heapL [(3, .box [.p (.lst (a0.nodes.map encI)), .p (.lst (a0.edges.map encI))]), (6, .box [.p (.val (.slice none 0 0)), .p (.val (.slice none 0 0))]), (7, .box [.row 2215 g217, .row 2236 x.2]), (2215, .row g217 3 1 (s217.map encI)), (2236, .row x.2 3 1 (x.1.2.map encI))]) 0 h (by refine Weak.trans (weak_nilbox 7 1 2236 3 1 _ rfl rfl rfl (by decide)) ?_; exact (weakL (by simp -implicitDefEqProofs only [go_sem, reduceEqDiff, reduceLT, reduceLeDiff, reduceMul, reduceAdd, reduceIte, reduceCtorEq, Nat.reduceBEq, reduceSub, Int.reduceToNat, encEdge, encI, hns217] <;> ((repeat' apply And.intro) <;> rfl)))) ?_ ?_
    · intro i238 s238 g238 nxts238 Rs238 his238 hNs238 h
      have hws238 := wrap_succ (k := i238) his238 (by omega)
      try dsimp only at h
      obtain ⟨e245, c245, g245, q245, h⟩ := idx_s encEdge h
      obtain ⟨e246, c246a, c246b, g246, q246, h⟩ := atZ_s encI h
      have c246n := toNat_lt c246a c246b
      try simp -implicitDefEqProofs only [go_sem, reduceEqDiff, reduceLT, reduceLeDiff, reduceMul, reduceAdd, reduceIte, reduceCtorEq, Nat.reduceBEq, reduceSub, Int.reduceToNat, encEdge, encI, hns217, his238, hws238, c245, g245, c246a, c246b, c246n, g246]
      refine condC_split (fun b247 => ?_) (fun b247 => ?_)
      · replace h := cond_t h b247
        obtain ⟨c248, h⟩ := chk_s h
        have k249 := eq_true (show (s238.length + 1) * 8 ≤ 140737488355328 by omega)
        have a250 := map_apps encI s238 [((i238 : Nat) : Int)] (c := [[.val (.int .i64 ((i238 : Nat) : Int))]]) rfl
        try simp -implicitDefEqProofs only [go_sem, reduceEqDiff, reduceLT, reduceLeDiff, reduceMul, reduceAdd, reduceIte, reduceCtorEq, Nat.reduceBEq, reduceSub, Int.reduceToNat, encEdge, encI, hns217, his238, hws238, c245, g245, c246a, c246b, c246n, g246, b247, c248, k249, a250]
        exact hNs238 (s238 ++ [((i238 : Nat) : Int)]) (g238 + 1) h (weakL (by simp -implicitDefEqProofs only [go_sem, reduceEqDiff, reduceLT, reduceLeDiff, reduceMul, reduceAdd, reduceIte, reduceCtorEq, Nat.reduceBEq, reduceSub, Int.reduceToNat, encEdge, encI, hns217, his238, hws238, c245, g245, c246a, c246b, c246n, g246, b247, c248, k249, a250] <;> ((repeat' apply And.intro) <;> rfl)))
      · replace h := cond_f h b247
        try simp -implicitDefEqProofs only [go_sem, reduceEqDiff, reduceLT, reduceLeDiff, reduceMul, reduceAdd, reduceIte, reduceCtorEq, Nat.reduceBEq, reduceSub, Int.reduceToNat, encEdge, encI, hns217, his238, hws238, c245, g245, c246a, c246b, c246n, g246, b247]
        exact hNs238 s238 g238 h (weakL (by simp -implicitDefEqProofs only [go_sem, reduceEqDiff, reduceLT, reduceLeDiff, reduceMul, reduceAdd, reduceIte, reduceCtorEq, Nat.reduceBEq, reduceSub, Int.reduceToNat, encEdge, encI, hns217, his238, hws238, c245, g245, c246a, c246b, c246n, g246, b247] <;> ((repeat' apply And.intro) <;> rfl)))
    · intro i238 s238 g238 Rs238 hes238 h
      have hns238 : ¬ (i238 < a1.edges.length) := by omega
      try dsimp only at h
      cases h
      try simp -implicitDefEqProofs only [go_sem, reduceEqDiff, reduceLT, reduceLeDiff, reduceMul, reduceAdd, reduceIte, reduceCtorEq, Nat.reduceBEq, reduceSub, Int.reduceToNat, encEdge, encI, hns217, hns238]
      refine ⟨by decide, _, .refl _, ?_⟩
      simp -implicitDefEqProofs only [go_sem, reduceEqDiff, reduceLT, reduceLeDiff, reduceMul, reduceAdd, reduceIte, reduceCtorEq, Nat.reduceBEq, reduceSub, Int.reduceToNat, encEdge, encI, hns217, hns238] <;> ((repeat' apply And.intro) <;> rfl)


def f_host_valid (a0 : Types) (a1 : Host) : Option Int :=
  thn (f_host_Valid a0 a1) fun r252 =>
  some r252.2
set_option maxHeartbeats 4000000 in
theorem w_host_valid (a0 : Types) (a1 : Host) (r : Int) (h : f_host_valid a0 a1 = some r) : CallV Go.Proofs.Tryz.prog 72 [.agg [.lst (a0.nodes.map encNode), .lst (a0.edges.map encEdgeT)], .agg [.lst (a1.graph.nodes.map encI), .lst (a1.graph.edges.map encEdge), .lst (a1.values.map encRow)]] (fun v => v = .val (.int .i64 r)) := by
  refine CallV.ple ?_
  refine callV_of_cw [] Ty.mixed Go.Proofs.Tryz.func72 rfl (by kernel_rfl) (by simp [Go.Proofs.Tryz.ntmps72]) ?_; rw [Go.Proofs.Tryz.ntmps72, Go.Proofs.Tryz.results72]
  unfold f_host_valid at h
  obtain ⟨r252, hr252, h⟩ := thn_s h
  try simp -implicitDefEqProofs only [go_sem, reduceEqDiff, reduceLT, reduceLeDiff, reduceMul, reduceAdd, reduceIte, reduceCtorEq, Nat.reduceBEq, reduceSub, Int.reduceToNat, encEdge, encEdgeT, encI, encInts, encNode, encRow, encStrs]
  refine callG (w_host_Valid a0 a1 r252 hr252) (by simp -implicitDefEqProofs only [go_sem, reduceEqDiff, reduceLT, reduceLeDiff, reduceMul, reduceAdd, reduceIte, reduceCtorEq, Nat.reduceBEq, reduceSub, Int.reduceToNat, encEdge, encEdgeT, encI, encInts, encNode, encRow, encStrs] <;> rfl) (pleL_refl _) (by first | exact pers | exact scal rfl) ?_
  cases h
  try simp -implicitDefEqProofs only [go_sem, reduceEqDiff, reduceLT, reduceLeDiff, reduceMul, reduceAdd, reduceIte, reduceCtorEq, Nat.reduceBEq, reduceSub, Int.reduceToNat, encEdge, encEdgeT, encI, encInts, encNode, encRow, encStrs]
  all_goals ((repeat' apply And.intro) <;> rfl)


def f_subgraph_list (a0 : List Int) (a1 : Int) : Option Int :=
  chk (a0.length ≤ fuel) <|
  forN (fun i265 (s265 : Unit) nxts265 brks265 =>
    thn (a0[i265]?) fun e272 =>
    cond (decide (e272 < 0)) (
      some 6) <|
    cond (decide (a1 ≤ e272)) (
      some 6) <|
    cond (decide (0 < ((i265 : Nat) : Int))) (
      thn (atZ a0 (IntKind.i64.wrap (((i265 : Nat) : Int) - 1))) fun e276 =>
      cond (decide (e272 ≤ e276)) (
        some 12) <|
      nxts265 ()) <|
    nxts265 ())
  (a0.length - 0) 0 () fun s265 =>
  some 0
set_option maxHeartbeats 4000000 in
theorem w_subgraph_list (a0 : List Int) (a1 : Int) (r : Int) (h : f_subgraph_list a0 a1 = some r) : CallV Go.Proofs.Tryz.prog 149 [.lst (a0.map encI), .val (.int .i64 a1)] (fun v => v = .val (.int .i64 r)) := by
  refine CallV.ple ?_
  refine callV_of_cw [] Ty.mixed Go.Proofs.Tryz.func149 rfl (by kernel_rfl) (by simp [Go.Proofs.Tryz.ntmps149]) ?_; rw [Go.Proofs.Tryz.ntmps149, Go.Proofs.Tryz.results149]
  unfold f_subgraph_list at h
  obtain ⟨fus265, h⟩ := chk_s h
  unfold fuel at fus265
  try simp -implicitDefEqProofs only [go_sem, reduceEqDiff, reduceLT, reduceLeDiff, reduceMul, reduceAdd, reduceIte, reduceCtorEq, Nat.reduceBEq, reduceSub, Int.reduceToNat, encI]
  refine forN_go (fun x : (Nat × (Unit)) × (Unit) => envL [(0, .p (.lst (a0.map encI))), (1, .p (.val (.int .i64 a1))), (7, .p (.lst (a0.map encI))), (8, .p (.val (.int .i64 ((a0.length : Nat) : Int)))), (9, .p (.val (.int .i64 ((x.1.1 : Nat) : Int))))]) (fun x => heapL []) () h (weakL (by simp -implicitDefEqProofs only [go_sem, reduceEqDiff, reduceLT, reduceLeDiff, reduceMul, reduceAdd, reduceIte, reduceCtorEq, Nat.reduceBEq, reduceSub, Int.reduceToNat, encI] <;> ((repeat' apply And.intro) <;> rfl))) ?_ ?_
  · intro i265 s265 g265 nxts265 Rs265 his265 hNs265 h
    have hws265 := wrap_succ (k := i265) his265 (by omega)
    try dsimp only at h
    obtain ⟨e272, c272, g272, q272, h⟩ := idx_s encI h
    try simp -implicitDefEqProofs only [go_sem, reduceEqDiff, reduceLT, reduceLeDiff, reduceMul, reduceAdd, reduceIte, reduceCtorEq, Nat.reduceBEq, reduceSub, Int.reduceToNat, encI, his265, hws265, c272, g272]
    refine walkG_splitN (fun b273 => ?_) (fun b273 => ?_)
    · replace h := cond_t h b273
      cases h
      try simp -implicitDefEqProofs only [go_sem, reduceEqDiff, reduceLT, reduceLeDiff, reduceMul, reduceAdd, reduceIte, reduceCtorEq, Nat.reduceBEq, reduceSub, Int.reduceToNat, encI, his265, hws265, c272, g272, b273]
      all_goals ((repeat' apply And.intro) <;> rfl)
    · replace h := cond_f h b273
      try simp -implicitDefEqProofs only [go_sem, reduceEqDiff, reduceLT, reduceLeDiff, reduceMul, reduceAdd, reduceIte, reduceCtorEq, Nat.reduceBEq, reduceSub, Int.reduceToNat, encI, his265, hws265, c272, g272, b273]
      refine condC_split (fun b274 => ?_) (fun b274 => ?_)
      · replace h := cond_t h b274
        cases h
        try simp -implicitDefEqProofs only [go_sem, reduceEqDiff, reduceLT, reduceLeDiff, reduceMul, reduceAdd, reduceIte, reduceCtorEq, Nat.reduceBEq, reduceSub, Int.reduceToNat, encI, his265, hws265, c272, g272, b273, b274]
        all_goals ((repeat' apply And.intro) <;> rfl)
      · replace h := cond_f h b274
        try simp -implicitDefEqProofs only [go_sem, reduceEqDiff, reduceLT, reduceLeDiff, reduceMul, reduceAdd, reduceIte, reduceCtorEq, Nat.reduceBEq, reduceSub, Int.reduceToNat, encI, his265, hws265, c272, g272, b273, b274]
        refine walkG_split (fun b275 => ?_) (fun b275 => ?_)
        · replace h := cond_t h b275
          obtain ⟨e276, c276a, c276b, g276, q276, h⟩ := atZ_s encI h
          have c276n := toNat_lt c276a c276b
          try simp -implicitDefEqProofs only [go_sem, reduceEqDiff, reduceLT, reduceLeDiff, reduceMul, reduceAdd, reduceIte, reduceCtorEq, Nat.reduceBEq, reduceSub, Int.reduceToNat, encI, his265, hws265, c272, g272, b273, b274, b275, c276a, c276b, c276n, g276]
          refine condC_split (fun b277 => ?_) (fun b277 => ?_)
          · replace h := cond_t h b277
            cases h
            try simp -implicitDefEqProofs only [go_sem, reduceEqDiff, reduceLT, reduceLeDiff, reduceMul, reduceAdd, reduceIte, reduceCtorEq, Nat.reduceBEq, reduceSub, Int.reduceToNat, encI, his265, hws265, c272, g272, b273, b274, b275, c276a, c276b, c276n, g276, b277]
            all_goals ((repeat' apply And.intro) <;> rfl)
          · replace h := cond_f h b277
            try simp -implicitDefEqProofs only [go_sem, reduceEqDiff, reduceLT, reduceLeDiff, reduceMul, reduceAdd, reduceIte, reduceCtorEq, Nat.reduceBEq, reduceSub, Int.reduceToNat, encI, his265, hws265, c272, g272, b273, b274, b275, c276a, c276b, c276n, g276, b277]
            exact hNs265 () () h (weakL (by simp -implicitDefEqProofs only [go_sem, reduceEqDiff, reduceLT, reduceLeDiff, reduceMul, reduceAdd, reduceIte, reduceCtorEq, Nat.reduceBEq, reduceSub, Int.reduceToNat, encI, his265, hws265, c272, g272, b273, b274, b275, c276a, c276b, c276n, g276, b277] <;> ((repeat' apply And.intro) <;> rfl)))
        · replace h := cond_f h b275
          try simp -implicitDefEqProofs only [go_sem, reduceEqDiff, reduceLT, reduceLeDiff, reduceMul, reduceAdd, reduceIte, reduceCtorEq, Nat.reduceBEq, reduceSub, Int.reduceToNat, encI, his265, hws265, c272, g272, b273, b274, b275]
          exact hNs265 () () h (weakL (by simp -implicitDefEqProofs only [go_sem, reduceEqDiff, reduceLT, reduceLeDiff, reduceMul, reduceAdd, reduceIte, reduceCtorEq, Nat.reduceBEq, reduceSub, Int.reduceToNat, encI, his265, hws265, c272, g272, b273, b274, b275] <;> ((repeat' apply And.intro) <;> rfl)))
  · intro i265 s265 g265 Rs265 hes265 h
    have hns265 : ¬ (i265 < a0.length) := by omega
    try dsimp only at h
    cases h
    try simp -implicitDefEqProofs only [go_sem, reduceEqDiff, reduceLT, reduceLeDiff, reduceMul, reduceAdd, reduceIte, reduceCtorEq, Nat.reduceBEq, reduceSub, Int.reduceToNat, encI, hns265]
    all_goals ((repeat' apply And.intro) <;> rfl)


def f_cmp_isNaN_int (a0 : Int) : Option Bool :=
  some (!(decide (a0 = a0)))
set_option maxHeartbeats 4000000 in
theorem w_cmp_isNaN_int (a0 : Int) (r : Bool) (h : f_cmp_isNaN_int a0 = some r) : CallV Go.Proofs.Tryz.prog 151 [.val (.int .i64 a0)] (fun v => v = .val (.bool r)) := by
  refine CallV.ple ?_
  refine callV_of_cw [] Ty.mixed Go.Proofs.Tryz.func151 rfl (by kernel_rfl) (by simp [Go.Proofs.Tryz.ntmps151]) ?_; rw [Go.Proofs.Tryz.ntmps151, Go.Proofs.Tryz.results151]
  unfold f_cmp_isNaN_int at h
  cases h
  try simp -implicitDefEqProofs only [go_sem, reduceEqDiff, reduceLT, reduceLeDiff, reduceMul, reduceAdd, reduceIte, reduceCtorEq, Nat.reduceBEq, reduceSub, Int.reduceToNat]
  all_goals ((repeat' apply And.intro) <;> rfl)


def f_cmp_Less_int (a0 : Int) (a1 : Int) : Option Bool :=
  thn (f_cmp_isNaN_int a0) fun r291 =>
  cond r291 (
    thn (f_cmp_isNaN_int a1) fun r293 =>
    cond r293 (
      some (decide (a0 < a1))) <|
    some true) <|
  some (decide (a0 < a1))
set_option maxHeartbeats 4000000 in
theorem w_cmp_Less_int (a0 : Int) (a1 : Int) (r : Bool) (h : f_cmp_Less_int a0 a1 = some r) : CallV Go.Proofs.Tryz.prog 131 [.val (.int .i64 a0), .val (.int .i64 a1)] (fun v => v = .val (.bool r)) := by
  refine CallV.ple ?_
  refine callV_of_cw [] Ty.mixed Go.Proofs.Tryz.func131 rfl (by kernel_rfl) (by simp [Go.Proofs.Tryz.ntmps131]) ?_; rw [Go.Proofs.Tryz.ntmps131, Go.Proofs.Tryz.results131]
  unfold f_cmp_Less_int at h
  obtain ⟨r291, hr291, h⟩ := thn_s h
  try simp -implicitDefEqProofs only [go_sem, reduceEqDiff, reduceLT, reduceLeDiff, reduceMul, reduceAdd, reduceIte, reduceCtorEq, Nat.reduceBEq, reduceSub, Int.reduceToNat]
  refine callG (w_cmp_isNaN_int a0 r291 hr291) (by simp -implicitDefEqProofs only [go_sem, reduceEqDiff, reduceLT, reduceLeDiff, reduceMul, reduceAdd, reduceIte, reduceCtorEq, Nat.reduceBEq, reduceSub, Int.reduceToNat] <;> rfl) (pleL_refl _) (by first | exact pers | exact scal rfl) ?_
  try simp -implicitDefEqProofs only [go_sem, reduceEqDiff, reduceLT, reduceLeDiff, reduceMul, reduceAdd, reduceIte, reduceCtorEq, Nat.reduceBEq, reduceSub, Int.reduceToNat]
  refine walkG_split (fun b292 => ?_) (fun b292 => ?_)
  · replace h := cond_t h b292
    obtain ⟨r293, hr293, h⟩ := thn_s h
    try simp -implicitDefEqProofs only [go_sem, reduceEqDiff, reduceLT, reduceLeDiff, reduceMul, reduceAdd, reduceIte, reduceCtorEq, Nat.reduceBEq, reduceSub, Int.reduceToNat, b292]
    refine callG (w_cmp_isNaN_int a1 r293 hr293) (by simp -implicitDefEqProofs only [go_sem, reduceEqDiff, reduceLT, reduceLeDiff, reduceMul, reduceAdd, reduceIte, reduceCtorEq, Nat.reduceBEq, reduceSub, Int.reduceToNat, b292] <;> rfl) (pleL_refl _) (by first | exact pers | exact scal rfl) ?_
    try simp -implicitDefEqProofs only [go_sem, reduceEqDiff, reduceLT, reduceLeDiff, reduceMul, reduceAdd, reduceIte, reduceCtorEq, Nat.reduceBEq, reduceSub, Int.reduceToNat, b292]
    refine walkG_split (fun b294 => ?_) (fun b294 => ?_)
    · replace h := cond_t h b294
      cases h
      try simp -implicitDefEqProofs only [go_sem, reduceEqDiff, reduceLT, reduceLeDiff, reduceMul, reduceAdd, reduceIte, reduceCtorEq, Nat.reduceBEq, reduceSub, Int.reduceToNat, b292, b294]
      all_goals ((repeat' apply And.intro) <;> rfl)
    · replace h := cond_f h b294
      cases h
      try simp -implicitDefEqProofs only [go_sem, reduceEqDiff, reduceLT, reduceLeDiff, reduceMul, reduceAdd, reduceIte, reduceCtorEq, Nat.reduceBEq, reduceSub, Int.reduceToNat, b292, b294]
      all_goals ((repeat' apply And.intro) <;> rfl)
  · replace h := cond_f h b292
    cases h
    try simp -implicitDefEqProofs only [go_sem, reduceEqDiff, reduceLT, reduceLeDiff, reduceMul, reduceAdd, reduceIte, reduceCtorEq, Nat.reduceBEq, reduceSub, Int.reduceToNat, b292]
    all_goals ((repeat' apply And.intro) <;> rfl)


def f_slices_isNaN_int (a0 : Int) : Option Bool :=
  some (!(decide (a0 = a0)))
set_option maxHeartbeats 4000000 in
theorem w_slices_isNaN_int (a0 : Int) (r : Bool) (h : f_slices_isNaN_int a0 = some r) : CallV Go.Proofs.Tryz.prog 132 [.val (.int .i64 a0)] (fun v => v = .val (.bool r)) := by
  refine CallV.ple ?_
  refine callV_of_cw [] Ty.mixed Go.Proofs.Tryz.func132 rfl (by kernel_rfl) (by simp [Go.Proofs.Tryz.ntmps132]) ?_; rw [Go.Proofs.Tryz.ntmps132, Go.Proofs.Tryz.results132]
  unfold f_slices_isNaN_int at h
  cases h
  try simp -implicitDefEqProofs only [go_sem, reduceEqDiff, reduceLT, reduceLeDiff, reduceMul, reduceAdd, reduceIte, reduceCtorEq, Nat.reduceBEq, reduceSub, Int.reduceToNat]
  all_goals ((repeat' apply And.intro) <;> rfl)


def f_slices_BinarySearch_int (a0 : List Int) (a1 : Int) : Option (Int × Bool) :=
  iter (fun (s297 : Int × Int) nxts297 brks297 =>
    cond (decide (s297.1 < s297.2)) (
      thn (atZ a0 (IntKind.i64.wrap ((IntKind.u64.wrap (IntKind.i64.wrap (s297.1 + s297.2))).fdiv (2 ^ 1)))) fun e307 =>
      thn (f_cmp_Less_int e307 a1) fun r308 =>
      cond r308 (
        nxts297 ((IntKind.i64.wrap ((IntKind.i64.wrap ((IntKind.u64.wrap (IntKind.i64.wrap (s297.1 + s297.2))).fdiv (2 ^ 1))) + 1)), s297.2)) <|
      nxts297 (s297.1, (IntKind.i64.wrap ((IntKind.u64.wrap (IntKind.i64.wrap (s297.1 + s297.2))).fdiv (2 ^ 1))))) <|
    brks297 (s297.1, s297.2))
  fuel (0, ((a0.length : Nat) : Int)) fun s297 =>
  cond (decide (s297.1 < ((a0.length : Nat) : Int))) (
    thn (atZ a0 s297.1) fun e317 =>
    cond (decide (e317 = a1)) (
      some (s297.1, true)) <|
    thn (f_slices_isNaN_int e317) fun r319 =>
    cond r319 (
      thn (f_slices_isNaN_int a1) fun r321 =>
      some (s297.1, r321)) <|
    some (s297.1, false)) <|
  some (s297.1, false)
set_option maxHeartbeats 4000000 in
theorem w_slices_BinarySearch_int (a0 : List Int) (a1 : Int) (r : Int × Bool) (h : f_slices_BinarySearch_int a0 a1 = some r) : CallV Go.Proofs.Tryz.prog 99 [.lst (a0.map encI), .val (.int .i64 a1)] (fun v => v = .tup [.val (.int .i64 r.1), .val (.bool r.2)]) := by
  refine CallV.ple ?_
  refine callV_of_cw [] Ty.mixed Go.Proofs.Tryz.func99 rfl (by kernel_rfl) (by simp [Go.Proofs.Tryz.ntmps99]) ?_; rw [Go.Proofs.Tryz.ntmps99, Go.Proofs.Tryz.results99]
  unfold f_slices_BinarySearch_int at h
  try simp -implicitDefEqProofs only [go_sem, reduceEqDiff, reduceLT, reduceLeDiff, reduceMul, reduceAdd, reduceIte, reduceCtorEq, Nat.reduceBEq, reduceSub, Int.reduceToNat, encI]
  refine iter_go (fun x : (Int × Int) × (Unit) => envL [(0, .p (.lst (a0.map encI))), (1, .p (.val (.int .i64 a1))), (6, .p (.val (.int .i64 ((a0.length : Nat) : Int)))), (7, .p (.val (.int .i64 x.1.1))), (8, .p (.val (.int .i64 x.1.2)))]) (fun x => heapL []) () h (weakL (by simp -implicitDefEqProofs only [go_sem, reduceEqDiff, reduceLT, reduceLeDiff, reduceMul, reduceAdd, reduceIte, reduceCtorEq, Nat.reduceBEq, reduceSub, Int.reduceToNat, encI] <;> ((repeat' apply And.intro) <;> rfl))) ?_
  intro s297 g297 nxts297 Rs297 hNs297 h
  try dsimp only at h
  try simp -implicitDefEqProofs only [go_sem, reduceEqDiff, reduceLT, reduceLeDiff, reduceMul, reduceAdd, reduceIte, reduceCtorEq, Nat.reduceBEq, reduceSub, Int.reduceToNat, encI]
  refine condC_split (fun b304 => ?_) (fun b304 => ?_)
  · replace h := cond_t h b304
    have z305 := show (0 : Int) ≤ 1 by decide
    have z306 := show min 1 64 = 1 from rfl
    obtain ⟨e307, c307a, c307b, g307, q307, h⟩ := atZ_s encI h
    have c307n := toNat_lt c307a c307b
    obtain ⟨r308, hr308, h⟩ := thn_s h
    try simp -implicitDefEqProofs only [go_sem, reduceEqDiff, reduceLT, reduceLeDiff, reduceMul, reduceAdd, reduceIte, reduceCtorEq, Nat.reduceBEq, reduceSub, Int.reduceToNat, encI, b304, z305, z306, c307a, c307b, c307n, g307]
    refine callG (w_cmp_Less_int e307 a1 r308 hr308) (by simp -implicitDefEqProofs only [go_sem, reduceEqDiff, reduceLT, reduceLeDiff, reduceMul, reduceAdd, reduceIte, reduceCtorEq, Nat.reduceBEq, reduceSub, Int.reduceToNat, encI, b304, z305, z306, c307a, c307b, c307n, g307] <;> rfl) (pleL_refl _) (by first | exact pers | exact scal rfl) ?_
    try simp -implicitDefEqProofs only [go_sem, reduceEqDiff, reduceLT, reduceLeDiff, reduceMul, reduceAdd, reduceIte, reduceCtorEq, Nat.reduceBEq, reduceSub, Int.reduceToNat, encI, b304, z305, z306, c307a, c307b, c307n, g307]
    refine condC_split (fun b309 => ?_) (fun b309 => ?_)
    · replace h := cond_t h b309
      try simp -implicitDefEqProofs only [go_sem, reduceEqDiff, reduceLT, reduceLeDiff, reduceMul, reduceAdd, reduceIte, reduceCtorEq, Nat.reduceBEq, reduceSub, Int.reduceToNat, encI, b304, z305, z306, c307a, c307b, c307n, g307, b309]
      exact hNs297 ((IntKind.i64.wrap ((IntKind.i64.wrap ((IntKind.u64.wrap (IntKind.i64.wrap (s297.1 + s297.2))).fdiv (2 ^ 1))) + 1)), s297.2) () h (weakL (by simp -implicitDefEqProofs only [go_sem, reduceEqDiff, reduceLT, reduceLeDiff, reduceMul, reduceAdd, reduceIte, reduceCtorEq, Nat.reduceBEq, reduceSub, Int.reduceToNat, encI, b304, z305, z306, c307a, c307b, c307n, g307, b309] <;> ((repeat' apply And.intro) <;> rfl)))
    · replace h := cond_f h b309
      try simp -implicitDefEqProofs only [go_sem, reduceEqDiff, reduceLT, reduceLeDiff, reduceMul, reduceAdd, reduceIte, reduceCtorEq, Nat.reduceBEq, reduceSub, Int.reduceToNat, encI, b304, z305, z306, c307a, c307b, c307n, g307, b309]
      exact hNs297 (s297.1, (IntKind.i64.wrap ((IntKind.u64.wrap (IntKind.i64.wrap (s297.1 + s297.2))).fdiv (2 ^ 1)))) () h (weakL (by simp -implicitDefEqProofs only [go_sem, reduceEqDiff, reduceLT, reduceLeDiff, reduceMul, reduceAdd, reduceIte, reduceCtorEq, Nat.reduceBEq, reduceSub, Int.reduceToNat, encI, b304, z305, z306, c307a, c307b, c307n, g307, b309] <;> ((repeat' apply And.intro) <;> rfl)))
  · replace h := cond_f h b304
    try dsimp only at h
    try simp -implicitDefEqProofs only [go_sem, reduceEqDiff, reduceLT, reduceLeDiff, reduceMul, reduceAdd, reduceIte, reduceCtorEq, Nat.reduceBEq, reduceSub, Int.reduceToNat, encI, b304]
    refine walkG_split (fun b310 => ?_) (fun b310 => ?_)
    · replace h := cond_t h b310
      obtain ⟨e311, c311a, c311b, g311, q311, h⟩ := atZ_s encI h
      have c311n := toNat_lt c311a c311b
      try simp -implicitDefEqProofs only [go_sem, reduceEqDiff, reduceLT, reduceLeDiff, reduceMul, reduceAdd, reduceIte, reduceCtorEq, Nat.reduceBEq, reduceSub, Int.reduceToNat, encI, b304, b310, c311a, c311b, c311n, g311]
      refine walkG_splitN (fun b312 => ?_) (fun b312 => ?_)
      · replace h := cond_t h b312
        cases h
        try simp -implicitDefEqProofs only [go_sem, reduceEqDiff, reduceLT, reduceLeDiff, reduceMul, reduceAdd, reduceIte, reduceCtorEq, Nat.reduceBEq, reduceSub, Int.reduceToNat, encI, b304, b310, c311a, c311b, c311n, g311, b312]
        all_goals ((repeat' apply And.intro) <;> rfl)
      · replace h := cond_f h b312
        obtain ⟨r313, hr313, h⟩ := thn_s h
        try simp -implicitDefEqProofs only [go_sem, reduceEqDiff, reduceLT, reduceLeDiff, reduceMul, reduceAdd, reduceIte, reduceCtorEq, Nat.reduceBEq, reduceSub, Int.reduceToNat, encI, b304, b310, c311a, c311b, c311n, g311, b312]
        refine callG (w_slices_isNaN_int e311 r313 hr313) (by simp -implicitDefEqProofs only [go_sem, reduceEqDiff, reduceLT, reduceLeDiff, reduceMul, reduceAdd, reduceIte, reduceCtorEq, Nat.reduceBEq, reduceSub, Int.reduceToNat, encI, b304, b310, c311a, c311b, c311n, g311, b312] <;> rfl) (pleL_refl _) (by first | exact pers | exact scal rfl) ?_
        try simp -implicitDefEqProofs only [go_sem, reduceEqDiff, reduceLT, reduceLeDiff, reduceMul, reduceAdd, reduceIte, reduceCtorEq, Nat.reduceBEq, reduceSub, Int.reduceToNat, encI, b304, b310, c311a, c311b, c311n, g311, b312]
        refine walkG_split (fun b314 => ?_) (fun b314 => ?_)
        · replace h := cond_t h b314
          obtain ⟨r315, hr315, h⟩ := thn_s h
          try simp -implicitDefEqProofs only [go_sem, reduceEqDiff, reduceLT, reduceLeDiff, reduceMul, reduceAdd, reduceIte, reduceCtorEq, Nat.reduceBEq, reduceSub, Int.reduceToNat, encI, b304, b310, c311a, c311b, c311n, g311, b312, b314]
          refine callG (w_slices_isNaN_int a1 r315 hr315) (by simp -implicitDefEqProofs only [go_sem, reduceEqDiff, reduceLT, reduceLeDiff, reduceMul, reduceAdd, reduceIte, reduceCtorEq, Nat.reduceBEq, reduceSub, Int.reduceToNat, encI, b304, b310, c311a, c311b, c311n, g311, b312, b314] <;> rfl) (pleL_refl _) (by first | exact pers | exact scal rfl) ?_
          cases h
          try simp -implicitDefEqProofs only [go_sem, reduceEqDiff, reduceLT, reduceLeDiff, reduceMul, reduceAdd, reduceIte, reduceCtorEq, Nat.reduceBEq, reduceSub, Int.reduceToNat, encI, b304, b310, c311a, c311b, c311n, g311, b312, b314]
          all_goals ((repeat' apply And.intro) <;> rfl)
        · replace h := cond_f h b314
          cases h
          try simp -implicitDefEqProofs only [go_sem, reduceEqDiff, reduceLT, reduceLeDiff, reduceMul, reduceAdd, reduceIte, reduceCtorEq, Nat.reduceBEq, reduceSub, Int.reduceToNat, encI, b304, b310, c311a, c311b, c311n, g311, b312, b314]
          all_goals ((repeat' apply And.intro) <;> rfl)
    · replace h := cond_f h b310
      cases h
      try simp -implicitDefEqProofs only [go_sem, reduceEqDiff, reduceLT, reduceLeDiff, reduceMul, reduceAdd, reduceIte, reduceCtorEq, Nat.reduceBEq, reduceSub, Int.reduceToNat, encI, b304, b310]
      all_goals ((repeat' apply And.intro) <;> rfl)


def f_subgraph_has (a0 : List Int) (a1 : Int) : Option Bool :=
  thn (f_slices_BinarySearch_int a0 a1) fun r322 =>
  some r322.2
set_option maxHeartbeats 4000000 in
theorem w_subgraph_has (a0 : List Int) (a1 : Int) (r : Bool) (h : f_subgraph_has a0 a1 = some r) : CallV Go.Proofs.Tryz.prog 150 [.lst (a0.map encI), .val (.int .i64 a1)] (fun v => v = .val (.bool r)) := by
  refine CallV.ple ?_
  refine callV_of_cw [] Ty.mixed Go.Proofs.Tryz.func150 rfl (by kernel_rfl) (by simp [Go.Proofs.Tryz.ntmps150]) ?_; rw [Go.Proofs.Tryz.ntmps150, Go.Proofs.Tryz.results150]
  unfold f_subgraph_has at h
  obtain ⟨r322, hr322, h⟩ := thn_s h
  try simp -implicitDefEqProofs only [go_sem, reduceEqDiff, reduceLT, reduceLeDiff, reduceMul, reduceAdd, reduceIte, reduceCtorEq, Nat.reduceBEq, reduceSub, Int.reduceToNat, encI]
  refine callG (w_slices_BinarySearch_int a0 a1 r322 hr322) (by simp -implicitDefEqProofs only [go_sem, reduceEqDiff, reduceLT, reduceLeDiff, reduceMul, reduceAdd, reduceIte, reduceCtorEq, Nat.reduceBEq, reduceSub, Int.reduceToNat, encI] <;> rfl) (pleL_refl _) (by first | exact pers | exact scal rfl) ?_
  cases h
  try simp -implicitDefEqProofs only [go_sem, reduceEqDiff, reduceLT, reduceLeDiff, reduceMul, reduceAdd, reduceIte, reduceCtorEq, Nat.reduceBEq, reduceSub, Int.reduceToNat, encI]
  all_goals ((repeat' apply And.intro) <;> rfl)


def f_subgraph_part (a0 : Graph) (a1 : Part) : Option Int :=
  thn (f_subgraph_list a1.nodes ((a0.nodes.length : Nat) : Int)) fun r278 =>
  cond (decide (r278 = 0)) (
    thn (f_subgraph_list a1.edges ((a0.edges.length : Nat) : Int)) fun r280 =>
    cond (decide (r280 = 0)) (
      chk (a1.edges.length ≤ fuel) <|
      forN (fun i327 (s327 : Unit) nxts327 brks327 =>
        thn (a1.edges[i327]?) fun e334 =>
        thn (atZ a0.edges e334) fun e335 =>
        thn (f_subgraph_has a1.nodes e335.src) fun r336 =>
        cond r336 (
          thn (f_subgraph_has a1.nodes e335.dst) fun r338 =>
          cond r338 (
            nxts327 ()) <|
          some 14) <|
        some 14)
      (a1.edges.length - 0) 0 () fun s327 =>
      some 0) <|
    some r280) <|
  some r278
set_option maxHeartbeats 4000000 in
theorem w_subgraph_part (a0 : Graph) (a1 : Part) (r : Int) (h : f_subgraph_part a0 a1 = some r) : CallV Go.Proofs.Tryz.prog 130 [.agg [.lst (a0.nodes.map encI), .lst (a0.edges.map encEdge)], .agg [.lst (a1.nodes.map encI), .lst (a1.edges.map encI)]] (fun v => v = .val (.int .i64 r)) := by
  refine CallV.ple ?_
  refine callV_of_cw [] Ty.mixed Go.Proofs.Tryz.func130 rfl (by kernel_rfl) (by simp [Go.Proofs.Tryz.ntmps130]) ?_; rw [Go.Proofs.Tryz.ntmps130, Go.Proofs.Tryz.results130]
  unfold f_subgraph_part at h
  obtain ⟨r278, hr278, h⟩ := thn_s h
  try simp -implicitDefEqProofs only [go_sem, reduceEqDiff, reduceLT, reduceLeDiff, reduceMul, reduceAdd, reduceIte, reduceCtorEq, Nat.reduceBEq, reduceSub, Int.reduceToNat, encEdge, encI]
  refine callG (w_subgraph_list a1.nodes ((a0.nodes.length : Nat) : Int) r278 hr278) (by simp -implicitDefEqProofs only [go_sem, reduceEqDiff, reduceLT, reduceLeDiff, reduceMul, reduceAdd, reduceIte, reduceCtorEq, Nat.reduceBEq, reduceSub, Int.reduceToNat, encEdge, encI] <;> rfl) (pleL_refl _) (by first | exact pers | exact scal rfl) ?_
  try simp -implicitDefEqProofs only [go_sem, reduceEqDiff, reduceLT, reduceLeDiff, reduceMul, reduceAdd, reduceIte, reduceCtorEq, Nat.reduceBEq, reduceSub, Int.reduceToNat, encEdge, encI]
  refine condC_splitN (fun b279 => ?_) (fun b279 => ?_)
  · replace h := cond_t h b279
    obtain ⟨r280, hr280, h⟩ := thn_s h
    try simp -implicitDefEqProofs only [go_sem, reduceEqDiff, reduceLT, reduceLeDiff, reduceMul, reduceAdd, reduceIte, reduceCtorEq, Nat.reduceBEq, reduceSub, Int.reduceToNat, encEdge, encI, b279]
    refine callG (w_subgraph_list a1.edges ((a0.edges.length : Nat) : Int) r280 hr280) (by simp -implicitDefEqProofs only [go_sem, reduceEqDiff, reduceLT, reduceLeDiff, reduceMul, reduceAdd, reduceIte, reduceCtorEq, Nat.reduceBEq, reduceSub, Int.reduceToNat, encEdge, encI, b279] <;> rfl) (pleL_refl _) (by first | exact pers | exact scal rfl) ?_
    try simp -implicitDefEqProofs only [go_sem, reduceEqDiff, reduceLT, reduceLeDiff, reduceMul, reduceAdd, reduceIte, reduceCtorEq, Nat.reduceBEq, reduceSub, Int.reduceToNat, encEdge, encI, b279]
    refine condC_splitN (fun b281 => ?_) (fun b281 => ?_)
    · replace h := cond_t h b281
      obtain ⟨fus327, h⟩ := chk_s h
      unfold fuel at fus327
      try simp -implicitDefEqProofs only [go_sem, reduceEqDiff, reduceLT, reduceLeDiff, reduceMul, reduceAdd, reduceIte, reduceCtorEq, Nat.reduceBEq, reduceSub, Int.reduceToNat, encEdge, encI, b279, b281]
      refine forN_go (fun x : (Nat × (Unit)) × (Unit) => envL [(2, .ptr 2 0), (3, .ptr 3 0), (28, .p (.lst (a1.edges.map encI))), (29, .p (.val (.int .i64 ((a1.edges.length : Nat) : Int)))), (30, .p (.val (.int .i64 ((x.1.1 : Nat) : Int))))]) (fun x => heapL [(2, .box [.p (.lst (a0.nodes.map encI)), .p (.lst (a0.edges.map encEdge))]), (3, .box [.p (.lst (a1.nodes.map encI)), .p (.lst (a1.edges.map encI))])]) () h (weakL (by simp -implicitDefEqProofs only [go_sem, reduceEqDiff, reduceLT, reduceLeDiff, reduceMul, reduceAdd, reduceIte, reduceCtorEq, Nat.reduceBEq, reduceSub, Int.reduceToNat, encEdge, encI, b279, b281] <;> ((repeat' apply And.intro) <;> rfl))) ?_ ?_
      · intro i327 s327 g327 nxts327 Rs327 his327 hNs327 h
        have hws327 := wrap_succ (k := i327) his327 (by omega)
        try dsimp only at h
        obtain ⟨e334, c334, g334, q334, h⟩ := idx_s encI h
        try simp -implicitDefEqProofs only [go_sem, reduceEqDiff, reduceLT, reduceLeDiff, reduceMul, reduceAdd, reduceIte, reduceCtorEq, Nat.reduceBEq, reduceSub, Int.reduceToNat, encEdge, encI, b279, b281, his327, hws327, c334, g334]
        refine draw_txt [.q, .q, .q, .q, .q, .q, .q, .q, .q, .q, .q, .q, .q, .q, .q, .q, .q, .q, .q, .q, .q, .q] (by kernel_rfl) ?_
        obtain ⟨e335, c335a, c335b, g335, q335, h⟩ := atZ_s encEdge h
        have c335n := toNat_lt c335a c335b
        obtain ⟨r336, hr336, h⟩ := thn_s h
        try simp -implicitDefEqProofs only [go_sem, reduceEqDiff, reduceLT, reduceLeDiff, reduceMul, reduceAdd, reduceIte, reduceCtorEq, Nat.reduceBEq, reduceSub, Int.reduceToNat, encEdge, encI, b279, b281, his327, hws327, c334, g334, c335a, c335b, c335n, g335]
        refine calldG (w_subgraph_has a1.nodes e335.src r336 hr336) (by simp -implicitDefEqProofs only [go_sem, reduceEqDiff, reduceLT, reduceLeDiff, reduceMul, reduceAdd, reduceIte, reduceCtorEq, Nat.reduceBEq, reduceSub, Int.reduceToNat, encEdge, encI, b279, b281, his327, hws327, c334, g334, c335a, c335b, c335n, g335] <;> rfl) (pleL_refl _) (by first | exact pers | exact scal rfl) ?_
        try simp -implicitDefEqProofs only [go_sem, reduceEqDiff, reduceLT, reduceLeDiff, reduceMul, reduceAdd, reduceIte, reduceCtorEq, Nat.reduceBEq, reduceSub, Int.reduceToNat, encEdge, encI, b279, b281, his327, hws327, c334, g334, c335a, c335b, c335n, g335]
        refine walkDG_split (fun b337 => ?_) (fun b337 => ?_)
        · replace h := cond_t h b337
          obtain ⟨r338, hr338, h⟩ := thn_s h
          try simp -implicitDefEqProofs only [go_sem, reduceEqDiff, reduceLT, reduceLeDiff, reduceMul, reduceAdd, reduceIte, reduceCtorEq, Nat.reduceBEq, reduceSub, Int.reduceToNat, encEdge, encI, b279, b281, his327, hws327, c334, g334, c335a, c335b, c335n, g335, b337]
          refine calldG (w_subgraph_has a1.nodes e335.dst r338 hr338) (by simp -implicitDefEqProofs only [go_sem, reduceEqDiff, reduceLT, reduceLeDiff, reduceMul, reduceAdd, reduceIte, reduceCtorEq, Nat.reduceBEq, reduceSub, Int.reduceToNat, encEdge, encI, b279, b281, his327, hws327, c334, g334, c335a, c335b, c335n, g335, b337] <;> rfl) (pleL_refl _) (by first | exact pers | exact scal rfl) ?_
          try simp -implicitDefEqProofs only [go_sem, reduceEqDiff, reduceLT, reduceLeDiff, reduceMul, reduceAdd, reduceIte, reduceCtorEq, Nat.reduceBEq, reduceSub, Int.reduceToNat, encEdge, encI, b279, b281, his327, hws327, c334, g334, c335a, c335b, c335n, g335, b337]
          refine condC_splitN (fun b339 => ?_) (fun b339 => ?_)
          · replace h := cond_t h b339
            try simp -implicitDefEqProofs only [go_sem, reduceEqDiff, reduceLT, reduceLeDiff, reduceMul, reduceAdd, reduceIte, reduceCtorEq, Nat.reduceBEq, reduceSub, Int.reduceToNat, encEdge, encI, b279, b281, his327, hws327, c334, g334, c335a, c335b, c335n, g335, b337, b339]
            exact hNs327 () () h (weakL (by simp -implicitDefEqProofs only [go_sem, reduceEqDiff, reduceLT, reduceLeDiff, reduceMul, reduceAdd, reduceIte, reduceCtorEq, Nat.reduceBEq, reduceSub, Int.reduceToNat, encEdge, encI, b279, b281, his327, hws327, c334, g334, c335a, c335b, c335n, g335, b337, b339] <;> ((repeat' apply And.intro) <;> rfl)))
          · replace h := cond_f h b339
            cases h
            try simp -implicitDefEqProofs only [go_sem, reduceEqDiff, reduceLT, reduceLeDiff, reduceMul, reduceAdd, reduceIte, reduceCtorEq, Nat.reduceBEq, reduceSub, Int.reduceToNat, encEdge, encI, b279, b281, his327, hws327, c334, g334, c335a, c335b, c335n, g335, b337, b339]
            all_goals ((repeat' apply And.intro) <;> rfl)
        · replace h := cond_f h b337
          cases h
          try simp -implicitDefEqProofs only [go_sem, reduceEqDiff, reduceLT, reduceLeDiff, reduceMul, reduceAdd, reduceIte, reduceCtorEq, Nat.reduceBEq, reduceSub, Int.reduceToNat, encEdge, encI, b279, b281, his327, hws327, c334, g334, c335a, c335b, c335n, g335, b337]
          all_goals ((repeat' apply And.intro) <;> rfl)
      · intro i327 s327 g327 Rs327 hes327 h
        have hns327 : ¬ (i327 < a1.edges.length) := by omega
        try dsimp only at h
        cases h
        try simp -implicitDefEqProofs only [go_sem, reduceEqDiff, reduceLT, reduceLeDiff, reduceMul, reduceAdd, reduceIte, reduceCtorEq, Nat.reduceBEq, reduceSub, Int.reduceToNat, encEdge, encI, b279, b281, hns327]
        all_goals ((repeat' apply And.intro) <;> rfl)
    · replace h := cond_f h b281
      cases h
      try simp -implicitDefEqProofs only [go_sem, reduceEqDiff, reduceLT, reduceLeDiff, reduceMul, reduceAdd, reduceIte, reduceCtorEq, Nat.reduceBEq, reduceSub, Int.reduceToNat, encEdge, encI, b279, b281]
      all_goals ((repeat' apply And.intro) <;> rfl)
  · replace h := cond_f h b279
    cases h
    try simp -implicitDefEqProofs only [go_sem, reduceEqDiff, reduceLT, reduceLeDiff, reduceMul, reduceAdd, reduceIte, reduceCtorEq, Nat.reduceBEq, reduceSub, Int.reduceToNat, encEdge, encI, b279]
    all_goals ((repeat' apply And.intro) <;> rfl)


def f_subgraph_Valid (a0 : Graph) (a1 : Part) : Option Int :=
  thn (f_graph_Valid a0) fun r255 =>
  cond (decide (r255 = 0)) (
    thn (f_subgraph_part (⟨a0.nodes, a0.edges⟩ : Graph) (⟨a1.nodes, a1.edges⟩ : Part)) fun r340 =>
    some r340) <|
  some r255
set_option maxHeartbeats 4000000 in
theorem w_subgraph_Valid (a0 : Graph) (a1 : Part) (r : Int) (h : f_subgraph_Valid a0 a1 = some r) : CallV Go.Proofs.Tryz.prog 98 [.agg [.lst (a0.nodes.map encI), .lst (a0.edges.map encEdge)], .agg [.lst (a1.nodes.map encI), .lst (a1.edges.map encI)]] (fun v => v = .val (.int .i64 r)) := by
  refine CallV.ple ?_
  refine callV_of_cw [] Ty.mixed Go.Proofs.Tryz.func98 rfl (by kernel_rfl) (by simp [Go.Proofs.Tryz.ntmps98]) ?_; rw [Go.Proofs.Tryz.ntmps98, Go.Proofs.Tryz.results98]
  unfold f_subgraph_Valid at h
  obtain ⟨r255, hr255, h⟩ := thn_s h
  try simp -implicitDefEqProofs only [go_sem, reduceEqDiff, reduceLT, reduceLeDiff, reduceMul, reduceAdd, reduceIte, reduceCtorEq, Nat.reduceBEq, reduceSub, Int.reduceToNat, encEdge, encI]
  refine callG (w_graph_Valid a0 r255 hr255) (by simp -implicitDefEqProofs only [go_sem, reduceEqDiff, reduceLT, reduceLeDiff, reduceMul, reduceAdd, reduceIte, reduceCtorEq, Nat.reduceBEq, reduceSub, Int.reduceToNat, encEdge, encI] <;> rfl) (pleL_refl _) (by first | exact pers | exact scal rfl) ?_
  try simp -implicitDefEqProofs only [go_sem, reduceEqDiff, reduceLT, reduceLeDiff, reduceMul, reduceAdd, reduceIte, reduceCtorEq, Nat.reduceBEq, reduceSub, Int.reduceToNat, encEdge, encI]
  refine condC_splitN (fun b256 => ?_) (fun b256 => ?_)
  · replace h := cond_t h b256
    obtain ⟨r340, hr340, h⟩ := thn_s h
    try simp -implicitDefEqProofs only [go_sem, reduceEqDiff, reduceLT, reduceLeDiff, reduceMul, reduceAdd, reduceIte, reduceCtorEq, Nat.reduceBEq, reduceSub, Int.reduceToNat, encEdge, encI, b256]
    refine callG (w_subgraph_part (⟨a0.nodes, a0.edges⟩ : Graph) (⟨a1.nodes, a1.edges⟩ : Part) r340 hr340) (by simp -implicitDefEqProofs only [go_sem, reduceEqDiff, reduceLT, reduceLeDiff, reduceMul, reduceAdd, reduceIte, reduceCtorEq, Nat.reduceBEq, reduceSub, Int.reduceToNat, encEdge, encI, b256] <;> rfl) (pleL_refl _) (by first | exact pers | exact scal rfl) ?_
    cases h
    try simp -implicitDefEqProofs only [go_sem, reduceEqDiff, reduceLT, reduceLeDiff, reduceMul, reduceAdd, reduceIte, reduceCtorEq, Nat.reduceBEq, reduceSub, Int.reduceToNat, encEdge, encI, b256]
    all_goals ((repeat' apply And.intro) <;> rfl)
  · replace h := cond_f h b256
    cases h
    try simp -implicitDefEqProofs only [go_sem, reduceEqDiff, reduceLT, reduceLeDiff, reduceMul, reduceAdd, reduceIte, reduceCtorEq, Nat.reduceBEq, reduceSub, Int.reduceToNat, encEdge, encI, b256]
    all_goals ((repeat' apply And.intro) <;> rfl)


def f_subgraph_Extract (a0 : Graph) (a1 : Part) : Option (Graph × T_Morphism × Int) :=
  thn (f_subgraph_Valid a0 a1) fun r399 =>
  cond (decide (r399 = 0)) (
    chk (a1.nodes.length ≤ fuel) <|
    forN (fun i411 (s411 : (List Int)) nxts411 brks411 =>
      thn (a1.nodes[i411]?) fun e421 =>
      thn (atZ a0.nodes e421) fun e426 =>
      chk (s411.length + 1 ≤ 68719476736) <|
      nxts411 (s411 ++ [e426]))
    (a1.nodes.length - 0) 0 ([] : List Int) fun s411 =>
    chk (a1.edges.length ≤ fuel) <|
    forN (fun i439 (s439 : (List Edge)) nxts439 brks439 =>
      thn (a1.edges[i439]?) fun e447 =>
      thn (atZ a0.edges e447) fun e448 =>
      thn (f_slices_BinarySearch_int a1.nodes e448.src) fun r449 =>
      thn (f_slices_BinarySearch_int a1.nodes e448.dst) fun r450 =>
      chk (s439.length + 1 ≤ 68719476736) <|
      nxts439 (s439 ++ [(⟨e448.type, r449.1, r450.1⟩ : Edge)]))
    (a1.edges.length - 0) 0 ([] : List Edge) fun s439 =>
    thn (f_slices_Clone_int a1.nodes) fun r454 =>
    thn (f_slices_Clone_int a1.edges) fun r455 =>
    some ((⟨s411, s439⟩ : Graph), (⟨r454, r455⟩ : T_Morphism), 0)) <|
  some ((⟨([] : List Int), ([] : List Edge)⟩ : Graph), (⟨([] : List Int), ([] : List Int)⟩ : T_Morphism), r399)
set_option maxHeartbeats 4000000 in
theorem w_subgraph_Extract (a0 : Graph) (a1 : Part) (r : Graph × T_Morphism × Int) (h : f_subgraph_Extract a0 a1 = some r) : CallF Go.Proofs.Tryz.prog 73 [.agg [.lst (a0.nodes.map encI), .lst (a0.edges.map encEdge)], .agg [.lst (a1.nodes.map encI), .lst (a1.edges.map encI)]] (fun v => v = .tup [.agg [.row 3 1 (r.1.nodes.map encI), .row 73 3 (r.1.edges.map encEdge)], .agg [.p (.lst (r.2.1.nodes.map encI)), .p (.lst (r.2.1.edges.map encI))], .p (.val (.int .i64 r.2.2))]) := by
  refine CallF.rle ?_
  refine callF_of_cw [37, 74] Ty.mixed Go.Proofs.Tryz.func73 rfl (by kernel_rfl) (by simp [Go.Proofs.Tryz.ntmps73]) ?_; rw [Go.Proofs.Tryz.ntmps73, Go.Proofs.Tryz.results73]
  unfold f_subgraph_Extract at h
  obtain ⟨r399, hr399, h⟩ := thn_s h
  try simp -implicitDefEqProofs only [go_sem, reduceEqDiff, reduceLT, reduceLeDiff, reduceMul, reduceAdd, reduceIte, reduceCtorEq, Nat.reduceBEq, reduceSub, Int.reduceToNat, encEdge, encI]
  refine callG (w_subgraph_Valid a0 a1 r399 hr399) (by simp -implicitDefEqProofs only [go_sem, reduceEqDiff, reduceLT, reduceLeDiff, reduceMul, reduceAdd, reduceIte, reduceCtorEq, Nat.reduceBEq, reduceSub, Int.reduceToNat, encEdge, encI] <;> rfl) (pleL_refl _) (by first | exact pers | exact scal rfl) ?_
  try simp -implicitDefEqProofs only [go_sem, reduceEqDiff, reduceLT, reduceLeDiff, reduceMul, reduceAdd, reduceIte, reduceCtorEq, Nat.reduceBEq, reduceSub, Int.reduceToNat, encEdge, encI]
  refine condC_splitN (fun b400 => ?_) (fun b400 => ?_)
  · replace h := cond_t h b400
    obtain ⟨fus411, h⟩ := chk_s h
    unfold fuel at fus411
    try simp -implicitDefEqProofs only [go_sem, reduceEqDiff, reduceLT, reduceLeDiff, reduceMul, reduceAdd, reduceIte, reduceCtorEq, Nat.reduceBEq, reduceSub, Int.reduceToNat, encEdge, encI, b400]
    refine forN_go (fun x : (Nat × ((List Int))) × (Nat) => envL [(2, .ptr 2 0), (3, .ptr 3 0), (4, .ptr 4 0), (5, .ptr 5 0), (8, .ptr 8 0), (23, .p (.lst (a1.nodes.map encI))), (24, .p (.val (.int .i64 ((a1.nodes.length : Nat) : Int)))), (25, .p (.val (.int .i64 ((x.1.1 : Nat) : Int))))]) (fun x => heapL [(2, .box [.p (.lst (a0.nodes.map encI)), .p (.lst (a0.edges.map encEdge))]), (3, .box [.p (.lst (a1.nodes.map encI)), .p (.lst (a1.edges.map encI))]), (4, .box [.p (.val (.slice none 0 0)), .p (.val (.slice none 0 0))]), (5, .box [.p (.val (.slice none 0 0)), .p (.val (.slice none 0 0))]), (8, .box [.row 2409 x.2, .p (.val (.slice none 0 0))]), (2409, .row x.2 3 1 (x.1.2.map encI))]) 0 h (by refine Weak.trans (weak_nilbox 8 0 2409 3 1 _ rfl rfl rfl (by decide)) ?_; exact (weakL (by simp -implicitDefEqProofs only [go_sem, reduceEqDiff, reduceLT, reduceLeDiff, reduceMul, reduceAdd, reduceIte, reduceCtorEq, Nat.reduceBEq, reduceSub, Int.reduceToNat, encEdge, encI, b400] <;> ((repeat' apply And.intro) <;> rfl)))) ?_ ?_
    · intro i411 s411 g411 nxts411 Rs411 his411 hNs411 h
      have hws411 := wrap_succ (k := i411) his411 (by omega)
      try dsimp only at h
      obtain ⟨e421, c421, g421, q421, h⟩ := idx_s encI h
      try simp -implicitDefEqProofs only [go_sem, reduceEqDiff, reduceLT, reduceLeDiff, reduceMul, reduceAdd, reduceIte, reduceCtorEq, Nat.reduceBEq, reduceSub, Int.reduceToNat, encEdge, encI, b400, his411, hws411, c421, g421]
      refine draw_my [(0, .p), (2, .q), (3, .q), (4, .q), (5, .q), (6, .q), (7, .p), (1, .q), (8, .w), (9, .q), (10, .w)] (by kernel_rfl) ?_
      obtain ⟨e426, c426a, c426b, g426, q426, h⟩ := atZ_s encI h
      have c426n := toNat_lt c426a c426b
      obtain ⟨c427, h⟩ := chk_s h
      have k428 := eq_true (show (s411.length + 1) * 8 ≤ 140737488355328 by omega)
      have a429 := map_apps encI s411 [e426] (c := [[.val (.int .i64 e426)]]) rfl
      try simp -implicitDefEqProofs only [go_sem, reduceEqDiff, reduceLT, reduceLeDiff, reduceMul, reduceAdd, reduceIte, reduceCtorEq, Nat.reduceBEq, reduceSub, Int.reduceToNat, encEdge, encI, b400, his411, hws411, c421, g421, c426a, c426b, c426n, g426, c427, k428, a429]
      exact hNs411 (s411 ++ [e426]) (g411 + 1) h (weakL (by simp -implicitDefEqProofs only [go_sem, reduceEqDiff, reduceLT, reduceLeDiff, reduceMul, reduceAdd, reduceIte, reduceCtorEq, Nat.reduceBEq, reduceSub, Int.reduceToNat, encEdge, encI, b400, his411, hws411, c421, g421, c426a, c426b, c426n, g426, c427, k428, a429] <;> ((repeat' apply And.intro) <;> rfl)))
    · intro i411 s411 g411 Rs411 hes411 h
      have hns411 : ¬ (i411 < a1.nodes.length) := by omega
      try dsimp only at h
      obtain ⟨fus439, h⟩ := chk_s h
      unfold fuel at fus439
      try simp -implicitDefEqProofs only [go_sem, reduceEqDiff, reduceLT, reduceLeDiff, reduceMul, reduceAdd, reduceIte, reduceCtorEq, Nat.reduceBEq, reduceSub, Int.reduceToNat, encEdge, encI, b400, hns411]
      refine forN_go (fun x : (Nat × ((List Edge))) × (Nat) => envL [(2, .ptr 2 0), (3, .ptr 3 0), (4, .ptr 4 0), (5, .ptr 5 0), (8, .ptr 8 0), (41, .p (.lst (a1.edges.map encI))), (42, .p (.val (.int .i64 ((a1.edges.length : Nat) : Int)))), (43, .p (.val (.int .i64 ((x.1.1 : Nat) : Int))))]) (fun x => heapL [(2, .box [.p (.lst (a0.nodes.map encI)), .p (.lst (a0.edges.map encEdge))]), (3, .box [.p (.lst (a1.nodes.map encI)), .p (.lst (a1.edges.map encI))]), (4, .box [.p (.val (.slice none 0 0)), .p (.val (.slice none 0 0))]), (5, .box [.p (.val (.slice none 0 0)), .p (.val (.slice none 0 0))]), (8, .box [.row 2409 g411, .row 2437 x.2]), (2409, .row g411 3 1 (s411.map encI)), (2437, .row x.2 73 3 (x.1.2.map encEdge))]) 0 h (by refine Weak.trans (weak_nilbox 8 1 2437 73 3 _ rfl rfl rfl (by decide)) ?_; exact (weakL (by simp -implicitDefEqProofs only [go_sem, reduceEqDiff, reduceLT, reduceLeDiff, reduceMul, reduceAdd, reduceIte, reduceCtorEq, Nat.reduceBEq, reduceSub, Int.reduceToNat, encEdge, encI, b400, hns411] <;> ((repeat' apply And.intro) <;> rfl)))) ?_ ?_
      · intro i439 s439 g439 nxts439 Rs439 his439 hNs439 h
        have hws439 := wrap_succ (k := i439) his439 (by omega)
        try dsimp only at h
        obtain ⟨e447, c447, g447, q447, h⟩ := idx_s encI h
        obtain ⟨e448, c448a, c448b, g448, q448, h⟩ := atZ_s encEdge h
        have c448n := toNat_lt c448a c448b
        obtain ⟨r449, hr449, h⟩ := thn_s h
        try simp -implicitDefEqProofs only [go_sem, reduceEqDiff, reduceLT, reduceLeDiff, reduceMul, reduceAdd, reduceIte, reduceCtorEq, Nat.reduceBEq, reduceSub, Int.reduceToNat, encEdge, encI, b400, hns411, his439, hws439, c447, g447, c448a, c448b, c448n, g448]
        refine callG (w_slices_BinarySearch_int a1.nodes e448.src r449 hr449) (by simp -implicitDefEqProofs only [go_sem, reduceEqDiff, reduceLT, reduceLeDiff, reduceMul, reduceAdd, reduceIte, reduceCtorEq, Nat.reduceBEq, reduceSub, Int.reduceToNat, encEdge, encI, b400, hns411, his439, hws439, c447, g447, c448a, c448b, c448n, g448] <;> rfl) (pleL_refl _) (by first | exact pers | exact scal rfl) ?_
        obtain ⟨r450, hr450, h⟩ := thn_s h
        try simp -implicitDefEqProofs only [go_sem, reduceEqDiff, reduceLT, reduceLeDiff, reduceMul, reduceAdd, reduceIte, reduceCtorEq, Nat.reduceBEq, reduceSub, Int.reduceToNat, encEdge, encI, b400, hns411, his439, hws439, c447, g447, c448a, c448b, c448n, g448]
        refine callG (w_slices_BinarySearch_int a1.nodes e448.dst r450 hr450) (by simp -implicitDefEqProofs only [go_sem, reduceEqDiff, reduceLT, reduceLeDiff, reduceMul, reduceAdd, reduceIte, reduceCtorEq, Nat.reduceBEq, reduceSub, Int.reduceToNat, encEdge, encI, b400, hns411, his439, hws439, c447, g447, c448a, c448b, c448n, g448] <;> rfl) (pleL_refl _) (by first | exact pers | exact scal rfl) ?_
        obtain ⟨c451, h⟩ := chk_s h
        have k452 := eq_true (show (s439.length + 1) * 24 ≤ 140737488355328 by omega)
        have a453 := map_apps encEdge s439 [(⟨e448.type, r449.1, r450.1⟩ : Edge)] (c := [[.val (.int .i64 e448.type), .val (.int .i64 r449.1), .val (.int .i64 r450.1)]]) rfl
        try simp -implicitDefEqProofs only [go_sem, reduceEqDiff, reduceLT, reduceLeDiff, reduceMul, reduceAdd, reduceIte, reduceCtorEq, Nat.reduceBEq, reduceSub, Int.reduceToNat, encEdge, encI, b400, hns411, his439, hws439, c447, g447, c448a, c448b, c448n, g448, c451, k452, a453]
        exact hNs439 (s439 ++ [(⟨e448.type, r449.1, r450.1⟩ : Edge)]) (g439 + 1) h (weakL (by simp -implicitDefEqProofs only [go_sem, reduceEqDiff, reduceLT, reduceLeDiff, reduceMul, reduceAdd, reduceIte, reduceCtorEq, Nat.reduceBEq, reduceSub, Int.reduceToNat, encEdge, encI, b400, hns411, his439, hws439, c447, g447, c448a, c448b, c448n, g448, c451, k452, a453] <;> ((repeat' apply And.intro) <;> rfl)))
      · intro i439 s439 g439 Rs439 hes439 h
        have hns439 : ¬ (i439 < a1.edges.length) := by omega
        try dsimp only at h
        try simp -implicitDefEqProofs only [go_sem, reduceEqDiff, reduceLT, reduceLeDiff, reduceMul, reduceAdd, reduceIte, reduceCtorEq, Nat.reduceBEq, reduceSub, Int.reduceToNat, encEdge, encI, b400, hns411, hns439]
        refine draw_txt [.q, .q, .q, .q, .q, .q, .q, .p, .w, .w, .q] (by kernel_rfl) ?_
        obtain ⟨r454, hr454, h⟩ := thn_s h
        try simp -implicitDefEqProofs only [go_sem, reduceEqDiff, reduceLT, reduceLeDiff, reduceMul, reduceAdd, reduceIte, reduceCtorEq, Nat.reduceBEq, reduceSub, Int.reduceToNat, encEdge, encI, b400, hns411, hns439]
        refine calldG (show CallV _ _ _ (fun v => v = .lst (r454.map encI)) from (w_slices_Clone_int a1.nodes r454 hr454).toV1) (by simp -implicitDefEqProofs only [go_sem, reduceEqDiff, reduceLT, reduceLeDiff, reduceMul, reduceAdd, reduceIte, reduceCtorEq, Nat.reduceBEq, reduceSub, Int.reduceToNat, encEdge, encI, b400, hns411, hns439] <;> rfl) (pleL_refl _) (by first | exact pers | exact scal rfl) ?_
        obtain ⟨r455, hr455, h⟩ := thn_s h
        try simp -implicitDefEqProofs only [go_sem, reduceEqDiff, reduceLT, reduceLeDiff, reduceMul, reduceAdd, reduceIte, reduceCtorEq, Nat.reduceBEq, reduceSub, Int.reduceToNat, encEdge, encI, b400, hns411, hns439]
        refine calldG (show CallV _ _ _ (fun v => v = .lst (r455.map encI)) from (w_slices_Clone_int a1.edges r455 hr455).toV1) (by simp -implicitDefEqProofs only [go_sem, reduceEqDiff, reduceLT, reduceLeDiff, reduceMul, reduceAdd, reduceIte, reduceCtorEq, Nat.reduceBEq, reduceSub, Int.reduceToNat, encEdge, encI, b400, hns411, hns439] <;> rfl) (pleL_refl _) (by first | exact pers | exact scal rfl) ?_
        cases h
        try simp -implicitDefEqProofs only [go_sem, reduceEqDiff, reduceLT, reduceLeDiff, reduceMul, reduceAdd, reduceIte, reduceCtorEq, Nat.reduceBEq, reduceSub, Int.reduceToNat, encEdge, encI, b400, hns411, hns439]
        refine ⟨by decide, _, .refl _, ?_⟩
        simp -implicitDefEqProofs only [go_sem, reduceEqDiff, reduceLT, reduceLeDiff, reduceMul, reduceAdd, reduceIte, reduceCtorEq, Nat.reduceBEq, reduceSub, Int.reduceToNat, encEdge, encI, b400, hns411, hns439] <;> ((repeat' apply And.intro) <;> rfl)
  · replace h := cond_f h b400
    cases h
    try simp -implicitDefEqProofs only [go_sem, reduceEqDiff, reduceLT, reduceLeDiff, reduceMul, reduceAdd, reduceIte, reduceCtorEq, Nat.reduceBEq, reduceSub, Int.reduceToNat, encEdge, encI, b400]
    refine ⟨by decide, _, .refl _, ?_⟩
    simp -implicitDefEqProofs only [go_sem, reduceEqDiff, reduceLT, reduceLeDiff, reduceMul, reduceAdd, reduceIte, reduceCtorEq, Nat.reduceBEq, reduceSub, Int.reduceToNat, encEdge, encI, b400] <;> ((repeat' apply And.intro) <;> rfl)


def f_host_Extract (a0 : Types) (a1 : Host) (a2 : Part) : Option (Host × Int) :=
  thn (f_host_valid a0 a1) fun r473 =>
  cond (decide (r473 = 0)) (
    thn (f_subgraph_Extract a1.graph a2) fun r475 =>
    cond (decide (r475.2.2 = 0)) (
      chk (a2.nodes.length ≤ fuel) <|
      forN (fun i489 (s489 : (List (List Int))) nxts489 brks489 =>
        thn (a2.nodes[i489]?) fun e501 =>
        thn (atZ a1.values e501) fun e507 =>
        thn (f_slices_Clone_int e507) fun r508 =>
        chk (s489.length + 1 ≤ 68719476736) <|
        nxts489 (s489 ++ [r508]))
      (a2.nodes.length - 0) 0 ([] : List (List Int)) fun s489 =>
      some ((⟨r475.1, s489⟩ : Host), 0)) <|
    some ((⟨(⟨([] : List Int), ([] : List Edge)⟩ : Graph), ([] : List (List Int))⟩ : Host), r475.2.2)) <|
  some ((⟨(⟨([] : List Int), ([] : List Edge)⟩ : Graph), ([] : List (List Int))⟩ : Host), r473)
set_option maxHeartbeats 4000000 in
theorem w_host_Extract (a0 : Types) (a1 : Host) (a2 : Part) (r : Host × Int) (h : f_host_Extract a0 a1 a2 = some r) : CallF Go.Proofs.Tryz.prog 52 [.agg [.lst (a0.nodes.map encNode), .lst (a0.edges.map encEdgeT)], .agg [.lst (a1.graph.nodes.map encI), .lst (a1.graph.edges.map encEdge), .lst (a1.values.map encRow)], .agg [.lst (a2.nodes.map encI), .lst (a2.edges.map encI)]] (fun v => v = .tup [.agg [.row 3 1 (r.1.graph.nodes.map encI), .row 73 3 (r.1.graph.edges.map encEdge), .row 26 1 (r.1.values.map encRow)], .p (.val (.int .i64 r.2))]) := by
  refine CallF.rle ?_
  refine callF_of_cw [52] Ty.mixed Go.Proofs.Tryz.func52 rfl (by kernel_rfl) (by simp [Go.Proofs.Tryz.ntmps52]) ?_; rw [Go.Proofs.Tryz.ntmps52, Go.Proofs.Tryz.results52]
  unfold f_host_Extract at h
  obtain ⟨r473, hr473, h⟩ := thn_s h
  try simp -implicitDefEqProofs only [go_sem, reduceEqDiff, reduceLT, reduceLeDiff, reduceMul, reduceAdd, reduceIte, reduceCtorEq, Nat.reduceBEq, reduceSub, Int.reduceToNat, encEdge, encEdgeT, encI, encInts, encNode, encRow, encStrs]
  refine callG (w_host_valid a0 a1 r473 hr473) (by simp -implicitDefEqProofs only [go_sem, reduceEqDiff, reduceLT, reduceLeDiff, reduceMul, reduceAdd, reduceIte, reduceCtorEq, Nat.reduceBEq, reduceSub, Int.reduceToNat, encEdge, encEdgeT, encI, encInts, encNode, encRow, encStrs] <;> rfl) (pleL_refl _) (by first | exact pers | exact scal rfl) ?_
  try simp -implicitDefEqProofs only [go_sem, reduceEqDiff, reduceLT, reduceLeDiff, reduceMul, reduceAdd, reduceIte, reduceCtorEq, Nat.reduceBEq, reduceSub, Int.reduceToNat, encEdge, encEdgeT, encI, encInts, encNode, encRow, encStrs]
  refine condC_splitN (fun b474 => ?_) (fun b474 => ?_)
  · replace h := cond_t h b474
    obtain ⟨r475, hr475, h⟩ := thn_s h
    try simp -implicitDefEqProofs only [go_sem, reduceEqDiff, reduceLT, reduceLeDiff, reduceMul, reduceAdd, reduceIte, reduceCtorEq, Nat.reduceBEq, reduceSub, Int.reduceToNat, encEdge, encEdgeT, encI, encInts, encNode, encRow, encStrs, b474]
    refine callfG 1416 (w_subgraph_Extract a1.graph a2 r475 hr475) (by simp -implicitDefEqProofs only [go_sem, reduceEqDiff, reduceLT, reduceLeDiff, reduceMul, reduceAdd, reduceIte, reduceCtorEq, Nat.reduceBEq, reduceSub, Int.reduceToNat, encEdge, encEdgeT, encI, encInts, encNode, encRow, encStrs, b474] <;> rfl) (pleL_refl _) (by first | exact persF | exact flatF rfl | exact flatF (by simp [RV.flat, RV.flatL, PV.scalar, isVal, encI, encEdge])) (by simp -implicitDefEqProofs only [go_sem, reduceEqDiff, reduceLT, reduceLeDiff, reduceMul, reduceAdd, reduceIte, reduceCtorEq, Nat.reduceBEq, reduceSub, Int.reduceToNat, encEdge, encEdgeT, encI, encInts, encNode, encRow, encStrs, b474]) ?_
    try simp -implicitDefEqProofs only [go_sem, reduceEqDiff, reduceLT, reduceLeDiff, reduceMul, reduceAdd, reduceIte, reduceCtorEq, Nat.reduceBEq, reduceSub, Int.reduceToNat, encEdge, encEdgeT, encI, encInts, encNode, encRow, encStrs, b474]
    refine condC_splitN (fun b476 => ?_) (fun b476 => ?_)
    · replace h := cond_t h b476
      obtain ⟨fus489, h⟩ := chk_s h
      unfold fuel at fus489
      try simp -implicitDefEqProofs only [go_sem, reduceEqDiff, reduceLT, reduceLeDiff, reduceMul, reduceAdd, reduceIte, reduceCtorEq, Nat.reduceBEq, reduceSub, Int.reduceToNat, encEdge, encEdgeT, encI, encInts, encNode, encRow, encStrs, b474, b476]
      refine forN_go (fun x : (Nat × ((List (List Int)))) × (Nat) => envL [(4, .ptr 4 0), (6, .ptr 6 0), (12, .ptr 12 0), (37, .p (.lst (a2.nodes.map encI))), (38, .p (.val (.int .i64 ((a2.nodes.length : Nat) : Int)))), (39, .p (.val (.int .i64 ((x.1.1 : Nat) : Int))))]) (fun x => heapL [(4, .box [.p (.lst (a1.graph.nodes.map encI)), .p (.lst (a1.graph.edges.map encEdge)), .p (.lst (a1.values.map encRow))]), (6, .box [.p (.val (.slice none 0 0)), .p (.val (.slice none 0 0)), .p (.val (.slice none 0 0))]), (12, .box [.row 1416 0, .row 1417 0, .row 2487 x.2]), (1416, .row 0 3 1 (r475.1.nodes.map encI)), (1417, .row 0 73 3 (r475.1.edges.map encEdge)), (2487, .row x.2 26 1 (x.1.2.map encRow))]) 0 h (by refine Weak.trans (weak_nilbox 12 2 2487 26 1 _ rfl rfl rfl (by decide)) ?_; exact (weakL (by simp -implicitDefEqProofs only [go_sem, reduceEqDiff, reduceLT, reduceLeDiff, reduceMul, reduceAdd, reduceIte, reduceCtorEq, Nat.reduceBEq, reduceSub, Int.reduceToNat, encEdge, encEdgeT, encI, encInts, encNode, encRow, encStrs, b474, b476] <;> ((repeat' apply And.intro) <;> rfl)))) ?_ ?_
      · intro i489 s489 g489 nxts489 Rs489 his489 hNs489 h
        have hws489 := wrap_succ (k := i489) his489 (by omega)
        try dsimp only at h
        obtain ⟨e501, c501, g501, q501, h⟩ := idx_s encI h
        try simp -implicitDefEqProofs only [go_sem, reduceEqDiff, reduceLT, reduceLeDiff, reduceMul, reduceAdd, reduceIte, reduceCtorEq, Nat.reduceBEq, reduceSub, Int.reduceToNat, encEdge, encEdgeT, encI, encInts, encNode, encRow, encStrs, b474, b476, his489, hws489, c501, g501]
        refine draw_my [(0, .p), (2, .q), (3, .q), (4, .q), (5, .q), (6, .q), (7, .q), (8, .p), (1, .q), (9, .w), (10, .q), (11, .w)] (by kernel_rfl) ?_
        obtain ⟨e507, c507a, c507b, g507, q507, h⟩ := atZ_s encRow h
        have c507n := toNat_lt c507a c507b
        obtain ⟨r508, hr508, h⟩ := thn_s h
        try simp -implicitDefEqProofs only [go_sem, reduceEqDiff, reduceLT, reduceLeDiff, reduceMul, reduceAdd, reduceIte, reduceCtorEq, Nat.reduceBEq, reduceSub, Int.reduceToNat, encEdge, encEdgeT, encI, encInts, encNode, encRow, encStrs, b474, b476, his489, hws489, c501, g501, c507a, c507b, c507n, g507]
        refine calldG (show CallV _ _ _ (fun v => v = .lst (r508.map encI)) from (w_slices_Clone_int e507 r508 hr508).toV1) (by simp -implicitDefEqProofs only [go_sem, reduceEqDiff, reduceLT, reduceLeDiff, reduceMul, reduceAdd, reduceIte, reduceCtorEq, Nat.reduceBEq, reduceSub, Int.reduceToNat, encEdge, encEdgeT, encI, encInts, encNode, encRow, encStrs, b474, b476, his489, hws489, c501, g501, c507a, c507b, c507n, g507] <;> rfl) (pleL_refl _) (by first | exact pers | exact scal rfl) ?_
        obtain ⟨c509, h⟩ := chk_s h
        have k510 := eq_true (show (s489.length + 1) * 24 ≤ 140737488355328 by omega)
        have a511 := map_apps encRow s489 [r508] (c := [[.lst (r508.map encI)]]) rfl
        try simp -implicitDefEqProofs only [go_sem, reduceEqDiff, reduceLT, reduceLeDiff, reduceMul, reduceAdd, reduceIte, reduceCtorEq, Nat.reduceBEq, reduceSub, Int.reduceToNat, encEdge, encEdgeT, encI, encInts, encNode, encRow, encStrs, b474, b476, his489, hws489, c501, g501, c507a, c507b, c507n, g507, c509, k510, a511]
        exact hNs489 (s489 ++ [r508]) (g489 + 1) h (weakL (by simp -implicitDefEqProofs only [go_sem, reduceEqDiff, reduceLT, reduceLeDiff, reduceMul, reduceAdd, reduceIte, reduceCtorEq, Nat.reduceBEq, reduceSub, Int.reduceToNat, encEdge, encEdgeT, encI, encInts, encNode, encRow, encStrs, b474, b476, his489, hws489, c501, g501, c507a, c507b, c507n, g507, c509, k510, a511] <;> ((repeat' apply And.intro) <;> rfl)))
      · intro i489 s489 g489 Rs489 hes489 h
        have hns489 : ¬ (i489 < a2.nodes.length) := by omega
        try dsimp only at h
        cases h
        try simp -implicitDefEqProofs only [go_sem, reduceEqDiff, reduceLT, reduceLeDiff, reduceMul, reduceAdd, reduceIte, reduceCtorEq, Nat.reduceBEq, reduceSub, Int.reduceToNat, encEdge, encEdgeT, encI, encInts, encNode, encRow, encStrs, b474, b476, hns489]
        refine ⟨by decide, _, .refl _, ?_⟩
        simp -implicitDefEqProofs only [go_sem, reduceEqDiff, reduceLT, reduceLeDiff, reduceMul, reduceAdd, reduceIte, reduceCtorEq, Nat.reduceBEq, reduceSub, Int.reduceToNat, encEdge, encEdgeT, encI, encInts, encNode, encRow, encStrs, b474, b476, hns489] <;> ((repeat' apply And.intro) <;> rfl)
    · replace h := cond_f h b476
      cases h
      try simp -implicitDefEqProofs only [go_sem, reduceEqDiff, reduceLT, reduceLeDiff, reduceMul, reduceAdd, reduceIte, reduceCtorEq, Nat.reduceBEq, reduceSub, Int.reduceToNat, encEdge, encEdgeT, encI, encInts, encNode, encRow, encStrs, b474, b476]
      refine ⟨by decide, _, .refl _, ?_⟩
      simp -implicitDefEqProofs only [go_sem, reduceEqDiff, reduceLT, reduceLeDiff, reduceMul, reduceAdd, reduceIte, reduceCtorEq, Nat.reduceBEq, reduceSub, Int.reduceToNat, encEdge, encEdgeT, encI, encInts, encNode, encRow, encStrs, b474, b476] <;> ((repeat' apply And.intro) <;> rfl)
  · replace h := cond_f h b474
    cases h
    try simp -implicitDefEqProofs only [go_sem, reduceEqDiff, reduceLT, reduceLeDiff, reduceMul, reduceAdd, reduceIte, reduceCtorEq, Nat.reduceBEq, reduceSub, Int.reduceToNat, encEdge, encEdgeT, encI, encInts, encNode, encRow, encStrs, b474]
    refine ⟨by decide, _, .refl _, ?_⟩
    simp -implicitDefEqProofs only [go_sem, reduceEqDiff, reduceLT, reduceLeDiff, reduceMul, reduceAdd, reduceIte, reduceCtorEq, Nat.reduceBEq, reduceSub, Int.reduceToNat, encEdge, encEdgeT, encI, encInts, encNode, encRow, encStrs, b474] <;> ((repeat' apply And.intro) <;> rfl)


def f_triple_Side (a0 : Types) (a1 : Sorts) (a2 : Host) (a3 : Int) : Option (Host × Part × Int) :=
  thn (f_triple_Valid a0 a1 a2) fun r514 =>
  cond (decide (r514 = 0)) (
    cond (decide (a3 = 1)) (
      thn (f_triple_part a1 a2.graph a3) fun r517 =>
      thn (f_host_Extract a0 a2 r517) fun r518 =>
      cond (decide (r518.2 = 0)) (
        some (r518.1, r517, 0)) <|
      some ((⟨(⟨([] : List Int), ([] : List Edge)⟩ : Graph), ([] : List (List Int))⟩ : Host), (⟨([] : List Int), ([] : List Int)⟩ : Part), r518.2)) <|
    cond (decide (a3 = 3)) (
      thn (f_triple_part a1 a2.graph a3) fun r521 =>
      thn (f_host_Extract a0 a2 r521) fun r522 =>
      cond (decide (r522.2 = 0)) (
        some (r522.1, r521, 0)) <|
      some ((⟨(⟨([] : List Int), ([] : List Edge)⟩ : Graph), ([] : List (List Int))⟩ : Host), (⟨([] : List Int), ([] : List Int)⟩ : Part), r522.2)) <|
    some ((⟨(⟨([] : List Int), ([] : List Edge)⟩ : Graph), ([] : List (List Int))⟩ : Host), (⟨([] : List Int), ([] : List Int)⟩ : Part), 6)) <|
  some ((⟨(⟨([] : List Int), ([] : List Edge)⟩ : Graph), ([] : List (List Int))⟩ : Host), (⟨([] : List Int), ([] : List Int)⟩ : Part), r514)
set_option maxHeartbeats 4000000 in
theorem w_triple_Side (a0 : Types) (a1 : Sorts) (a2 : Host) (a3 : Int) (r : Host × Part × Int) (h : f_triple_Side a0 a1 a2 a3 = some r) : CallF Go.Proofs.Tryz.prog 20 [.agg [.lst (a0.nodes.map encNode), .lst (a0.edges.map encEdgeT)], .agg [.lst (a1.nodes.map encI), .lst (a1.edges.map encI)], .agg [.lst (a2.graph.nodes.map encI), .lst (a2.graph.edges.map encEdge), .lst (a2.values.map encRow)], .val (.int .i64 a3)] (fun v => v = .tup [.agg [.row 3 1 (r.1.graph.nodes.map encI), .row 73 3 (r.1.graph.edges.map encEdge), .row 26 1 (r.1.values.map encRow)], .agg [.p (.lst (r.2.1.nodes.map encI)), .p (.lst (r.2.1.edges.map encI))], .p (.val (.int .i64 r.2.2))]) := by
  refine CallF.rle ?_
  refine callF_of_cw [2000008] Ty.mixed Go.Proofs.Tryz.func20 rfl (by kernel_rfl) (by simp [Go.Proofs.Tryz.ntmps20]) ?_; rw [Go.Proofs.Tryz.ntmps20, Go.Proofs.Tryz.results20]
  unfold f_triple_Side at h
  obtain ⟨r514, hr514, h⟩ := thn_s h
  try simp -implicitDefEqProofs only [go_sem, reduceEqDiff, reduceLT, reduceLeDiff, reduceMul, reduceAdd, reduceIte, reduceCtorEq, Nat.reduceBEq, reduceSub, Int.reduceToNat, encEdge, encEdgeT, encI, encInts, encNode, encRow, encStrs]
  refine callG (w_triple_Valid a0 a1 a2 r514 hr514) (by simp -implicitDefEqProofs only [go_sem, reduceEqDiff, reduceLT, reduceLeDiff, reduceMul, reduceAdd, reduceIte, reduceCtorEq, Nat.reduceBEq, reduceSub, Int.reduceToNat, encEdge, encEdgeT, encI, encInts, encNode, encRow, encStrs] <;> rfl) (pleL_refl _) (by first | exact pers | exact scal rfl) ?_
  try simp -implicitDefEqProofs only [go_sem, reduceEqDiff, reduceLT, reduceLeDiff, reduceMul, reduceAdd, reduceIte, reduceCtorEq, Nat.reduceBEq, reduceSub, Int.reduceToNat, encEdge, encEdgeT, encI, encInts, encNode, encRow, encStrs]
  refine condC_splitN (fun b515 => ?_) (fun b515 => ?_)
  · replace h := cond_t h b515
    try simp -implicitDefEqProofs only [go_sem, reduceEqDiff, reduceLT, reduceLeDiff, reduceMul, reduceAdd, reduceIte, reduceCtorEq, Nat.reduceBEq, reduceSub, Int.reduceToNat, encEdge, encEdgeT, encI, encInts, encNode, encRow, encStrs, b515]
    refine walkG_splitN (fun b516 => ?_) (fun b516 => ?_)
    · replace h := cond_t h b516
      obtain ⟨r517, hr517, h⟩ := thn_s h
      try simp -implicitDefEqProofs only [go_sem, reduceEqDiff, reduceLT, reduceLeDiff, reduceMul, reduceAdd, reduceIte, reduceCtorEq, Nat.reduceBEq, reduceSub, Int.reduceToNat, encEdge, encEdgeT, encI, encInts, encNode, encRow, encStrs, b515, b516]
      refine callfG 1576 (w_triple_part a1 a2.graph a3 r517 hr517) (by simp -implicitDefEqProofs only [go_sem, reduceEqDiff, reduceLT, reduceLeDiff, reduceMul, reduceAdd, reduceIte, reduceCtorEq, Nat.reduceBEq, reduceSub, Int.reduceToNat, encEdge, encEdgeT, encI, encInts, encNode, encRow, encStrs, b515, b516] <;> rfl) (pleL_refl _) (by first | exact persF | exact flatF rfl | exact flatF (by simp [RV.flat, RV.flatL, PV.scalar, isVal, encI, encI])) (by simp -implicitDefEqProofs only [go_sem, reduceEqDiff, reduceLT, reduceLeDiff, reduceMul, reduceAdd, reduceIte, reduceCtorEq, Nat.reduceBEq, reduceSub, Int.reduceToNat, encEdge, encEdgeT, encI, encInts, encNode, encRow, encStrs, b515, b516]) ?_
      obtain ⟨r518, hr518, h⟩ := thn_s h
      try simp -implicitDefEqProofs only [go_sem, reduceEqDiff, reduceLT, reduceLeDiff, reduceMul, reduceAdd, reduceIte, reduceCtorEq, Nat.reduceBEq, reduceSub, Int.reduceToNat, encEdge, encEdgeT, encI, encInts, encNode, encRow, encStrs, b515, b516]
      refine callfGs [1576, 1577] 1656 (w_host_Extract a0 a2 r517 r518 hr518) (by simp -implicitDefEqProofs only [go_sem, reduceEqDiff, reduceLT, reduceLeDiff, reduceMul, reduceAdd, reduceIte, reduceCtorEq, Nat.reduceBEq, reduceSub, Int.reduceToNat, encEdge, encEdgeT, encI, encInts, encNode, encRow, encStrs, b515, b516] <;> rfl) (pleL_refl _) (by first | exact persF | exact flatF rfl | exact flatF (by simp [RV.flat, RV.flatL, PV.scalar, isVal, encI, encEdge, encRow])) (by simp -implicitDefEqProofs only [go_sem, reduceEqDiff, reduceLT, reduceLeDiff, reduceMul, reduceAdd, reduceIte, reduceCtorEq, Nat.reduceBEq, reduceSub, Int.reduceToNat, encEdge, encEdgeT, encI, encInts, encNode, encRow, encStrs, b515, b516]) ?_
      try simp -implicitDefEqProofs only [go_sem, reduceEqDiff, reduceLT, reduceLeDiff, reduceMul, reduceAdd, reduceIte, reduceCtorEq, Nat.reduceBEq, reduceSub, Int.reduceToNat, encEdge, encEdgeT, encI, encInts, encNode, encRow, encStrs, b515, b516]
      refine condC_splitN (fun b519 => ?_) (fun b519 => ?_)
      · replace h := cond_t h b519
        try simp -implicitDefEqProofs only [go_sem, reduceEqDiff, reduceLT, reduceLeDiff, reduceMul, reduceAdd, reduceIte, reduceCtorEq, Nat.reduceBEq, reduceSub, Int.reduceToNat, encEdge, encEdgeT, encI, encInts, encNode, encRow, encStrs, b515, b516, b519]
        refine draw_txt [.q, .o, .s, .w, .q] (by kernel_rfl) ?_
        cases h
        try simp -implicitDefEqProofs only [go_sem, reduceEqDiff, reduceLT, reduceLeDiff, reduceMul, reduceAdd, reduceIte, reduceCtorEq, Nat.reduceBEq, reduceSub, Int.reduceToNat, encEdge, encEdgeT, encI, encInts, encNode, encRow, encStrs, b515, b516, b519]
        refine ⟨by decide, _, .refl _, ?_⟩
        simp -implicitDefEqProofs only [go_sem, reduceEqDiff, reduceLT, reduceLeDiff, reduceMul, reduceAdd, reduceIte, reduceCtorEq, Nat.reduceBEq, reduceSub, Int.reduceToNat, encEdge, encEdgeT, encI, encInts, encNode, encRow, encStrs, b515, b516, b519] <;> ((repeat' apply And.intro) <;> rfl)
      · replace h := cond_f h b519
        cases h
        try simp -implicitDefEqProofs only [go_sem, reduceEqDiff, reduceLT, reduceLeDiff, reduceMul, reduceAdd, reduceIte, reduceCtorEq, Nat.reduceBEq, reduceSub, Int.reduceToNat, encEdge, encEdgeT, encI, encInts, encNode, encRow, encStrs, b515, b516, b519]
        refine ⟨by decide, _, .refl _, ?_⟩
        simp -implicitDefEqProofs only [go_sem, reduceEqDiff, reduceLT, reduceLeDiff, reduceMul, reduceAdd, reduceIte, reduceCtorEq, Nat.reduceBEq, reduceSub, Int.reduceToNat, encEdge, encEdgeT, encI, encInts, encNode, encRow, encStrs, b515, b516, b519] <;> ((repeat' apply And.intro) <;> rfl)
    · replace h := cond_f h b516
      try simp -implicitDefEqProofs only [go_sem, reduceEqDiff, reduceLT, reduceLeDiff, reduceMul, reduceAdd, reduceIte, reduceCtorEq, Nat.reduceBEq, reduceSub, Int.reduceToNat, encEdge, encEdgeT, encI, encInts, encNode, encRow, encStrs, b515, b516]
      refine condC_splitN (fun b520 => ?_) (fun b520 => ?_)
      · replace h := cond_t h b520
        obtain ⟨r521, hr521, h⟩ := thn_s h
        try simp -implicitDefEqProofs only [go_sem, reduceEqDiff, reduceLT, reduceLeDiff, reduceMul, reduceAdd, reduceIte, reduceCtorEq, Nat.reduceBEq, reduceSub, Int.reduceToNat, encEdge, encEdgeT, encI, encInts, encNode, encRow, encStrs, b515, b516, b520]
        refine callfG 1576 (w_triple_part a1 a2.graph a3 r521 hr521) (by simp -implicitDefEqProofs only [go_sem, reduceEqDiff, reduceLT, reduceLeDiff, reduceMul, reduceAdd, reduceIte, reduceCtorEq, Nat.reduceBEq, reduceSub, Int.reduceToNat, encEdge, encEdgeT, encI, encInts, encNode, encRow, encStrs, b515, b516, b520] <;> rfl) (pleL_refl _) (by first | exact persF | exact flatF rfl | exact flatF (by simp [RV.flat, RV.flatL, PV.scalar, isVal, encI, encI])) (by simp -implicitDefEqProofs only [go_sem, reduceEqDiff, reduceLT, reduceLeDiff, reduceMul, reduceAdd, reduceIte, reduceCtorEq, Nat.reduceBEq, reduceSub, Int.reduceToNat, encEdge, encEdgeT, encI, encInts, encNode, encRow, encStrs, b515, b516, b520]) ?_
        obtain ⟨r522, hr522, h⟩ := thn_s h
        try simp -implicitDefEqProofs only [go_sem, reduceEqDiff, reduceLT, reduceLeDiff, reduceMul, reduceAdd, reduceIte, reduceCtorEq, Nat.reduceBEq, reduceSub, Int.reduceToNat, encEdge, encEdgeT, encI, encInts, encNode, encRow, encStrs, b515, b516, b520]
        refine callfGs [1576, 1577] 1656 (w_host_Extract a0 a2 r521 r522 hr522) (by simp -implicitDefEqProofs only [go_sem, reduceEqDiff, reduceLT, reduceLeDiff, reduceMul, reduceAdd, reduceIte, reduceCtorEq, Nat.reduceBEq, reduceSub, Int.reduceToNat, encEdge, encEdgeT, encI, encInts, encNode, encRow, encStrs, b515, b516, b520] <;> rfl) (pleL_refl _) (by first | exact persF | exact flatF rfl | exact flatF (by simp [RV.flat, RV.flatL, PV.scalar, isVal, encI, encEdge, encRow])) (by simp -implicitDefEqProofs only [go_sem, reduceEqDiff, reduceLT, reduceLeDiff, reduceMul, reduceAdd, reduceIte, reduceCtorEq, Nat.reduceBEq, reduceSub, Int.reduceToNat, encEdge, encEdgeT, encI, encInts, encNode, encRow, encStrs, b515, b516, b520]) ?_
        try simp -implicitDefEqProofs only [go_sem, reduceEqDiff, reduceLT, reduceLeDiff, reduceMul, reduceAdd, reduceIte, reduceCtorEq, Nat.reduceBEq, reduceSub, Int.reduceToNat, encEdge, encEdgeT, encI, encInts, encNode, encRow, encStrs, b515, b516, b520]
        refine condC_splitN (fun b523 => ?_) (fun b523 => ?_)
        · replace h := cond_t h b523
          try simp -implicitDefEqProofs only [go_sem, reduceEqDiff, reduceLT, reduceLeDiff, reduceMul, reduceAdd, reduceIte, reduceCtorEq, Nat.reduceBEq, reduceSub, Int.reduceToNat, encEdge, encEdgeT, encI, encInts, encNode, encRow, encStrs, b515, b516, b520, b523]
          refine draw_txt [.q, .o, .s, .w, .q] (by kernel_rfl) ?_
          cases h
          try simp -implicitDefEqProofs only [go_sem, reduceEqDiff, reduceLT, reduceLeDiff, reduceMul, reduceAdd, reduceIte, reduceCtorEq, Nat.reduceBEq, reduceSub, Int.reduceToNat, encEdge, encEdgeT, encI, encInts, encNode, encRow, encStrs, b515, b516, b520, b523]
          refine ⟨by decide, _, .refl _, ?_⟩
          simp -implicitDefEqProofs only [go_sem, reduceEqDiff, reduceLT, reduceLeDiff, reduceMul, reduceAdd, reduceIte, reduceCtorEq, Nat.reduceBEq, reduceSub, Int.reduceToNat, encEdge, encEdgeT, encI, encInts, encNode, encRow, encStrs, b515, b516, b520, b523] <;> ((repeat' apply And.intro) <;> rfl)
        · replace h := cond_f h b523
          cases h
          try simp -implicitDefEqProofs only [go_sem, reduceEqDiff, reduceLT, reduceLeDiff, reduceMul, reduceAdd, reduceIte, reduceCtorEq, Nat.reduceBEq, reduceSub, Int.reduceToNat, encEdge, encEdgeT, encI, encInts, encNode, encRow, encStrs, b515, b516, b520, b523]
          refine ⟨by decide, _, .refl _, ?_⟩
          simp -implicitDefEqProofs only [go_sem, reduceEqDiff, reduceLT, reduceLeDiff, reduceMul, reduceAdd, reduceIte, reduceCtorEq, Nat.reduceBEq, reduceSub, Int.reduceToNat, encEdge, encEdgeT, encI, encInts, encNode, encRow, encStrs, b515, b516, b520, b523] <;> ((repeat' apply And.intro) <;> rfl)
      · replace h := cond_f h b520
        cases h
        try simp -implicitDefEqProofs only [go_sem, reduceEqDiff, reduceLT, reduceLeDiff, reduceMul, reduceAdd, reduceIte, reduceCtorEq, Nat.reduceBEq, reduceSub, Int.reduceToNat, encEdge, encEdgeT, encI, encInts, encNode, encRow, encStrs, b515, b516, b520]
        refine ⟨by decide, _, .refl _, ?_⟩
        simp -implicitDefEqProofs only [go_sem, reduceEqDiff, reduceLT, reduceLeDiff, reduceMul, reduceAdd, reduceIte, reduceCtorEq, Nat.reduceBEq, reduceSub, Int.reduceToNat, encEdge, encEdgeT, encI, encInts, encNode, encRow, encStrs, b515, b516, b520] <;> ((repeat' apply And.intro) <;> rfl)
  · replace h := cond_f h b515
    cases h
    try simp -implicitDefEqProofs only [go_sem, reduceEqDiff, reduceLT, reduceLeDiff, reduceMul, reduceAdd, reduceIte, reduceCtorEq, Nat.reduceBEq, reduceSub, Int.reduceToNat, encEdge, encEdgeT, encI, encInts, encNode, encRow, encStrs, b515]
    refine ⟨by decide, _, .refl _, ?_⟩
    simp -implicitDefEqProofs only [go_sem, reduceEqDiff, reduceLT, reduceLeDiff, reduceMul, reduceAdd, reduceIte, reduceCtorEq, Nat.reduceBEq, reduceSub, Int.reduceToNat, encEdge, encEdgeT, encI, encInts, encNode, encRow, encStrs, b515] <;> ((repeat' apply And.intro) <;> rfl)


def f_scarfjointref05_SameInts (a0 : List Int) (a1 : List Int) : Option Bool :=
  cond (decide (((a0.length : Nat) : Int) = ((a1.length : Nat) : Int))) (
    chk (a0.length ≤ fuel) <|
    forN (fun i1126 (s1126 : Unit) nxts1126 brks1126 =>
      thn (a0[i1126]?) fun e1130 =>
      thn (a1[i1126]?) fun e1131 =>
      cond (decide (e1130 = e1131)) (
        nxts1126 ()) <|
      some false)
    (a0.length - 0) 0 () fun s1126 =>
    some true) <|
  some false
set_option maxHeartbeats 4000000 in
theorem w_scarfjointref05_SameInts (a0 : List Int) (a1 : List Int) (r : Bool) (h : f_scarfjointref05_SameInts a0 a1 = some r) : CallV Go.Proofs.Tryz.prog 41 [.lst (a0.map encI), .lst (a1.map encI)] (fun v => v = .val (.bool r)) := by
  refine CallV.ple ?_
  refine callV_of_cw [] Ty.mixed Go.Proofs.Tryz.func41 rfl (by kernel_rfl) (by simp [Go.Proofs.Tryz.ntmps41]) ?_; rw [Go.Proofs.Tryz.ntmps41, Go.Proofs.Tryz.results41]
  unfold f_scarfjointref05_SameInts at h
  try simp -implicitDefEqProofs only [go_sem, reduceEqDiff, reduceLT, reduceLeDiff, reduceMul, reduceAdd, reduceIte, reduceCtorEq, Nat.reduceBEq, reduceSub, Int.reduceToNat, encI]
  refine condC_splitN (fun b1120 => ?_) (fun b1120 => ?_)
  · replace h := cond_t h b1120
    obtain ⟨fus1126, h⟩ := chk_s h
    unfold fuel at fus1126
    try simp -implicitDefEqProofs only [go_sem, reduceEqDiff, reduceLT, reduceLeDiff, reduceMul, reduceAdd, reduceIte, reduceCtorEq, Nat.reduceBEq, reduceSub, Int.reduceToNat, encI, b1120]
    refine forN_go (fun x : (Nat × (Unit)) × (Unit) => envL [(0, .p (.lst (a0.map encI))), (1, .p (.lst (a1.map encI))), (5, .p (.val (.int .i64 ((x.1.1 : Nat) : Int))))]) (fun x => heapL []) () h (weakL (by simp -implicitDefEqProofs only [go_sem, reduceEqDiff, reduceLT, reduceLeDiff, reduceMul, reduceAdd, reduceIte, reduceCtorEq, Nat.reduceBEq, reduceSub, Int.reduceToNat, encI, b1120] <;> ((repeat' apply And.intro) <;> rfl))) ?_ ?_
    · intro i1126 s1126 g1126 nxts1126 Rs1126 his1126 hNs1126 h
      have hws1126 := wrap_succ (k := i1126) his1126 (by omega)
      try dsimp only at h
      try simp -implicitDefEqProofs only [go_sem, reduceEqDiff, reduceLT, reduceLeDiff, reduceMul, reduceAdd, reduceIte, reduceCtorEq, Nat.reduceBEq, reduceSub, Int.reduceToNat, encI, b1120, his1126, hws1126]
      refine draw_txt [.q, .q, .q, .q, .q, .q, .q, .q, .q] (by kernel_rfl) ?_
      obtain ⟨e1130, c1130, g1130, q1130, h⟩ := idx_s encI h
      obtain ⟨e1131, c1131, g1131, q1131, h⟩ := idx_s encI h
      try simp -implicitDefEqProofs only [go_sem, reduceEqDiff, reduceLT, reduceLeDiff, reduceMul, reduceAdd, reduceIte, reduceCtorEq, Nat.reduceBEq, reduceSub, Int.reduceToNat, encI, b1120, his1126, hws1126, c1130, g1130, c1131, g1131]
      refine condC_splitN (fun b1132 => ?_) (fun b1132 => ?_)
      · replace h := cond_t h b1132
        try simp -implicitDefEqProofs only [go_sem, reduceEqDiff, reduceLT, reduceLeDiff, reduceMul, reduceAdd, reduceIte, reduceCtorEq, Nat.reduceBEq, reduceSub, Int.reduceToNat, encI, b1120, his1126, hws1126, c1130, g1130, c1131, g1131, b1132]
        exact hNs1126 () () h (weakL (by simp -implicitDefEqProofs only [go_sem, reduceEqDiff, reduceLT, reduceLeDiff, reduceMul, reduceAdd, reduceIte, reduceCtorEq, Nat.reduceBEq, reduceSub, Int.reduceToNat, encI, b1120, his1126, hws1126, c1130, g1130, c1131, g1131, b1132] <;> ((repeat' apply And.intro) <;> rfl)))
      · replace h := cond_f h b1132
        cases h
        try simp -implicitDefEqProofs only [go_sem, reduceEqDiff, reduceLT, reduceLeDiff, reduceMul, reduceAdd, reduceIte, reduceCtorEq, Nat.reduceBEq, reduceSub, Int.reduceToNat, encI, b1120, his1126, hws1126, c1130, g1130, c1131, g1131, b1132]
        all_goals ((repeat' apply And.intro) <;> rfl)
    · intro i1126 s1126 g1126 Rs1126 hes1126 h
      have hns1126 : ¬ (i1126 < a0.length) := by omega
      try dsimp only at h
      cases h
      try simp -implicitDefEqProofs only [go_sem, reduceEqDiff, reduceLT, reduceLeDiff, reduceMul, reduceAdd, reduceIte, reduceCtorEq, Nat.reduceBEq, reduceSub, Int.reduceToNat, encI, b1120, hns1126]
      all_goals ((repeat' apply And.intro) <;> rfl)
  · replace h := cond_f h b1120
    cases h
    try simp -implicitDefEqProofs only [go_sem, reduceEqDiff, reduceLT, reduceLeDiff, reduceMul, reduceAdd, reduceIte, reduceCtorEq, Nat.reduceBEq, reduceSub, Int.reduceToNat, encI, b1120]
    all_goals ((repeat' apply And.intro) <;> rfl)


def f_scarfjointref05_Same (a0 : Graph) (a1 : Graph) : Option Bool :=
  thn (f_scarfjointref05_SameInts a0.nodes a1.nodes) fun r1133 =>
  cond r1133 (
    cond (decide (((a0.edges.length : Nat) : Int) = ((a1.edges.length : Nat) : Int))) (
      chk (a0.edges.length ≤ fuel) <|
      forN (fun i1141 (s1141 : Unit) nxts1141 brks1141 =>
        thn (a0.edges[i1141]?) fun e1145 =>
        thn (a1.edges[i1141]?) fun e1146 =>
        cond (decide (e1145.type = e1146.type) && (decide (e1145.src = e1146.src) && decide (e1145.dst = e1146.dst))) (
          nxts1141 ()) <|
        some false)
      (a0.edges.length - 0) 0 () fun s1141 =>
      some true) <|
    some false) <|
  some false
set_option maxHeartbeats 4000000 in
theorem w_scarfjointref05_Same (a0 : Graph) (a1 : Graph) (r : Bool) (h : f_scarfjointref05_Same a0 a1 = some r) : CallV Go.Proofs.Tryz.prog 49 [.agg [.lst (a0.nodes.map encI), .lst (a0.edges.map encEdge)], .agg [.lst (a1.nodes.map encI), .lst (a1.edges.map encEdge)]] (fun v => v = .val (.bool r)) := by
  refine CallV.ple ?_
  refine callV_of_cw [] Ty.mixed Go.Proofs.Tryz.func49 rfl (by kernel_rfl) (by simp [Go.Proofs.Tryz.ntmps49]) ?_; rw [Go.Proofs.Tryz.ntmps49, Go.Proofs.Tryz.results49]
  unfold f_scarfjointref05_Same at h
  obtain ⟨r1133, hr1133, h⟩ := thn_s h
  try simp -implicitDefEqProofs only [go_sem, reduceEqDiff, reduceLT, reduceLeDiff, reduceMul, reduceAdd, reduceIte, reduceCtorEq, Nat.reduceBEq, reduceSub, Int.reduceToNat, encEdge, encI]
  refine callG (w_scarfjointref05_SameInts a0.nodes a1.nodes r1133 hr1133) (by simp -implicitDefEqProofs only [go_sem, reduceEqDiff, reduceLT, reduceLeDiff, reduceMul, reduceAdd, reduceIte, reduceCtorEq, Nat.reduceBEq, reduceSub, Int.reduceToNat, encEdge, encI] <;> rfl) (pleL_refl _) (by first | exact pers | exact scal rfl) ?_
  try simp -implicitDefEqProofs only [go_sem, reduceEqDiff, reduceLT, reduceLeDiff, reduceMul, reduceAdd, reduceIte, reduceCtorEq, Nat.reduceBEq, reduceSub, Int.reduceToNat, encEdge, encI]
  refine walkG_split (fun b1134 => ?_) (fun b1134 => ?_)
  · replace h := cond_t h b1134
    try simp -implicitDefEqProofs only [go_sem, reduceEqDiff, reduceLT, reduceLeDiff, reduceMul, reduceAdd, reduceIte, reduceCtorEq, Nat.reduceBEq, reduceSub, Int.reduceToNat, encEdge, encI, b1134]
    refine condC_splitN (fun b1135 => ?_) (fun b1135 => ?_)
    · replace h := cond_t h b1135
      obtain ⟨fus1141, h⟩ := chk_s h
      unfold fuel at fus1141
      try simp -implicitDefEqProofs only [go_sem, reduceEqDiff, reduceLT, reduceLeDiff, reduceMul, reduceAdd, reduceIte, reduceCtorEq, Nat.reduceBEq, reduceSub, Int.reduceToNat, encEdge, encI, b1134, b1135]
      refine forN_go (fun x : (Nat × (Unit)) × (Unit) => envL [(2, .ptr 2 0), (3, .ptr 3 0), (5, .p (.val (.int .i64 ((x.1.1 : Nat) : Int))))]) (fun x => heapL [(2, .box [.p (.lst (a0.nodes.map encI)), .p (.lst (a0.edges.map encEdge))]), (3, .box [.p (.lst (a1.nodes.map encI)), .p (.lst (a1.edges.map encEdge))])]) () h (weakL (by simp -implicitDefEqProofs only [go_sem, reduceEqDiff, reduceLT, reduceLeDiff, reduceMul, reduceAdd, reduceIte, reduceCtorEq, Nat.reduceBEq, reduceSub, Int.reduceToNat, encEdge, encI, b1134, b1135] <;> ((repeat' apply And.intro) <;> rfl))) ?_ ?_
      · intro i1141 s1141 g1141 nxts1141 Rs1141 his1141 hNs1141 h
        have hws1141 := wrap_succ (k := i1141) his1141 (by omega)
        try dsimp only at h
        try simp -implicitDefEqProofs only [go_sem, reduceEqDiff, reduceLT, reduceLeDiff, reduceMul, reduceAdd, reduceIte, reduceCtorEq, Nat.reduceBEq, reduceSub, Int.reduceToNat, encEdge, encI, b1134, b1135, his1141, hws1141]
        refine draw_txt [.q, .q, .q, .q, .q, .q, .q, .q, .q, .q, .q] (by kernel_rfl) ?_
        obtain ⟨e1145, c1145, g1145, q1145, h⟩ := idx_s encEdge h
        obtain ⟨e1146, c1146, g1146, q1146, h⟩ := idx_s encEdge h
        try simp -implicitDefEqProofs only [go_sem, reduceEqDiff, reduceLT, reduceLeDiff, reduceMul, reduceAdd, reduceIte, reduceCtorEq, Nat.reduceBEq, reduceSub, Int.reduceToNat, encEdge, encI, b1134, b1135, his1141, hws1141, c1145, g1145, c1146, g1146]
        refine condC_splitN (fun b1147 => ?_) (fun b1147 => ?_)
        · replace h := cond_t h b1147
          try simp -implicitDefEqProofs only [go_sem, reduceEqDiff, reduceLT, reduceLeDiff, reduceMul, reduceAdd, reduceIte, reduceCtorEq, Nat.reduceBEq, reduceSub, Int.reduceToNat, encEdge, encI, b1134, b1135, his1141, hws1141, c1145, g1145, c1146, g1146, b1147]
          exact hNs1141 () () h (weakL (by simp -implicitDefEqProofs only [go_sem, reduceEqDiff, reduceLT, reduceLeDiff, reduceMul, reduceAdd, reduceIte, reduceCtorEq, Nat.reduceBEq, reduceSub, Int.reduceToNat, encEdge, encI, b1134, b1135, his1141, hws1141, c1145, g1145, c1146, g1146, b1147] <;> ((repeat' apply And.intro) <;> rfl)))
        · replace h := cond_f h b1147
          cases h
          try simp -implicitDefEqProofs only [go_sem, reduceEqDiff, reduceLT, reduceLeDiff, reduceMul, reduceAdd, reduceIte, reduceCtorEq, Nat.reduceBEq, reduceSub, Int.reduceToNat, encEdge, encI, b1134, b1135, his1141, hws1141, c1145, g1145, c1146, g1146, b1147]
          all_goals ((repeat' apply And.intro) <;> rfl)
      · intro i1141 s1141 g1141 Rs1141 hes1141 h
        have hns1141 : ¬ (i1141 < a0.edges.length) := by omega
        try dsimp only at h
        cases h
        try simp -implicitDefEqProofs only [go_sem, reduceEqDiff, reduceLT, reduceLeDiff, reduceMul, reduceAdd, reduceIte, reduceCtorEq, Nat.reduceBEq, reduceSub, Int.reduceToNat, encEdge, encI, b1134, b1135, hns1141]
        all_goals ((repeat' apply And.intro) <;> rfl)
    · replace h := cond_f h b1135
      cases h
      try simp -implicitDefEqProofs only [go_sem, reduceEqDiff, reduceLT, reduceLeDiff, reduceMul, reduceAdd, reduceIte, reduceCtorEq, Nat.reduceBEq, reduceSub, Int.reduceToNat, encEdge, encI, b1134, b1135]
      all_goals ((repeat' apply And.intro) <;> rfl)
  · replace h := cond_f h b1134
    cases h
    try simp -implicitDefEqProofs only [go_sem, reduceEqDiff, reduceLT, reduceLeDiff, reduceMul, reduceAdd, reduceIte, reduceCtorEq, Nat.reduceBEq, reduceSub, Int.reduceToNat, encEdge, encI, b1134]
    all_goals ((repeat' apply And.intro) <;> rfl)


def f_scarfjointref15_compare (a0 : List Int) (a1 : List Int) : Option Int :=
  iter (fun (s1162 : Int) nxts1162 brks1162 =>
    cond (decide (s1162 < ((a0.length : Nat) : Int))) (
      cond (decide (s1162 < ((a1.length : Nat) : Int))) (
        thn (atZ a0 s1162) fun e1171 =>
        thn (atZ a1 s1162) fun e1172 =>
        cond (decide (e1171 = e1172)) (
          nxts1162 (IntKind.i64.wrap (s1162 + 1))) <|
        some (IntKind.i64.wrap (e1171 - e1172))) <|
      brks1162 s1162) <|
    brks1162 s1162)
  fuel 0 fun s1162 =>
  some (IntKind.i64.wrap (((a0.length : Nat) : Int) - ((a1.length : Nat) : Int)))
set_option maxHeartbeats 4000000 in
theorem w_scarfjointref15_compare (a0 : List Int) (a1 : List Int) (r : Int) (h : f_scarfjointref15_compare a0 a1 = some r) : CallV Go.Proofs.Tryz.prog 50 [.lst (a0.map encI), .lst (a1.map encI)] (fun v => v = .val (.int .i64 r)) := by
  refine CallV.ple ?_
  refine callV_of_cw [] Ty.mixed Go.Proofs.Tryz.func50 rfl (by kernel_rfl) (by simp [Go.Proofs.Tryz.ntmps50]) ?_; rw [Go.Proofs.Tryz.ntmps50, Go.Proofs.Tryz.results50]
  unfold f_scarfjointref15_compare at h
  try simp -implicitDefEqProofs only [go_sem, reduceEqDiff, reduceLT, reduceLeDiff, reduceMul, reduceAdd, reduceIte, reduceCtorEq, Nat.reduceBEq, reduceSub, Int.reduceToNat, encI]
  refine iter_go (fun x : (Int) × (Unit) => envL [(0, .p (.lst (a0.map encI))), (1, .p (.lst (a1.map encI))), (5, .p (.val (.int .i64 x.1)))]) (fun x => heapL []) () h (weakL (by simp -implicitDefEqProofs only [go_sem, reduceEqDiff, reduceLT, reduceLeDiff, reduceMul, reduceAdd, reduceIte, reduceCtorEq, Nat.reduceBEq, reduceSub, Int.reduceToNat, encI] <;> ((repeat' apply And.intro) <;> rfl))) ?_
  intro s1162 g1162 nxts1162 Rs1162 hNs1162 h
  try dsimp only at h
  try simp -implicitDefEqProofs only [go_sem, reduceEqDiff, reduceLT, reduceLeDiff, reduceMul, reduceAdd, reduceIte, reduceCtorEq, Nat.reduceBEq, reduceSub, Int.reduceToNat, encI]
  refine walkG_split (fun b1169 => ?_) (fun b1169 => ?_)
  · replace h := cond_t h b1169
    try simp -implicitDefEqProofs only [go_sem, reduceEqDiff, reduceLT, reduceLeDiff, reduceMul, reduceAdd, reduceIte, reduceCtorEq, Nat.reduceBEq, reduceSub, Int.reduceToNat, encI, b1169]
    refine condC_split (fun b1170 => ?_) (fun b1170 => ?_)
    · replace h := cond_t h b1170
      try simp -implicitDefEqProofs only [go_sem, reduceEqDiff, reduceLT, reduceLeDiff, reduceMul, reduceAdd, reduceIte, reduceCtorEq, Nat.reduceBEq, reduceSub, Int.reduceToNat, encI, b1169, b1170]
      refine draw_txt [.q, .q, .q, .q, .q, .q, .q, .q, .q] (by kernel_rfl) ?_
      obtain ⟨e1171, c1171a, c1171b, g1171, q1171, h⟩ := atZ_s encI h
      have c1171n := toNat_lt c1171a c1171b
      obtain ⟨e1172, c1172a, c1172b, g1172, q1172, h⟩ := atZ_s encI h
      have c1172n := toNat_lt c1172a c1172b
      try simp -implicitDefEqProofs only [go_sem, reduceEqDiff, reduceLT, reduceLeDiff, reduceMul, reduceAdd, reduceIte, reduceCtorEq, Nat.reduceBEq, reduceSub, Int.reduceToNat, encI, b1169, b1170, c1171a, c1171b, c1171n, g1171, c1172a, c1172b, c1172n, g1172]
      refine condC_splitN (fun b1173 => ?_) (fun b1173 => ?_)
      · replace h := cond_t h b1173
        try simp -implicitDefEqProofs only [go_sem, reduceEqDiff, reduceLT, reduceLeDiff, reduceMul, reduceAdd, reduceIte, reduceCtorEq, Nat.reduceBEq, reduceSub, Int.reduceToNat, encI, b1169, b1170, c1171a, c1171b, c1171n, g1171, c1172a, c1172b, c1172n, g1172, b1173]
        exact hNs1162 (IntKind.i64.wrap (s1162 + 1)) () h (weakL (by simp -implicitDefEqProofs only [go_sem, reduceEqDiff, reduceLT, reduceLeDiff, reduceMul, reduceAdd, reduceIte, reduceCtorEq, Nat.reduceBEq, reduceSub, Int.reduceToNat, encI, b1169, b1170, c1171a, c1171b, c1171n, g1171, c1172a, c1172b, c1172n, g1172, b1173] <;> ((repeat' apply And.intro) <;> rfl)))
      · replace h := cond_f h b1173
        try simp -implicitDefEqProofs only [go_sem, reduceEqDiff, reduceLT, reduceLeDiff, reduceMul, reduceAdd, reduceIte, reduceCtorEq, Nat.reduceBEq, reduceSub, Int.reduceToNat, encI, b1169, b1170, c1171a, c1171b, c1171n, g1171, c1172a, c1172b, c1172n, g1172, b1173]
        refine draw_txt [.q, .q, .q, .q, .q, .q, .q, .q, .q, .q] (by kernel_rfl) ?_
        cases h
        try simp -implicitDefEqProofs only [go_sem, reduceEqDiff, reduceLT, reduceLeDiff, reduceMul, reduceAdd, reduceIte, reduceCtorEq, Nat.reduceBEq, reduceSub, Int.reduceToNat, encI, b1169, b1170, c1171a, c1171b, c1171n, g1171, c1172a, c1172b, c1172n, g1172, b1173]
        all_goals ((repeat' apply And.intro) <;> rfl)
    · replace h := cond_f h b1170
      try dsimp only at h
      cases h
      try simp -implicitDefEqProofs only [go_sem, reduceEqDiff, reduceLT, reduceLeDiff, reduceMul, reduceAdd, reduceIte, reduceCtorEq, Nat.reduceBEq, reduceSub, Int.reduceToNat, encI, b1169, b1170]
      all_goals ((repeat' apply And.intro) <;> rfl)
  · replace h := cond_f h b1169
    try dsimp only at h
    cases h
    try simp -implicitDefEqProofs only [go_sem, reduceEqDiff, reduceLT, reduceLeDiff, reduceMul, reduceAdd, reduceIte, reduceCtorEq, Nat.reduceBEq, reduceSub, Int.reduceToNat, encI, b1169]
    all_goals ((repeat' apply And.intro) <;> rfl)


def f_scarfjointref15_Same (a0 : Host) (a1 : Host) : Option Bool :=
  thn (f_scarfjointref05_Same a0.graph a1.graph) fun r1148 =>
  cond r1148 (
    cond (decide (((a0.values.length : Nat) : Int) = ((a1.values.length : Nat) : Int))) (
      chk (a0.values.length ≤ fuel) <|
      forN (fun i1176 (s1176 : Unit) nxts1176 brks1176 =>
        thn (a0.values[i1176]?) fun e1181 =>
        thn (a1.values[i1176]?) fun e1182 =>
        thn (f_scarfjointref15_compare e1181 e1182) fun r1183 =>
        cond (decide (r1183 = 0)) (
          nxts1176 ()) <|
        some false)
      (a0.values.length - 0) 0 () fun s1176 =>
      some true) <|
    some false) <|
  some false
set_option maxHeartbeats 4000000 in
theorem w_scarfjointref15_Same (a0 : Host) (a1 : Host) (r : Bool) (h : f_scarfjointref15_Same a0 a1 = some r) : CallV Go.Proofs.Tryz.prog 19 [.agg [.lst (a0.graph.nodes.map encI), .lst (a0.graph.edges.map encEdge), .lst (a0.values.map encRow)], .agg [.lst (a1.graph.nodes.map encI), .lst (a1.graph.edges.map encEdge), .lst (a1.values.map encRow)]] (fun v => v = .val (.bool r)) := by
  refine CallV.ple ?_
  refine callV_of_cw [] Ty.mixed Go.Proofs.Tryz.func19 rfl (by kernel_rfl) (by simp [Go.Proofs.Tryz.ntmps19]) ?_; rw [Go.Proofs.Tryz.ntmps19, Go.Proofs.Tryz.results19]
  unfold f_scarfjointref15_Same at h
  obtain ⟨r1148, hr1148, h⟩ := thn_s h
  try simp -implicitDefEqProofs only [go_sem, reduceEqDiff, reduceLT, reduceLeDiff, reduceMul, reduceAdd, reduceIte, reduceCtorEq, Nat.reduceBEq, reduceSub, Int.reduceToNat, encEdge, encI, encInts, encRow, encStrs]
  refine callG (w_scarfjointref05_Same a0.graph a1.graph r1148 hr1148) (by simp -implicitDefEqProofs only [go_sem, reduceEqDiff, reduceLT, reduceLeDiff, reduceMul, reduceAdd, reduceIte, reduceCtorEq, Nat.reduceBEq, reduceSub, Int.reduceToNat, encEdge, encI, encInts, encRow, encStrs] <;> rfl) (pleL_refl _) (by first | exact pers | exact scal rfl) ?_
  try simp -implicitDefEqProofs only [go_sem, reduceEqDiff, reduceLT, reduceLeDiff, reduceMul, reduceAdd, reduceIte, reduceCtorEq, Nat.reduceBEq, reduceSub, Int.reduceToNat, encEdge, encI, encInts, encRow, encStrs]
  refine walkG_split (fun b1149 => ?_) (fun b1149 => ?_)
  · replace h := cond_t h b1149
    try simp -implicitDefEqProofs only [go_sem, reduceEqDiff, reduceLT, reduceLeDiff, reduceMul, reduceAdd, reduceIte, reduceCtorEq, Nat.reduceBEq, reduceSub, Int.reduceToNat, encEdge, encI, encInts, encRow, encStrs, b1149]
    refine condC_splitN (fun b1150 => ?_) (fun b1150 => ?_)
    · replace h := cond_t h b1150
      obtain ⟨fus1176, h⟩ := chk_s h
      unfold fuel at fus1176
      try simp -implicitDefEqProofs only [go_sem, reduceEqDiff, reduceLT, reduceLeDiff, reduceMul, reduceAdd, reduceIte, reduceCtorEq, Nat.reduceBEq, reduceSub, Int.reduceToNat, encEdge, encI, encInts, encRow, encStrs, b1149, b1150]
      refine forN_go (fun x : (Nat × (Unit)) × (Unit) => envL [(2, .ptr 2 0), (3, .ptr 3 0), (5, .p (.val (.int .i64 ((x.1.1 : Nat) : Int))))]) (fun x => heapL [(2, .box [.p (.lst (a0.graph.nodes.map encI)), .p (.lst (a0.graph.edges.map encEdge)), .p (.lst (a0.values.map encRow))]), (3, .box [.p (.lst (a1.graph.nodes.map encI)), .p (.lst (a1.graph.edges.map encEdge)), .p (.lst (a1.values.map encRow))])]) () h (weakL (by simp -implicitDefEqProofs only [go_sem, reduceEqDiff, reduceLT, reduceLeDiff, reduceMul, reduceAdd, reduceIte, reduceCtorEq, Nat.reduceBEq, reduceSub, Int.reduceToNat, encEdge, encI, encInts, encRow, encStrs, b1149, b1150] <;> ((repeat' apply And.intro) <;> rfl))) ?_ ?_
      · intro i1176 s1176 g1176 nxts1176 Rs1176 his1176 hNs1176 h
        have hws1176 := wrap_succ (k := i1176) his1176 (by omega)
        try dsimp only at h
        try simp -implicitDefEqProofs only [go_sem, reduceEqDiff, reduceLT, reduceLeDiff, reduceMul, reduceAdd, reduceIte, reduceCtorEq, Nat.reduceBEq, reduceSub, Int.reduceToNat, encEdge, encI, encInts, encRow, encStrs, b1149, b1150, his1176, hws1176]
        refine draw_txt [.q, .q, .q, .q, .q, .q, .q, .q, .q, .q, .q, .q] (by kernel_rfl) ?_
        obtain ⟨e1181, c1181, g1181, q1181, h⟩ := idx_s encRow h
        obtain ⟨e1182, c1182, g1182, q1182, h⟩ := idx_s encRow h
        obtain ⟨r1183, hr1183, h⟩ := thn_s h
        try simp -implicitDefEqProofs only [go_sem, reduceEqDiff, reduceLT, reduceLeDiff, reduceMul, reduceAdd, reduceIte, reduceCtorEq, Nat.reduceBEq, reduceSub, Int.reduceToNat, encEdge, encI, encInts, encRow, encStrs, b1149, b1150, his1176, hws1176, c1181, g1181, c1182, g1182]
        refine calldG (w_scarfjointref15_compare e1181 e1182 r1183 hr1183) (by simp -implicitDefEqProofs only [go_sem, reduceEqDiff, reduceLT, reduceLeDiff, reduceMul, reduceAdd, reduceIte, reduceCtorEq, Nat.reduceBEq, reduceSub, Int.reduceToNat, encEdge, encI, encInts, encRow, encStrs, b1149, b1150, his1176, hws1176, c1181, g1181, c1182, g1182] <;> rfl) (pleL_refl _) (by first | exact pers | exact scal rfl) ?_
        try simp -implicitDefEqProofs only [go_sem, reduceEqDiff, reduceLT, reduceLeDiff, reduceMul, reduceAdd, reduceIte, reduceCtorEq, Nat.reduceBEq, reduceSub, Int.reduceToNat, encEdge, encI, encInts, encRow, encStrs, b1149, b1150, his1176, hws1176, c1181, g1181, c1182, g1182]
        refine condC_splitN (fun b1184 => ?_) (fun b1184 => ?_)
        · replace h := cond_t h b1184
          try simp -implicitDefEqProofs only [go_sem, reduceEqDiff, reduceLT, reduceLeDiff, reduceMul, reduceAdd, reduceIte, reduceCtorEq, Nat.reduceBEq, reduceSub, Int.reduceToNat, encEdge, encI, encInts, encRow, encStrs, b1149, b1150, his1176, hws1176, c1181, g1181, c1182, g1182, b1184]
          exact hNs1176 () () h (weakL (by simp -implicitDefEqProofs only [go_sem, reduceEqDiff, reduceLT, reduceLeDiff, reduceMul, reduceAdd, reduceIte, reduceCtorEq, Nat.reduceBEq, reduceSub, Int.reduceToNat, encEdge, encI, encInts, encRow, encStrs, b1149, b1150, his1176, hws1176, c1181, g1181, c1182, g1182, b1184] <;> ((repeat' apply And.intro) <;> rfl)))
        · replace h := cond_f h b1184
          cases h
          try simp -implicitDefEqProofs only [go_sem, reduceEqDiff, reduceLT, reduceLeDiff, reduceMul, reduceAdd, reduceIte, reduceCtorEq, Nat.reduceBEq, reduceSub, Int.reduceToNat, encEdge, encI, encInts, encRow, encStrs, b1149, b1150, his1176, hws1176, c1181, g1181, c1182, g1182, b1184]
          all_goals ((repeat' apply And.intro) <;> rfl)
      · intro i1176 s1176 g1176 Rs1176 hes1176 h
        have hns1176 : ¬ (i1176 < a0.values.length) := by omega
        try dsimp only at h
        cases h
        try simp -implicitDefEqProofs only [go_sem, reduceEqDiff, reduceLT, reduceLeDiff, reduceMul, reduceAdd, reduceIte, reduceCtorEq, Nat.reduceBEq, reduceSub, Int.reduceToNat, encEdge, encI, encInts, encRow, encStrs, b1149, b1150, hns1176]
        all_goals ((repeat' apply And.intro) <;> rfl)
    · replace h := cond_f h b1150
      cases h
      try simp -implicitDefEqProofs only [go_sem, reduceEqDiff, reduceLT, reduceLeDiff, reduceMul, reduceAdd, reduceIte, reduceCtorEq, Nat.reduceBEq, reduceSub, Int.reduceToNat, encEdge, encI, encInts, encRow, encStrs, b1149, b1150]
      all_goals ((repeat' apply And.intro) <;> rfl)
  · replace h := cond_f h b1149
    cases h
    try simp -implicitDefEqProofs only [go_sem, reduceEqDiff, reduceLT, reduceLeDiff, reduceMul, reduceAdd, reduceIte, reduceCtorEq, Nat.reduceBEq, reduceSub, Int.reduceToNat, encEdge, encI, encInts, encRow, encStrs, b1149]
    all_goals ((repeat' apply And.intro) <;> rfl)


def f_scarfjointref07_Same (a0 : Part) (a1 : Part) : Option Bool :=
  thn (f_scarfjointref05_SameInts a0.nodes a1.nodes) fun r1187 =>
  cond r1187 (
    thn (f_scarfjointref05_SameInts a0.edges a1.edges) fun r1189 =>
    some r1189) <|
  some false
set_option maxHeartbeats 4000000 in
theorem w_scarfjointref07_Same (a0 : Part) (a1 : Part) (r : Bool) (h : f_scarfjointref07_Same a0 a1 = some r) : CallV Go.Proofs.Tryz.prog 24 [.agg [.lst (a0.nodes.map encI), .lst (a0.edges.map encI)], .agg [.lst (a1.nodes.map encI), .lst (a1.edges.map encI)]] (fun v => v = .val (.bool r)) := by
  refine CallV.ple ?_
  refine callV_of_cw [] Ty.mixed Go.Proofs.Tryz.func24 rfl (by kernel_rfl) (by simp [Go.Proofs.Tryz.ntmps24]) ?_; rw [Go.Proofs.Tryz.ntmps24, Go.Proofs.Tryz.results24]
  unfold f_scarfjointref07_Same at h
  obtain ⟨r1187, hr1187, h⟩ := thn_s h
  try simp -implicitDefEqProofs only [go_sem, reduceEqDiff, reduceLT, reduceLeDiff, reduceMul, reduceAdd, reduceIte, reduceCtorEq, Nat.reduceBEq, reduceSub, Int.reduceToNat, encI]
  refine callG (w_scarfjointref05_SameInts a0.nodes a1.nodes r1187 hr1187) (by simp -implicitDefEqProofs only [go_sem, reduceEqDiff, reduceLT, reduceLeDiff, reduceMul, reduceAdd, reduceIte, reduceCtorEq, Nat.reduceBEq, reduceSub, Int.reduceToNat, encI] <;> rfl) (pleL_refl _) (by first | exact pers | exact scal rfl) ?_
  try simp -implicitDefEqProofs only [go_sem, reduceEqDiff, reduceLT, reduceLeDiff, reduceMul, reduceAdd, reduceIte, reduceCtorEq, Nat.reduceBEq, reduceSub, Int.reduceToNat, encI]
  refine walkG_split (fun b1188 => ?_) (fun b1188 => ?_)
  · replace h := cond_t h b1188
    obtain ⟨r1189, hr1189, h⟩ := thn_s h
    try simp -implicitDefEqProofs only [go_sem, reduceEqDiff, reduceLT, reduceLeDiff, reduceMul, reduceAdd, reduceIte, reduceCtorEq, Nat.reduceBEq, reduceSub, Int.reduceToNat, encI, b1188]
    refine callG (w_scarfjointref05_SameInts a0.edges a1.edges r1189 hr1189) (by simp -implicitDefEqProofs only [go_sem, reduceEqDiff, reduceLT, reduceLeDiff, reduceMul, reduceAdd, reduceIte, reduceCtorEq, Nat.reduceBEq, reduceSub, Int.reduceToNat, encI, b1188] <;> rfl) (pleL_refl _) (by first | exact pers | exact scal rfl) ?_
    cases h
    try simp -implicitDefEqProofs only [go_sem, reduceEqDiff, reduceLT, reduceLeDiff, reduceMul, reduceAdd, reduceIte, reduceCtorEq, Nat.reduceBEq, reduceSub, Int.reduceToNat, encI, b1188]
    all_goals ((repeat' apply And.intro) <;> rfl)
  · replace h := cond_f h b1188
    cases h
    try simp -implicitDefEqProofs only [go_sem, reduceEqDiff, reduceLT, reduceLeDiff, reduceMul, reduceAdd, reduceIte, reduceCtorEq, Nat.reduceBEq, reduceSub, Int.reduceToNat, encI, b1188]
    all_goals ((repeat' apply And.intro) <;> rfl)


def f_scarfjointref15_concrete (a0 : Types) : Option (List Int) :=
  chk (a0.nodes.length ≤ fuel) <|
  forN (fun i1212 (s1212 : (List Int)) nxts1212 brks1212 =>
    thn (a0.nodes[i1212]?) fun e1218 =>
    cond e1218.abs (
      nxts1212 s1212) <|
    chk (s1212.length + 1 ≤ 68719476736) <|
    nxts1212 (s1212 ++ [((i1212 : Nat) : Int)]))
  (a0.nodes.length - 0) 0 ([] : List Int) fun s1212 =>
  some s1212
set_option maxHeartbeats 4000000 in
theorem w_scarfjointref15_concrete (a0 : Types) (r : (List Int)) (h : f_scarfjointref15_concrete a0 = some r) : CallF Go.Proofs.Tryz.prog 57 [.agg [.lst (a0.nodes.map encNode), .lst (a0.edges.map encEdgeT)]] (fun v => v = .row 3 1 (r.map encI)) := by
  refine CallF.rle ?_
  refine callF_of_cw [22] Ty.mixed Go.Proofs.Tryz.func57 rfl (by kernel_rfl) (by simp [Go.Proofs.Tryz.ntmps57]) ?_; rw [Go.Proofs.Tryz.ntmps57, Go.Proofs.Tryz.results57]
  unfold f_scarfjointref15_concrete at h
  obtain ⟨fus1212, h⟩ := chk_s h
  unfold fuel at fus1212
  try simp -implicitDefEqProofs only [go_sem, reduceEqDiff, reduceLT, reduceLeDiff, reduceMul, reduceAdd, reduceIte, reduceCtorEq, Nat.reduceBEq, reduceSub, Int.reduceToNat, encEdgeT, encI, encInts, encNode, encStrs]
  refine forN_go (fun x : (Nat × ((List Int))) × (Nat) => envL [(1, .ptr 1 0), (3, .row 3210 x.2), (4, .p (.val (.int .i64 ((x.1.1 : Nat) : Int))))]) (fun x => heapL [(1, .box [.p (.lst (a0.nodes.map encNode)), .p (.lst (a0.edges.map encEdgeT))]), (3210, .row x.2 3 1 (x.1.2.map encI))]) 0 h (by refine Weak.trans (weak_nil 3 3210 3 1 rfl rfl (by decide)) ?_; exact (weakL (by simp -implicitDefEqProofs only [go_sem, reduceEqDiff, reduceLT, reduceLeDiff, reduceMul, reduceAdd, reduceIte, reduceCtorEq, Nat.reduceBEq, reduceSub, Int.reduceToNat, encEdgeT, encI, encInts, encNode, encStrs] <;> ((repeat' apply And.intro) <;> rfl)))) ?_ ?_
  · intro i1212 s1212 g1212 nxts1212 Rs1212 his1212 hNs1212 h
    have hws1212 := wrap_succ (k := i1212) his1212 (by omega)
    try dsimp only at h
    obtain ⟨e1218, c1218, g1218, q1218, h⟩ := idx_s encNode h
    try simp -implicitDefEqProofs only [go_sem, reduceEqDiff, reduceLT, reduceLeDiff, reduceMul, reduceAdd, reduceIte, reduceCtorEq, Nat.reduceBEq, reduceSub, Int.reduceToNat, encEdgeT, encI, encInts, encNode, encStrs, his1212, hws1212, c1218, g1218]
    refine condC_splitN (fun b1219 => ?_) (fun b1219 => ?_)
    · replace h := cond_t h b1219
      try simp -implicitDefEqProofs only [go_sem, reduceEqDiff, reduceLT, reduceLeDiff, reduceMul, reduceAdd, reduceIte, reduceCtorEq, Nat.reduceBEq, reduceSub, Int.reduceToNat, encEdgeT, encI, encInts, encNode, encStrs, his1212, hws1212, c1218, g1218, b1219]
      exact hNs1212 s1212 g1212 h (weakL (by simp -implicitDefEqProofs only [go_sem, reduceEqDiff, reduceLT, reduceLeDiff, reduceMul, reduceAdd, reduceIte, reduceCtorEq, Nat.reduceBEq, reduceSub, Int.reduceToNat, encEdgeT, encI, encInts, encNode, encStrs, his1212, hws1212, c1218, g1218, b1219] <;> ((repeat' apply And.intro) <;> rfl)))
    · replace h := cond_f h b1219
      obtain ⟨c1220, h⟩ := chk_s h
      have k1221 := eq_true (show (s1212.length + 1) * 8 ≤ 140737488355328 by omega)
      have a1222 := map_apps encI s1212 [((i1212 : Nat) : Int)] (c := [[.val (.int .i64 ((i1212 : Nat) : Int))]]) rfl
      try simp -implicitDefEqProofs only [go_sem, reduceEqDiff, reduceLT, reduceLeDiff, reduceMul, reduceAdd, reduceIte, reduceCtorEq, Nat.reduceBEq, reduceSub, Int.reduceToNat, encEdgeT, encI, encInts, encNode, encStrs, his1212, hws1212, c1218, g1218, b1219, c1220, k1221, a1222]
      exact hNs1212 (s1212 ++ [((i1212 : Nat) : Int)]) (g1212 + 1) h (weakL (by simp -implicitDefEqProofs only [go_sem, reduceEqDiff, reduceLT, reduceLeDiff, reduceMul, reduceAdd, reduceIte, reduceCtorEq, Nat.reduceBEq, reduceSub, Int.reduceToNat, encEdgeT, encI, encInts, encNode, encStrs, his1212, hws1212, c1218, g1218, b1219, c1220, k1221, a1222] <;> ((repeat' apply And.intro) <;> rfl)))
  · intro i1212 s1212 g1212 Rs1212 hes1212 h
    have hns1212 : ¬ (i1212 < a0.nodes.length) := by omega
    try dsimp only at h
    cases h
    try simp -implicitDefEqProofs only [go_sem, reduceEqDiff, reduceLT, reduceLeDiff, reduceMul, reduceAdd, reduceIte, reduceCtorEq, Nat.reduceBEq, reduceSub, Int.reduceToNat, encEdgeT, encI, encInts, encNode, encStrs, hns1212]
    refine ⟨by decide, _, .refl _, ?_⟩
    simp -implicitDefEqProofs only [go_sem, reduceEqDiff, reduceLT, reduceLeDiff, reduceMul, reduceAdd, reduceIte, reduceCtorEq, Nat.reduceBEq, reduceSub, Int.reduceToNat, encEdgeT, encI, encInts, encNode, encStrs, hns1212] <;> ((repeat' apply And.intro) <;> rfl)


def f_scarfjointref04_in (a0 : Int) (a1 : Int) (a2 : Int) : Option Bool :=
  cond (decide (a1 ≤ a0)) (
    some (decide (a0 ≤ a2))) <|
  some false
set_option maxHeartbeats 4000000 in
theorem w_scarfjointref04_in (a0 : Int) (a1 : Int) (a2 : Int) (r : Bool) (h : f_scarfjointref04_in a0 a1 a2 = some r) : CallV Go.Proofs.Tryz.prog 82 [.val (.int .i64 a0), .val (.int .i64 a1), .val (.int .i64 a2)] (fun v => v = .val (.bool r)) := by
  refine CallV.ple ?_
  refine callV_of_cw [] Ty.mixed Go.Proofs.Tryz.func82 rfl (by kernel_rfl) (by simp [Go.Proofs.Tryz.ntmps82]) ?_; rw [Go.Proofs.Tryz.ntmps82, Go.Proofs.Tryz.results82]
  unfold f_scarfjointref04_in at h
  try simp -implicitDefEqProofs only [go_sem, reduceEqDiff, reduceLT, reduceLeDiff, reduceMul, reduceAdd, reduceIte, reduceCtorEq, Nat.reduceBEq, reduceSub, Int.reduceToNat]
  refine walkG_split (fun b1237 => ?_) (fun b1237 => ?_)
  · replace h := cond_t h b1237
    cases h
    try simp -implicitDefEqProofs only [go_sem, reduceEqDiff, reduceLT, reduceLeDiff, reduceMul, reduceAdd, reduceIte, reduceCtorEq, Nat.reduceBEq, reduceSub, Int.reduceToNat, b1237]
    all_goals ((repeat' apply And.intro) <;> rfl)
  · replace h := cond_f h b1237
    cases h
    try simp -implicitDefEqProofs only [go_sem, reduceEqDiff, reduceLT, reduceLeDiff, reduceMul, reduceAdd, reduceIte, reduceCtorEq, Nat.reduceBEq, reduceSub, Int.reduceToNat, b1237]
    all_goals ((repeat' apply And.intro) <;> rfl)


def f_scarfjointref04_given (a0 : Types) (a1 : Int) (a2 : Int) : Option Int :=
  thn (f_scarfjointref04_Valid a0) fun r1235 =>
  cond (decide (r1235.2 = 0)) (
    thn (f_scarfjointref04_in a1 0 (IntKind.i64.wrap (((a0.nodes.length : Nat) : Int) - 1))) fun r1238 =>
    cond r1238 (
      thn (f_scarfjointref04_in a2 0 (IntKind.i64.wrap (((a0.nodes.length : Nat) : Int) - 1))) fun r1240 =>
      cond r1240 (
        some 0) <|
      some 6) <|
    some 6) <|
  some r1235.2
set_option maxHeartbeats 4000000 in
theorem w_scarfjointref04_given (a0 : Types) (a1 : Int) (a2 : Int) (r : Int) (h : f_scarfjointref04_given a0 a1 a2 = some r) : CallV Go.Proofs.Tryz.prog 80 [.agg [.lst (a0.nodes.map encNode), .lst (a0.edges.map encEdgeT)], .val (.int .i64 a1), .val (.int .i64 a2)] (fun v => v = .val (.int .i64 r)) := by
  refine CallV.ple ?_
  refine callV_of_cw [] Ty.mixed Go.Proofs.Tryz.func80 rfl (by kernel_rfl) (by simp [Go.Proofs.Tryz.ntmps80]) ?_; rw [Go.Proofs.Tryz.ntmps80, Go.Proofs.Tryz.results80]
  unfold f_scarfjointref04_given at h
  obtain ⟨r1235, hr1235, h⟩ := thn_s h
  try simp -implicitDefEqProofs only [go_sem, reduceEqDiff, reduceLT, reduceLeDiff, reduceMul, reduceAdd, reduceIte, reduceCtorEq, Nat.reduceBEq, reduceSub, Int.reduceToNat, encEdgeT, encInts, encNode, encStrs]
  refine callG (w_scarfjointref04_Valid a0 r1235 hr1235) (by simp -implicitDefEqProofs only [go_sem, reduceEqDiff, reduceLT, reduceLeDiff, reduceMul, reduceAdd, reduceIte, reduceCtorEq, Nat.reduceBEq, reduceSub, Int.reduceToNat, encEdgeT, encInts, encNode, encStrs] <;> rfl) (pleL_refl _) (by first | exact pers | exact scal rfl) ?_
  try simp -implicitDefEqProofs only [go_sem, reduceEqDiff, reduceLT, reduceLeDiff, reduceMul, reduceAdd, reduceIte, reduceCtorEq, Nat.reduceBEq, reduceSub, Int.reduceToNat, encEdgeT, encInts, encNode, encStrs]
  refine condC_splitN (fun b1236 => ?_) (fun b1236 => ?_)
  · replace h := cond_t h b1236
    obtain ⟨r1238, hr1238, h⟩ := thn_s h
    try simp -implicitDefEqProofs only [go_sem, reduceEqDiff, reduceLT, reduceLeDiff, reduceMul, reduceAdd, reduceIte, reduceCtorEq, Nat.reduceBEq, reduceSub, Int.reduceToNat, encEdgeT, encInts, encNode, encStrs, b1236]
    refine callG (w_scarfjointref04_in a1 0 (IntKind.i64.wrap (((a0.nodes.length : Nat) : Int) - 1)) r1238 hr1238) (by simp -implicitDefEqProofs only [go_sem, reduceEqDiff, reduceLT, reduceLeDiff, reduceMul, reduceAdd, reduceIte, reduceCtorEq, Nat.reduceBEq, reduceSub, Int.reduceToNat, encEdgeT, encInts, encNode, encStrs, b1236] <;> rfl) (pleL_refl _) (by first | exact pers | exact scal rfl) ?_
    try simp -implicitDefEqProofs only [go_sem, reduceEqDiff, reduceLT, reduceLeDiff, reduceMul, reduceAdd, reduceIte, reduceCtorEq, Nat.reduceBEq, reduceSub, Int.reduceToNat, encEdgeT, encInts, encNode, encStrs, b1236]
    refine walkG_split (fun b1239 => ?_) (fun b1239 => ?_)
    · replace h := cond_t h b1239
      obtain ⟨r1240, hr1240, h⟩ := thn_s h
      try simp -implicitDefEqProofs only [go_sem, reduceEqDiff, reduceLT, reduceLeDiff, reduceMul, reduceAdd, reduceIte, reduceCtorEq, Nat.reduceBEq, reduceSub, Int.reduceToNat, encEdgeT, encInts, encNode, encStrs, b1236, b1239]
      refine callG (w_scarfjointref04_in a2 0 (IntKind.i64.wrap (((a0.nodes.length : Nat) : Int) - 1)) r1240 hr1240) (by simp -implicitDefEqProofs only [go_sem, reduceEqDiff, reduceLT, reduceLeDiff, reduceMul, reduceAdd, reduceIte, reduceCtorEq, Nat.reduceBEq, reduceSub, Int.reduceToNat, encEdgeT, encInts, encNode, encStrs, b1236, b1239] <;> rfl) (pleL_refl _) (by first | exact pers | exact scal rfl) ?_
      try simp -implicitDefEqProofs only [go_sem, reduceEqDiff, reduceLT, reduceLeDiff, reduceMul, reduceAdd, reduceIte, reduceCtorEq, Nat.reduceBEq, reduceSub, Int.reduceToNat, encEdgeT, encInts, encNode, encStrs, b1236, b1239]
      refine condC_splitN (fun b1241 => ?_) (fun b1241 => ?_)
      · replace h := cond_t h b1241
        cases h
        try simp -implicitDefEqProofs only [go_sem, reduceEqDiff, reduceLT, reduceLeDiff, reduceMul, reduceAdd, reduceIte, reduceCtorEq, Nat.reduceBEq, reduceSub, Int.reduceToNat, encEdgeT, encInts, encNode, encStrs, b1236, b1239, b1241]
        all_goals ((repeat' apply And.intro) <;> rfl)
      · replace h := cond_f h b1241
        cases h
        try simp -implicitDefEqProofs only [go_sem, reduceEqDiff, reduceLT, reduceLeDiff, reduceMul, reduceAdd, reduceIte, reduceCtorEq, Nat.reduceBEq, reduceSub, Int.reduceToNat, encEdgeT, encInts, encNode, encStrs, b1236, b1239, b1241]
        all_goals ((repeat' apply And.intro) <;> rfl)
    · replace h := cond_f h b1239
      cases h
      try simp -implicitDefEqProofs only [go_sem, reduceEqDiff, reduceLT, reduceLeDiff, reduceMul, reduceAdd, reduceIte, reduceCtorEq, Nat.reduceBEq, reduceSub, Int.reduceToNat, encEdgeT, encInts, encNode, encStrs, b1236, b1239]
      all_goals ((repeat' apply And.intro) <;> rfl)
  · replace h := cond_f h b1236
    cases h
    try simp -implicitDefEqProofs only [go_sem, reduceEqDiff, reduceLT, reduceLeDiff, reduceMul, reduceAdd, reduceIte, reduceCtorEq, Nat.reduceBEq, reduceSub, Int.reduceToNat, encEdgeT, encInts, encNode, encStrs, b1236]
    all_goals ((repeat' apply And.intro) <;> rfl)


def f_scarfjointref04_attrs : Nat → Types → Int →  Option (List Attr)
  | 0, _, _ => none
  | n + 1, a0, a1 =>
    cond (decide (a1 < 0)) (
      some ([] : List Attr)) <|
    thn (atZ a0.nodes a1) fun e1256 =>
    thn (f_scarfjointref04_attrs n a0 e1256.parent) fun r1257 =>
    chk (r1257.length ≤ 68719476736) <|
    chk (r1257.length + e1256.attrs.length ≤ 68719476736) <|
    some (r1257 ++ e1256.attrs)
set_option maxHeartbeats 4000000 in
theorem w_scarfjointref04_attrs (n : Nat) : ∀ (a0 : Types) (a1 : Int) (r : (List Attr)) (h : f_scarfjointref04_attrs n a0 a1 = some r), CallF Go.Proofs.Tryz.prog 81 [.agg [.lst (a0.nodes.map encNode), .lst (a0.edges.map encEdgeT)], .val (.int .i64 a1)] (fun v => v = .row 107 4 (r.map encAttr)) := by
  induction n with
  | zero => intro a0 a1 r h; cases h
  | succ n ih =>
  intro a0 a1 r h
  refine CallF.rle ?_
  refine callF_of_cw [7, 16] Ty.mixed Go.Proofs.Tryz.func81 rfl (by kernel_rfl) (by simp [Go.Proofs.Tryz.ntmps81]) ?_; rw [Go.Proofs.Tryz.ntmps81, Go.Proofs.Tryz.results81]
  unfold f_scarfjointref04_attrs at h
  try simp -implicitDefEqProofs only [go_sem, reduceEqDiff, reduceLT, reduceLeDiff, reduceMul, reduceAdd, reduceIte, reduceCtorEq, Nat.reduceBEq, reduceSub, Int.reduceToNat, encAttr, encEdgeT, encInts, encNode, encStrs]
  refine condC_split (fun b1255 => ?_) (fun b1255 => ?_)
  · replace h := cond_t h b1255
    cases h
    try simp -implicitDefEqProofs only [go_sem, reduceEqDiff, reduceLT, reduceLeDiff, reduceMul, reduceAdd, reduceIte, reduceCtorEq, Nat.reduceBEq, reduceSub, Int.reduceToNat, encAttr, encEdgeT, encInts, encNode, encStrs, b1255]
    refine ⟨by decide, _, .refl _, ?_⟩
    simp -implicitDefEqProofs only [go_sem, reduceEqDiff, reduceLT, reduceLeDiff, reduceMul, reduceAdd, reduceIte, reduceCtorEq, Nat.reduceBEq, reduceSub, Int.reduceToNat, encAttr, encEdgeT, encInts, encNode, encStrs, b1255] <;> ((repeat' apply And.intro) <;> rfl)
  · replace h := cond_f h b1255
    try simp -implicitDefEqProofs only [go_sem, reduceEqDiff, reduceLT, reduceLeDiff, reduceMul, reduceAdd, reduceIte, reduceCtorEq, Nat.reduceBEq, reduceSub, Int.reduceToNat, encAttr, encEdgeT, encInts, encNode, encStrs, b1255]
    refine draw_my [(1, .q), (2, .q), (3, .q), (4, .q), (5, .q), (6, .q), (7, .q), (8, .q), (10, .b), (11, .b), (12, .b), (13, .b), (14, .b), (15, .b), (0, .w), (9, .s), (16, .w), (17, .q)] (by kernel_rfl) ?_
    obtain ⟨e1256, c1256a, c1256b, g1256, q1256, h⟩ := atZ_s encNode h
    have c1256n := toNat_lt c1256a c1256b
    obtain ⟨r1257, hr1257, h⟩ := thn_s h
    try simp -implicitDefEqProofs only [go_sem, reduceEqDiff, reduceLT, reduceLeDiff, reduceMul, reduceAdd, reduceIte, reduceCtorEq, Nat.reduceBEq, reduceSub, Int.reduceToNat, encAttr, encEdgeT, encInts, encNode, encStrs, b1255, c1256a, c1256b, c1256n, g1256]
    refine calldG (show CallV _ _ _ (fun v => v = .lst (r1257.map encAttr)) from (ih a0 e1256.parent r1257 hr1257).toV1) (by simp -implicitDefEqProofs only [go_sem, reduceEqDiff, reduceLT, reduceLeDiff, reduceMul, reduceAdd, reduceIte, reduceCtorEq, Nat.reduceBEq, reduceSub, Int.reduceToNat, encAttr, encEdgeT, encInts, encNode, encStrs, b1255, c1256a, c1256b, c1256n, g1256] <;> rfl) (pleL_refl _) (by first | exact pers | exact scal rfl) ?_
    obtain ⟨c1258, h⟩ := chk_s h
    have k1259 := eq_true (show (r1257.length) * 56 ≤ 140737488355328 by omega)
    have k1260 := eq_true (map_len (n := 4) (f := encAttr) (fun _ => rfl) r1257)
    obtain ⟨c1261, h⟩ := chk_s h
    have k1262 := eq_true (show (r1257.length + e1256.attrs.length) * 56 ≤ 140737488355328 by omega)
    have k1263 := eq_true (map_len (n := 4) (f := encAttr) (fun _ => rfl) e1256.attrs)
    cases h
    try simp -implicitDefEqProofs only [go_sem, reduceEqDiff, reduceLT, reduceLeDiff, reduceMul, reduceAdd, reduceIte, reduceCtorEq, Nat.reduceBEq, reduceSub, Int.reduceToNat, encAttr, encEdgeT, encInts, encNode, encStrs, b1255, c1256a, c1256b, c1256n, g1256, c1258, k1259, k1260, c1261, k1262, k1263]
    refine ⟨by decide, _, .refl _, ?_⟩
    simp -implicitDefEqProofs only [go_sem, reduceEqDiff, reduceLT, reduceLeDiff, reduceMul, reduceAdd, reduceIte, reduceCtorEq, Nat.reduceBEq, reduceSub, Int.reduceToNat, encAttr, encEdgeT, encInts, encNode, encStrs, b1255, c1256a, c1256b, c1256n, g1256, c1258, k1259, k1260, c1261, k1262, k1263] <;> ((repeat' apply And.intro) <;> rfl)


def f_scarfjointref04_Attrs (a0 : Types) (a1 : Int) : Option ((List Attr) × Int) :=
  thn (f_scarfjointref04_given a0 a1 a1) fun r1278 =>
  cond (decide (r1278 = 0)) (
    thn (f_scarfjointref04_attrs fuel a0 a1) fun r1280 =>
    chk (r1280.length ≤ fuel) <|
    forN (fun i1290 (s1290 : (List Attr)) nxts1290 brks1290 =>
      thn (r1280[i1290]?) fun e1298 =>
      chk (e1298.names.length ≤ 68719476736) <|
      chk (s1290.length + 1 ≤ 68719476736) <|
      nxts1290 (s1290 ++ [e1298]))
    (r1280.length - 0) 0 ([] : List Attr) fun s1290 =>
    some (s1290, 0)) <|
  some (([] : List Attr), r1278)
set_option maxHeartbeats 4000000 in
theorem w_scarfjointref04_Attrs (a0 : Types) (a1 : Int) (r : (List Attr) × Int) (h : f_scarfjointref04_Attrs a0 a1 = some r) : CallF Go.Proofs.Tryz.prog 58 [.agg [.lst (a0.nodes.map encNode), .lst (a0.edges.map encEdgeT)], .val (.int .i64 a1)] (fun v => v = .tup [.row 107 4 (r.1.map encAttr), .p (.val (.int .i64 r.2))]) := by
  refine CallF.rle ?_
  refine callF_of_cw [39] Ty.mixed Go.Proofs.Tryz.func58 rfl (by kernel_rfl) (by simp [Go.Proofs.Tryz.ntmps58]) ?_; rw [Go.Proofs.Tryz.ntmps58, Go.Proofs.Tryz.results58]
  unfold f_scarfjointref04_Attrs at h
  obtain ⟨r1278, hr1278, h⟩ := thn_s h
  try simp -implicitDefEqProofs only [go_sem, reduceEqDiff, reduceLT, reduceLeDiff, reduceMul, reduceAdd, reduceIte, reduceCtorEq, Nat.reduceBEq, reduceSub, Int.reduceToNat, encAttr, encEdgeT, encInts, encNode, encS, encStrs]
  refine callG (w_scarfjointref04_given a0 a1 a1 r1278 hr1278) (by simp -implicitDefEqProofs only [go_sem, reduceEqDiff, reduceLT, reduceLeDiff, reduceMul, reduceAdd, reduceIte, reduceCtorEq, Nat.reduceBEq, reduceSub, Int.reduceToNat, encAttr, encEdgeT, encInts, encNode, encS, encStrs] <;> rfl) (pleL_refl _) (by first | exact pers | exact scal rfl) ?_
  try simp -implicitDefEqProofs only [go_sem, reduceEqDiff, reduceLT, reduceLeDiff, reduceMul, reduceAdd, reduceIte, reduceCtorEq, Nat.reduceBEq, reduceSub, Int.reduceToNat, encAttr, encEdgeT, encInts, encNode, encS, encStrs]
  refine condC_splitN (fun b1279 => ?_) (fun b1279 => ?_)
  · replace h := cond_t h b1279
    obtain ⟨r1280, hr1280, h⟩ := thn_s h
    try simp -implicitDefEqProofs only [go_sem, reduceEqDiff, reduceLT, reduceLeDiff, reduceMul, reduceAdd, reduceIte, reduceCtorEq, Nat.reduceBEq, reduceSub, Int.reduceToNat, encAttr, encEdgeT, encInts, encNode, encS, encStrs, b1279]
    refine callfG 1320 (w_scarfjointref04_attrs fuel a0 a1 r1280 hr1280) (by simp -implicitDefEqProofs only [go_sem, reduceEqDiff, reduceLT, reduceLeDiff, reduceMul, reduceAdd, reduceIte, reduceCtorEq, Nat.reduceBEq, reduceSub, Int.reduceToNat, encAttr, encEdgeT, encInts, encNode, encS, encStrs, b1279] <;> rfl) (pleL_refl _) (by first | exact persF | exact flatF rfl | exact flatF (by simp [RV.flat, RV.flatL, PV.scalar, isVal, encAttr])) (by simp -implicitDefEqProofs only [go_sem, reduceEqDiff, reduceLT, reduceLeDiff, reduceMul, reduceAdd, reduceIte, reduceCtorEq, Nat.reduceBEq, reduceSub, Int.reduceToNat, encAttr, encEdgeT, encInts, encNode, encS, encStrs, b1279]) ?_
    obtain ⟨fus1290, h⟩ := chk_s h
    unfold fuel at fus1290
    try simp -implicitDefEqProofs only [go_sem, reduceEqDiff, reduceLT, reduceLeDiff, reduceMul, reduceAdd, reduceIte, reduceCtorEq, Nat.reduceBEq, reduceSub, Int.reduceToNat, encAttr, encEdgeT, encInts, encNode, encS, encStrs, b1279]
    refine forN_go (fun x : (Nat × ((List Attr))) × (Nat) => envL [(7, .row 3288 x.2), (8, .row 1320 0), (9, .p (.val (.int .i64 ((x.1.1 : Nat) : Int))))]) (fun x => heapL [(3288, .row x.2 107 4 (x.1.2.map encAttr)), (1320, .row 0 107 4 (r1280.map encAttr))]) 0 h (by refine Weak.trans (weak_nil 7 3288 107 4 rfl rfl (by decide)) ?_; exact (weakL (by simp -implicitDefEqProofs only [go_sem, reduceEqDiff, reduceLT, reduceLeDiff, reduceMul, reduceAdd, reduceIte, reduceCtorEq, Nat.reduceBEq, reduceSub, Int.reduceToNat, encAttr, encEdgeT, encInts, encNode, encS, encStrs, b1279] <;> ((repeat' apply And.intro) <;> rfl)))) ?_ ?_
    · intro i1290 s1290 g1290 nxts1290 Rs1290 his1290 hNs1290 h
      have hws1290 := wrap_succ (k := i1290) his1290 (by omega)
      try dsimp only at h
      obtain ⟨e1298, c1298, g1298, q1298, h⟩ := idx_s encAttr h
      obtain ⟨c1299, h⟩ := chk_s h
      have k1300 := eq_true (show (e1298.names.length) * 16 ≤ 140737488355328 by omega)
      have k1301 := eq_true (map_len (n := 1) (f := encS) (fun _ => rfl) e1298.names)
      obtain ⟨c1302, h⟩ := chk_s h
      have k1303 := eq_true (show (s1290.length + 1) * 56 ≤ 140737488355328 by omega)
      have a1304 := map_apps encAttr s1290 [e1298] (c := [[.val (.string e1298.name), .val (.int .i64 e1298.low), .val (.int .i64 e1298.high), .lst (e1298.names.map encS)]]) rfl
      try simp -implicitDefEqProofs only [go_sem, reduceEqDiff, reduceLT, reduceLeDiff, reduceMul, reduceAdd, reduceIte, reduceCtorEq, Nat.reduceBEq, reduceSub, Int.reduceToNat, encAttr, encEdgeT, encInts, encNode, encS, encStrs, b1279, his1290, hws1290, c1298, g1298, c1299, k1300, k1301, c1302, k1303, a1304]
      exact hNs1290 (s1290 ++ [e1298]) (g1290 + 1) h (weakL (by simp -implicitDefEqProofs only [go_sem, reduceEqDiff, reduceLT, reduceLeDiff, reduceMul, reduceAdd, reduceIte, reduceCtorEq, Nat.reduceBEq, reduceSub, Int.reduceToNat, encAttr, encEdgeT, encInts, encNode, encS, encStrs, b1279, his1290, hws1290, c1298, g1298, c1299, k1300, k1301, c1302, k1303, a1304] <;> ((repeat' apply And.intro) <;> rfl)))
    · intro i1290 s1290 g1290 Rs1290 hes1290 h
      have hns1290 : ¬ (i1290 < r1280.length) := by omega
      try dsimp only at h
      cases h
      try simp -implicitDefEqProofs only [go_sem, reduceEqDiff, reduceLT, reduceLeDiff, reduceMul, reduceAdd, reduceIte, reduceCtorEq, Nat.reduceBEq, reduceSub, Int.reduceToNat, encAttr, encEdgeT, encInts, encNode, encS, encStrs, b1279, hns1290]
      refine ⟨by decide, _, .refl _, ?_⟩
      simp -implicitDefEqProofs only [go_sem, reduceEqDiff, reduceLT, reduceLeDiff, reduceMul, reduceAdd, reduceIte, reduceCtorEq, Nat.reduceBEq, reduceSub, Int.reduceToNat, encAttr, encEdgeT, encInts, encNode, encS, encStrs, b1279, hns1290] <;> ((repeat' apply And.intro) <;> rfl)
  · replace h := cond_f h b1279
    cases h
    try simp -implicitDefEqProofs only [go_sem, reduceEqDiff, reduceLT, reduceLeDiff, reduceMul, reduceAdd, reduceIte, reduceCtorEq, Nat.reduceBEq, reduceSub, Int.reduceToNat, encAttr, encEdgeT, encInts, encNode, encS, encStrs, b1279]
    refine ⟨by decide, _, .refl _, ?_⟩
    simp -implicitDefEqProofs only [go_sem, reduceEqDiff, reduceLT, reduceLeDiff, reduceMul, reduceAdd, reduceIte, reduceCtorEq, Nat.reduceBEq, reduceSub, Int.reduceToNat, encAttr, encEdgeT, encInts, encNode, encS, encStrs, b1279] <;> ((repeat' apply And.intro) <;> rfl)


def f_scarfjointref04_Below1 : Nat → Types → Int → Int →  Option Bool
  | 0, _, _, _ => none
  | n + 1, a0, a1, a2 =>
    cond (decide (a1 = a2)) (
      some true) <|
    cond (decide (0 ≤ a1)) (
      thn (atZ a0.nodes a1) fun e1837 =>
      thn (f_scarfjointref04_Below1 n a0 e1837.parent a2) fun r1838 =>
      some r1838) <|
    some false
set_option maxHeartbeats 4000000 in
theorem w_scarfjointref04_Below1 (n : Nat) : ∀ (a0 : Types) (a1 : Int) (a2 : Int) (r : Bool) (h : f_scarfjointref04_Below1 n a0 a1 a2 = some r), CallV Go.Proofs.Tryz.prog 83 [.agg [.lst (a0.nodes.map encNode), .lst (a0.edges.map encEdgeT)], .val (.int .i64 a1), .val (.int .i64 a2)] (fun v => v = .val (.bool r)) := by
  induction n with
  | zero => intro a0 a1 a2 r h; cases h
  | succ n ih =>
  intro a0 a1 a2 r h
  refine CallV.ple ?_
  refine callV_of_cw [] Ty.mixed Go.Proofs.Tryz.func83 rfl (by kernel_rfl) (by simp [Go.Proofs.Tryz.ntmps83]) ?_; rw [Go.Proofs.Tryz.ntmps83, Go.Proofs.Tryz.results83]
  unfold f_scarfjointref04_Below1 at h
  try simp -implicitDefEqProofs only [go_sem, reduceEqDiff, reduceLT, reduceLeDiff, reduceMul, reduceAdd, reduceIte, reduceCtorEq, Nat.reduceBEq, reduceSub, Int.reduceToNat, encEdgeT, encInts, encNode, encStrs]
  refine draw_txt [.q, .q, .q, .q, .q, .q, .q, .q, .q, .q, .q, .q, .q, .q, .q, .q, .q, .q, .q] (by kernel_rfl) ?_
  try simp -implicitDefEqProofs only [go_sem, reduceEqDiff, reduceLT, reduceLeDiff, reduceMul, reduceAdd, reduceIte, reduceCtorEq, Nat.reduceBEq, reduceSub, Int.reduceToNat, encEdgeT, encInts, encNode, encStrs]
  refine walkDG_splitN (fun b1835 => ?_) (fun b1835 => ?_)
  · replace h := cond_t h b1835
    cases h
    try simp -implicitDefEqProofs only [go_sem, reduceEqDiff, reduceLT, reduceLeDiff, reduceMul, reduceAdd, reduceIte, reduceCtorEq, Nat.reduceBEq, reduceSub, Int.reduceToNat, encEdgeT, encInts, encNode, encStrs, b1835]
    all_goals ((repeat' apply And.intro) <;> rfl)
  · replace h := cond_f h b1835
    try simp -implicitDefEqProofs only [go_sem, reduceEqDiff, reduceLT, reduceLeDiff, reduceMul, reduceAdd, reduceIte, reduceCtorEq, Nat.reduceBEq, reduceSub, Int.reduceToNat, encEdgeT, encInts, encNode, encStrs, b1835]
    refine walkDG_split (fun b1836 => ?_) (fun b1836 => ?_)
    · replace h := cond_t h b1836
      obtain ⟨e1837, c1837a, c1837b, g1837, q1837, h⟩ := atZ_s encNode h
      have c1837n := toNat_lt c1837a c1837b
      obtain ⟨r1838, hr1838, h⟩ := thn_s h
      try simp -implicitDefEqProofs only [go_sem, reduceEqDiff, reduceLT, reduceLeDiff, reduceMul, reduceAdd, reduceIte, reduceCtorEq, Nat.reduceBEq, reduceSub, Int.reduceToNat, encEdgeT, encInts, encNode, encStrs, b1835, b1836, c1837a, c1837b, c1837n, g1837]
      refine calldG (ih a0 e1837.parent a2 r1838 hr1838) (by simp -implicitDefEqProofs only [go_sem, reduceEqDiff, reduceLT, reduceLeDiff, reduceMul, reduceAdd, reduceIte, reduceCtorEq, Nat.reduceBEq, reduceSub, Int.reduceToNat, encEdgeT, encInts, encNode, encStrs, b1835, b1836, c1837a, c1837b, c1837n, g1837] <;> rfl) (pleL_refl _) (by first | exact pers | exact scal rfl) ?_
      cases h
      try simp -implicitDefEqProofs only [go_sem, reduceEqDiff, reduceLT, reduceLeDiff, reduceMul, reduceAdd, reduceIte, reduceCtorEq, Nat.reduceBEq, reduceSub, Int.reduceToNat, encEdgeT, encInts, encNode, encStrs, b1835, b1836, c1837a, c1837b, c1837n, g1837]
      all_goals ((repeat' apply And.intro) <;> rfl)
    · replace h := cond_f h b1836
      cases h
      try simp -implicitDefEqProofs only [go_sem, reduceEqDiff, reduceLT, reduceLeDiff, reduceMul, reduceAdd, reduceIte, reduceCtorEq, Nat.reduceBEq, reduceSub, Int.reduceToNat, encEdgeT, encInts, encNode, encStrs, b1835, b1836]
      all_goals ((repeat' apply And.intro) <;> rfl)


def f_scarfjointref04_Fits (a0 : Types) (a1 : Int) (a2 : Int) (a3 : Int) : Option Bool :=
  thn (f_scarfjointref04_given a0 a2 a3) fun r1827 =>
  cond (decide (r1827 = 0)) (
    thn (f_scarfjointref04_in a1 0 (IntKind.i64.wrap (((a0.edges.length : Nat) : Int) - 1))) fun r1829 =>
    cond r1829 (
      thn (atZ a0.edges a1) fun e1831 =>
      thn (f_scarfjointref04_Below1 fuel a0 a2 e1831.src) fun r1839 =>
      cond r1839 (
        thn (f_scarfjointref04_Below1 fuel a0 a3 e1831.dst) fun r1841 =>
        some r1841) <|
      some false) <|
    some false) <|
  some false
set_option maxHeartbeats 4000000 in
theorem w_scarfjointref04_Fits (a0 : Types) (a1 : Int) (a2 : Int) (a3 : Int) (r : Bool) (h : f_scarfjointref04_Fits a0 a1 a2 a3 = some r) : CallV Go.Proofs.Tryz.prog 59 [.agg [.lst (a0.nodes.map encNode), .lst (a0.edges.map encEdgeT)], .val (.int .i64 a1), .val (.int .i64 a2), .val (.int .i64 a3)] (fun v => v = .val (.bool r)) := by
  refine CallV.ple ?_
  refine callV_of_cw [] Ty.mixed Go.Proofs.Tryz.func59 rfl (by kernel_rfl) (by simp [Go.Proofs.Tryz.ntmps59]) ?_; rw [Go.Proofs.Tryz.ntmps59, Go.Proofs.Tryz.results59]
  unfold f_scarfjointref04_Fits at h
  obtain ⟨r1827, hr1827, h⟩ := thn_s h
  try simp -implicitDefEqProofs only [go_sem, reduceEqDiff, reduceLT, reduceLeDiff, reduceMul, reduceAdd, reduceIte, reduceCtorEq, Nat.reduceBEq, reduceSub, Int.reduceToNat, encEdgeT, encInts, encNode, encStrs]
  refine callG (w_scarfjointref04_given a0 a2 a3 r1827 hr1827) (by simp -implicitDefEqProofs only [go_sem, reduceEqDiff, reduceLT, reduceLeDiff, reduceMul, reduceAdd, reduceIte, reduceCtorEq, Nat.reduceBEq, reduceSub, Int.reduceToNat, encEdgeT, encInts, encNode, encStrs] <;> rfl) (pleL_refl _) (by first | exact pers | exact scal rfl) ?_
  try simp -implicitDefEqProofs only [go_sem, reduceEqDiff, reduceLT, reduceLeDiff, reduceMul, reduceAdd, reduceIte, reduceCtorEq, Nat.reduceBEq, reduceSub, Int.reduceToNat, encEdgeT, encInts, encNode, encStrs]
  refine walkG_split (fun b1828 => ?_) (fun b1828 => ?_)
  · replace h := cond_t h b1828
    obtain ⟨r1829, hr1829, h⟩ := thn_s h
    try simp -implicitDefEqProofs only [go_sem, reduceEqDiff, reduceLT, reduceLeDiff, reduceMul, reduceAdd, reduceIte, reduceCtorEq, Nat.reduceBEq, reduceSub, Int.reduceToNat, encEdgeT, encInts, encNode, encStrs, b1828]
    refine callG (w_scarfjointref04_in a1 0 (IntKind.i64.wrap (((a0.edges.length : Nat) : Int) - 1)) r1829 hr1829) (by simp -implicitDefEqProofs only [go_sem, reduceEqDiff, reduceLT, reduceLeDiff, reduceMul, reduceAdd, reduceIte, reduceCtorEq, Nat.reduceBEq, reduceSub, Int.reduceToNat, encEdgeT, encInts, encNode, encStrs, b1828] <;> rfl) (pleL_refl _) (by first | exact pers | exact scal rfl) ?_
    try simp -implicitDefEqProofs only [go_sem, reduceEqDiff, reduceLT, reduceLeDiff, reduceMul, reduceAdd, reduceIte, reduceCtorEq, Nat.reduceBEq, reduceSub, Int.reduceToNat, encEdgeT, encInts, encNode, encStrs, b1828]
    refine condC_splitN (fun b1830 => ?_) (fun b1830 => ?_)
    · replace h := cond_t h b1830
      try simp -implicitDefEqProofs only [go_sem, reduceEqDiff, reduceLT, reduceLeDiff, reduceMul, reduceAdd, reduceIte, reduceCtorEq, Nat.reduceBEq, reduceSub, Int.reduceToNat, encEdgeT, encInts, encNode, encStrs, b1828, b1830]
      refine draw_txt [.q, .q, .q, .q, .q, .q, .q, .q, .q, .q, .q, .q, .q, .q, .q, .q, .q, .q, .q, .q, .q] (by kernel_rfl) ?_
      obtain ⟨e1831, c1831a, c1831b, g1831, q1831, h⟩ := atZ_s encEdgeT h
      have c1831n := toNat_lt c1831a c1831b
      obtain ⟨r1839, hr1839, h⟩ := thn_s h
      try simp -implicitDefEqProofs only [go_sem, reduceEqDiff, reduceLT, reduceLeDiff, reduceMul, reduceAdd, reduceIte, reduceCtorEq, Nat.reduceBEq, reduceSub, Int.reduceToNat, encEdgeT, encInts, encNode, encStrs, b1828, b1830, c1831a, c1831b, c1831n, g1831]
      refine calldG (w_scarfjointref04_Below1 fuel a0 a2 e1831.src r1839 hr1839) (by simp -implicitDefEqProofs only [go_sem, reduceEqDiff, reduceLT, reduceLeDiff, reduceMul, reduceAdd, reduceIte, reduceCtorEq, Nat.reduceBEq, reduceSub, Int.reduceToNat, encEdgeT, encInts, encNode, encStrs, b1828, b1830, c1831a, c1831b, c1831n, g1831] <;> rfl) (pleL_refl _) (by first | exact pers | exact scal rfl) ?_
      try simp -implicitDefEqProofs only [go_sem, reduceEqDiff, reduceLT, reduceLeDiff, reduceMul, reduceAdd, reduceIte, reduceCtorEq, Nat.reduceBEq, reduceSub, Int.reduceToNat, encEdgeT, encInts, encNode, encStrs, b1828, b1830, c1831a, c1831b, c1831n, g1831]
      refine walkDG_split (fun b1840 => ?_) (fun b1840 => ?_)
      · replace h := cond_t h b1840
        obtain ⟨r1841, hr1841, h⟩ := thn_s h
        try simp -implicitDefEqProofs only [go_sem, reduceEqDiff, reduceLT, reduceLeDiff, reduceMul, reduceAdd, reduceIte, reduceCtorEq, Nat.reduceBEq, reduceSub, Int.reduceToNat, encEdgeT, encInts, encNode, encStrs, b1828, b1830, c1831a, c1831b, c1831n, g1831, b1840]
        refine calldG (w_scarfjointref04_Below1 fuel a0 a3 e1831.dst r1841 hr1841) (by simp -implicitDefEqProofs only [go_sem, reduceEqDiff, reduceLT, reduceLeDiff, reduceMul, reduceAdd, reduceIte, reduceCtorEq, Nat.reduceBEq, reduceSub, Int.reduceToNat, encEdgeT, encInts, encNode, encStrs, b1828, b1830, c1831a, c1831b, c1831n, g1831, b1840] <;> rfl) (pleL_refl _) (by first | exact pers | exact scal rfl) ?_
        cases h
        try simp -implicitDefEqProofs only [go_sem, reduceEqDiff, reduceLT, reduceLeDiff, reduceMul, reduceAdd, reduceIte, reduceCtorEq, Nat.reduceBEq, reduceSub, Int.reduceToNat, encEdgeT, encInts, encNode, encStrs, b1828, b1830, c1831a, c1831b, c1831n, g1831, b1840]
        all_goals ((repeat' apply And.intro) <;> rfl)
      · replace h := cond_f h b1840
        cases h
        try simp -implicitDefEqProofs only [go_sem, reduceEqDiff, reduceLT, reduceLeDiff, reduceMul, reduceAdd, reduceIte, reduceCtorEq, Nat.reduceBEq, reduceSub, Int.reduceToNat, encEdgeT, encInts, encNode, encStrs, b1828, b1830, c1831a, c1831b, c1831n, g1831, b1840]
        all_goals ((repeat' apply And.intro) <;> rfl)
    · replace h := cond_f h b1830
      cases h
      try simp -implicitDefEqProofs only [go_sem, reduceEqDiff, reduceLT, reduceLeDiff, reduceMul, reduceAdd, reduceIte, reduceCtorEq, Nat.reduceBEq, reduceSub, Int.reduceToNat, encEdgeT, encInts, encNode, encStrs, b1828, b1830]
      all_goals ((repeat' apply And.intro) <;> rfl)
  · replace h := cond_f h b1828
    cases h
    try simp -implicitDefEqProofs only [go_sem, reduceEqDiff, reduceLT, reduceLeDiff, reduceMul, reduceAdd, reduceIte, reduceCtorEq, Nat.reduceBEq, reduceSub, Int.reduceToNat, encEdgeT, encInts, encNode, encStrs, b1828]
    all_goals ((repeat' apply And.intro) <;> rfl)


def f_scarfjointref15_Made (a0 : Types) (a1 : T_scarfjointref15_Draft) : Option Host :=
  thn (f_scarfjointref15_concrete a0) fun r1868 =>
  iter (fun (s1938 : Int × (List Int) × (List (List Int))) nxts1938 brks1938 =>
    cond (decide (s1938.1 < ((a1.nodes.length : Nat) : Int))) (
      cond (decide (s1938.1 < 8)) (
        cond (decide (0 < ((r1868.length : Nat) : Int))) (
          thn (atZ a1.nodes s1938.1) fun e2014 =>
          chk (¬ (((r1868.length : Nat) : Int) = 0)) <|
          thn (atZ r1868 ((IntKind.i64.wrap e2014.x0).tmod ((r1868.length : Nat) : Int))) fun e2018 =>
          thn (f_scarfjointref04_Attrs a0 e2018) fun r2019 =>
          chk (r2019.1.length ≤ fuel) <|
          forN (fun i2034 (s2034 : (List Int)) nxts2034 brks2034 =>
            thn (r2019.1[i2034]?) fun e2056 =>
            chk (¬ ((IntKind.i64.wrap ((IntKind.i64.wrap (e2056.high - e2056.low)) + 1)) = 0)) <|
            chk (s2034.length + 1 ≤ 68719476736) <|
            nxts2034 (s2034 ++ [(IntKind.i64.wrap (e2056.low + ((IntKind.i64.wrap ((IntKind.i64.wrap e2014.x1) + (IntKind.i64.wrap (7 * ((i2034 : Nat) : Int))))).tmod (IntKind.i64.wrap ((IntKind.i64.wrap (e2056.high - e2056.low)) + 1)))))]))
          (r2019.1.length - 0) 0 ([] : List Int) fun s2034 =>
          chk (s1938.2.1.length + 1 ≤ 68719476736) <|
          chk (s1938.2.2.length + 1 ≤ 68719476736) <|
          nxts1938 ((IntKind.i64.wrap (s1938.1 + 1)), (s1938.2.1 ++ [e2018]), (s1938.2.2 ++ [s2034]))) <|
        brks1938 (s1938.1, s1938.2.1, s1938.2.2)) <|
      brks1938 (s1938.1, s1938.2.1, s1938.2.2)) <|
    brks1938 (s1938.1, s1938.2.1, s1938.2.2))
  fuel (0, ([] : List Int), ([] : List (List Int))) fun s1938 =>
  iter (fun (s2319 : Int × (List Edge)) nxts2319 brks2319 =>
    cond (decide (s2319.1 < ((a1.edges.length : Nat) : Int))) (
      cond (decide (s2319.1 < 10)) (
        cond (decide (0 < ((s1938.2.1.length : Nat) : Int))) (
          cond (decide (0 < ((a0.edges.length : Nat) : Int))) (
            thn (atZ a1.edges s2319.1) fun e2348 =>
            chk (¬ (((a0.edges.length : Nat) : Int) = 0)) <|
            chk (¬ (((s1938.2.1.length : Nat) : Int) = 0)) <|
            chk (¬ (((s1938.2.1.length : Nat) : Int) = 0)) <|
            thn (atZ s1938.2.1 ((IntKind.i64.wrap e2348.x1).tmod ((s1938.2.1.length : Nat) : Int))) fun e2358 =>
            thn (atZ s1938.2.1 ((IntKind.i64.wrap e2348.x2).tmod ((s1938.2.1.length : Nat) : Int))) fun e2359 =>
            thn (f_scarfjointref04_Fits a0 ((IntKind.i64.wrap e2348.x0).tmod ((a0.edges.length : Nat) : Int)) e2358 e2359) fun r2360 =>
            cond r2360 (
              chk (s2319.2.length + 1 ≤ 68719476736) <|
              nxts2319 ((IntKind.i64.wrap (s2319.1 + 1)), (s2319.2 ++ [(⟨((IntKind.i64.wrap e2348.x0).tmod ((a0.edges.length : Nat) : Int)), ((IntKind.i64.wrap e2348.x1).tmod ((s1938.2.1.length : Nat) : Int)), ((IntKind.i64.wrap e2348.x2).tmod ((s1938.2.1.length : Nat) : Int))⟩ : Edge)]))) <|
            nxts2319 ((IntKind.i64.wrap (s2319.1 + 1)), s2319.2)) <|
          brks2319 (s2319.1, s2319.2)) <|
        brks2319 (s2319.1, s2319.2)) <|
      brks2319 (s2319.1, s2319.2)) <|
    brks2319 (s2319.1, s2319.2))
  fuel (0, ([] : List Edge)) fun s2319 =>
  some (⟨(⟨s1938.2.1, s2319.2⟩ : Graph), s1938.2.2⟩ : Host)
set_option maxHeartbeats 4000000 in
theorem w_scarfjointref15_Made (a0 : Types) (a1 : T_scarfjointref15_Draft) (r : Host) (h : f_scarfjointref15_Made a0 a1 = some r) : CallF Go.Proofs.Tryz.prog 26 [.agg [.lst (a0.nodes.map encNode), .lst (a0.edges.map encEdgeT)], .agg [.lst (a1.nodes.map enc_T_A2_Int), .lst (a1.edges.map enc_T_A3_Int)]] (fun v => v = .agg [.row 3 1 (r.graph.nodes.map encI), .row 73 3 (r.graph.edges.map encEdge), .row 26 1 (r.values.map encRow)]) := by
  refine CallF.rle ?_
  refine callF_of_cw [53, 91, 97, 102, 184] Ty.mixed Go.Proofs.Tryz.func26 rfl (by kernel_rfl) (by simp [Go.Proofs.Tryz.ntmps26]) ?_; rw [Go.Proofs.Tryz.ntmps26, Go.Proofs.Tryz.results26]
  unfold f_scarfjointref15_Made at h
  obtain ⟨r1868, hr1868, h⟩ := thn_s h
  try simp -implicitDefEqProofs only [go_sem, reduceEqDiff, reduceLT, reduceLeDiff, reduceMul, reduceAdd, reduceIte, reduceCtorEq, Nat.reduceBEq, reduceSub, Int.reduceToNat, encAttr, encEdge, encEdgeT, encI, encInts, encNode, encRow, encStrs, enc_T_A2_Int, enc_T_A3_Int]
  refine callfG 1272 (w_scarfjointref15_concrete a0 r1868 hr1868) (by simp -implicitDefEqProofs only [go_sem, reduceEqDiff, reduceLT, reduceLeDiff, reduceMul, reduceAdd, reduceIte, reduceCtorEq, Nat.reduceBEq, reduceSub, Int.reduceToNat, encAttr, encEdge, encEdgeT, encI, encInts, encNode, encRow, encStrs, enc_T_A2_Int, enc_T_A3_Int] <;> rfl) (pleL_refl _) (by first | exact persF | exact flatF rfl | exact flatF (by simp [RV.flat, RV.flatL, PV.scalar, isVal, encI])) (by simp -implicitDefEqProofs only [go_sem, reduceEqDiff, reduceLT, reduceLeDiff, reduceMul, reduceAdd, reduceIte, reduceCtorEq, Nat.reduceBEq, reduceSub, Int.reduceToNat, encAttr, encEdge, encEdgeT, encI, encInts, encNode, encRow, encStrs, enc_T_A2_Int, enc_T_A3_Int]) ?_
  try simp -implicitDefEqProofs only [go_sem, reduceEqDiff, reduceLT, reduceLeDiff, reduceMul, reduceAdd, reduceIte, reduceCtorEq, Nat.reduceBEq, reduceSub, Int.reduceToNat, encAttr, encEdge, encEdgeT, encI, encInts, encNode, encRow, encStrs, enc_T_A2_Int, enc_T_A3_Int]
  refine iter_go (fun x : (Int × (List Int) × (List (List Int))) × (Nat × Nat) => envL [(2, .ptr 2 0), (3, .ptr 3 0), (4, .ptr 4 0), (5, .ptr 5 0), (6, .row 1272 0), (7, .p (.val (.int .i64 x.1.1)))]) (fun x => heapL [(2, .box [.p (.lst (a0.nodes.map encNode)), .p (.lst (a0.edges.map encEdgeT))]), (3, .box [.p (.lst (a1.nodes.map enc_T_A2_Int)), .p (.lst (a1.edges.map enc_T_A3_Int))]), (4, .box [.p (.val (.slice none 0 0)), .p (.val (.slice none 0 0)), .p (.val (.slice none 0 0))]), (5, .box [.row 3935 x.2.1, .p (.val (.slice none 0 0)), .row 3936 x.2.2]), (1272, .row 0 3 1 (r1868.map encI)), (3935, .row x.2.1 3 1 (x.1.2.1.map encI)), (3936, .row x.2.2 26 1 (x.1.2.2.map encRow))]) (0, 0) h (by refine Weak.trans (weak_nilbox 5 0 3935 3 1 _ rfl rfl rfl (by decide)) ?_; refine Weak.trans (weak_nilbox 5 2 3936 26 1 _ rfl rfl rfl (by decide)) ?_; exact (weakL (by simp -implicitDefEqProofs only [go_sem, reduceEqDiff, reduceLT, reduceLeDiff, reduceMul, reduceAdd, reduceIte, reduceCtorEq, Nat.reduceBEq, reduceSub, Int.reduceToNat, encAttr, encEdge, encEdgeT, encI, encInts, encNode, encRow, encStrs, enc_T_A2_Int, enc_T_A3_Int] <;> ((repeat' apply And.intro) <;> rfl)))) ?_
  intro s1938 g1938 nxts1938 Rs1938 hNs1938 h
  try dsimp only at h
  try simp -implicitDefEqProofs only [go_sem, reduceEqDiff, reduceLT, reduceLeDiff, reduceMul, reduceAdd, reduceIte, reduceCtorEq, Nat.reduceBEq, reduceSub, Int.reduceToNat, encAttr, encEdge, encEdgeT, encI, encInts, encNode, encRow, encStrs, enc_T_A2_Int, enc_T_A3_Int]
  refine walkG_split (fun b2011 => ?_) (fun b2011 => ?_)
  · replace h := cond_t h b2011
    try simp -implicitDefEqProofs only [go_sem, reduceEqDiff, reduceLT, reduceLeDiff, reduceMul, reduceAdd, reduceIte, reduceCtorEq, Nat.reduceBEq, reduceSub, Int.reduceToNat, encAttr, encEdge, encEdgeT, encI, encInts, encNode, encRow, encStrs, enc_T_A2_Int, enc_T_A3_Int, b2011]
    refine walkG_split (fun b2012 => ?_) (fun b2012 => ?_)
    · replace h := cond_t h b2012
      try simp -implicitDefEqProofs only [go_sem, reduceEqDiff, reduceLT, reduceLeDiff, reduceMul, reduceAdd, reduceIte, reduceCtorEq, Nat.reduceBEq, reduceSub, Int.reduceToNat, encAttr, encEdge, encEdgeT, encI, encInts, encNode, encRow, encStrs, enc_T_A2_Int, enc_T_A3_Int, b2011, b2012]
      refine condC_split (fun b2013 => ?_) (fun b2013 => ?_)
      · replace h := cond_t h b2013
        obtain ⟨e2014, c2014a, c2014b, g2014, q2014, h⟩ := atZ_s enc_T_A2_Int h
        have c2014n := toNat_lt c2014a c2014b
        have z2015 := show (0 : Int) ≤ 0 by decide
        have z2016 := show (0 : Int) < ((2 : Nat) : Int) by decide
        obtain ⟨c2017, h⟩ := chk_s h
        obtain ⟨e2018, c2018a, c2018b, g2018, q2018, h⟩ := atZ_s encI h
        have c2018n := toNat_lt c2018a c2018b
        obtain ⟨r2019, hr2019, h⟩ := thn_s h
        try simp -implicitDefEqProofs only [go_sem, reduceEqDiff, reduceLT, reduceLeDiff, reduceMul, reduceAdd, reduceIte, reduceCtorEq, Nat.reduceBEq, reduceSub, Int.reduceToNat, encAttr, encEdge, encEdgeT, encI, encInts, encNode, encRow, encStrs, enc_T_A2_Int, enc_T_A3_Int, b2011, b2012, b2013, c2014a, c2014b, c2014n, g2014, z2015, z2016, c2017, c2018a, c2018b, c2018n, g2018]
        refine callfG 1800 (w_scarfjointref04_Attrs a0 e2018 r2019 hr2019) (by simp -implicitDefEqProofs only [go_sem, reduceEqDiff, reduceLT, reduceLeDiff, reduceMul, reduceAdd, reduceIte, reduceCtorEq, Nat.reduceBEq, reduceSub, Int.reduceToNat, encAttr, encEdge, encEdgeT, encI, encInts, encNode, encRow, encStrs, enc_T_A2_Int, enc_T_A3_Int, b2011, b2012, b2013, c2014a, c2014b, c2014n, g2014, z2015, z2016, c2017, c2018a, c2018b, c2018n, g2018] <;> rfl) (pleL_refl _) (by first | exact persF | exact flatF rfl | exact flatF (by simp [RV.flat, RV.flatL, PV.scalar, isVal, encAttr])) (by simp -implicitDefEqProofs only [go_sem, reduceEqDiff, reduceLT, reduceLeDiff, reduceMul, reduceAdd, reduceIte, reduceCtorEq, Nat.reduceBEq, reduceSub, Int.reduceToNat, encAttr, encEdge, encEdgeT, encI, encInts, encNode, encRow, encStrs, enc_T_A2_Int, enc_T_A3_Int, b2011, b2012, b2013, c2014a, c2014b, c2014n, g2014, z2015, z2016, c2017, c2018a, c2018b, c2018n, g2018]) ?_
        obtain ⟨fus2034, h⟩ := chk_s h
        unfold fuel at fus2034
        try simp -implicitDefEqProofs only [go_sem, reduceEqDiff, reduceLT, reduceLeDiff, reduceMul, reduceAdd, reduceIte, reduceCtorEq, Nat.reduceBEq, reduceSub, Int.reduceToNat, encAttr, encEdge, encEdgeT, encI, encInts, encNode, encRow, encStrs, enc_T_A2_Int, enc_T_A3_Int, b2011, b2012, b2013, c2014a, c2014b, c2014n, g2014, z2015, z2016, c2017, c2018a, c2018b, c2018n, g2018]
        refine forN_go (fun x : (Nat × ((List Int))) × (Nat) => envL [(2, .ptr 2 0), (3, .ptr 3 0), (4, .ptr 4 0), (5, .ptr 5 0), (6, .row 1272 0), (7, .p (.val (.int .i64 s1938.1))), (8, .p (.val (.int .i64 e2018))), (9, .row 1800 0), (11, .row 53 x.2), (12, .p (.val (.int .i64 ((x.1.1 : Nat) : Int))))]) (fun x => heapL [(2, .box [.p (.lst (a0.nodes.map encNode)), .p (.lst (a0.edges.map encEdgeT))]), (3, .box [.p (.lst (a1.nodes.map enc_T_A2_Int)), .p (.lst (a1.edges.map enc_T_A3_Int))]), (4, .box [.p (.val (.slice none 0 0)), .p (.val (.slice none 0 0)), .p (.val (.slice none 0 0))]), (5, .box [.row 3935 g1938.1, .p (.val (.slice none 0 0)), .row 3936 g1938.2]), (1272, .row 0 3 1 (r1868.map encI)), (1800, .row 0 107 4 (r2019.1.map encAttr)), (53, .row x.2 3 1 (x.1.2.map encI)), (3935, .row g1938.1 3 1 (s1938.2.1.map encI)), (3936, .row g1938.2 26 1 (s1938.2.2.map encRow))]) 0 h (weakL (by simp -implicitDefEqProofs only [go_sem, reduceEqDiff, reduceLT, reduceLeDiff, reduceMul, reduceAdd, reduceIte, reduceCtorEq, Nat.reduceBEq, reduceSub, Int.reduceToNat, encAttr, encEdge, encEdgeT, encI, encInts, encNode, encRow, encStrs, enc_T_A2_Int, enc_T_A3_Int, b2011, b2012, b2013, c2014a, c2014b, c2014n, g2014, z2015, z2016, c2017, c2018a, c2018b, c2018n, g2018] <;> ((repeat' apply And.intro) <;> rfl))) ?_ ?_
        · intro i2034 s2034 g2034 nxts2034 Rs2034 his2034 hNs2034 h
          have hws2034 := wrap_succ (k := i2034) his2034 (by omega)
          try dsimp only at h
          try simp -implicitDefEqProofs only [go_sem, reduceEqDiff, reduceLT, reduceLeDiff, reduceMul, reduceAdd, reduceIte, reduceCtorEq, Nat.reduceBEq, reduceSub, Int.reduceToNat, encAttr, encEdge, encEdgeT, encI, encInts, encNode, encRow, encStrs, enc_T_A2_Int, enc_T_A3_Int, b2011, b2012, b2013, c2014a, c2014b, c2014n, g2014, z2015, z2016, c2017, c2018a, c2018b, c2018n, g2018, his2034, hws2034]
          refine draw_txt [.p, .q, .q, .q, .q, .q, .q, .q, .q, .q, .q, .q, .q, .q, .q, .q, .q, .q, .q, .q, .q, .q, .q, .q, .q, .q, .q, .q, .q, .q, .p, .w, .q] (by kernel_rfl) ?_
          obtain ⟨e2056, c2056, g2056, q2056, h⟩ := idx_s encAttr h
          have z2057 := show (0 : Int) ≤ 1 by decide
          have z2058 := show (1 : Int) < ((2 : Nat) : Int) by decide
          obtain ⟨c2059, h⟩ := chk_s h
          obtain ⟨c2060, h⟩ := chk_s h
          have k2061 := eq_true (show (s2034.length + 1) * 8 ≤ 140737488355328 by omega)
          have a2062 := map_apps encI s2034 [(IntKind.i64.wrap (e2056.low + ((IntKind.i64.wrap ((IntKind.i64.wrap e2014.x1) + (IntKind.i64.wrap (7 * ((i2034 : Nat) : Int))))).tmod (IntKind.i64.wrap ((IntKind.i64.wrap (e2056.high - e2056.low)) + 1)))))] (c := [[.val (.int .i64 (IntKind.i64.wrap (e2056.low + ((IntKind.i64.wrap ((IntKind.i64.wrap e2014.x1) + (IntKind.i64.wrap (7 * ((i2034 : Nat) : Int))))).tmod (IntKind.i64.wrap ((IntKind.i64.wrap (e2056.high - e2056.low)) + 1))))))]]) rfl
          try simp -implicitDefEqProofs only [go_sem, reduceEqDiff, reduceLT, reduceLeDiff, reduceMul, reduceAdd, reduceIte, reduceCtorEq, Nat.reduceBEq, reduceSub, Int.reduceToNat, encAttr, encEdge, encEdgeT, encI, encInts, encNode, encRow, encStrs, enc_T_A2_Int, enc_T_A3_Int, b2011, b2012, b2013, c2014a, c2014b, c2014n, g2014, z2015, z2016, c2017, c2018a, c2018b, c2018n, g2018, his2034, hws2034, c2056, g2056, z2057, z2058, c2059, c2060, k2061, a2062]
          exact hNs2034 (s2034 ++ [(IntKind.i64.wrap (e2056.low + ((IntKind.i64.wrap ((IntKind.i64.wrap e2014.x1) + (IntKind.i64.wrap (7 * ((i2034 : Nat) : Int))))).tmod (IntKind.i64.wrap ((IntKind.i64.wrap (e2056.high - e2056.low)) + 1)))))]) (g2034 + 1) h (weakL (by simp -implicitDefEqProofs only [go_sem, reduceEqDiff, reduceLT, reduceLeDiff, reduceMul, reduceAdd, reduceIte, reduceCtorEq, Nat.reduceBEq, reduceSub, Int.reduceToNat, encAttr, encEdge, encEdgeT, encI, encInts, encNode, encRow, encStrs, enc_T_A2_Int, enc_T_A3_Int, b2011, b2012, b2013, c2014a, c2014b, c2014n, g2014, z2015, z2016, c2017, c2018a, c2018b, c2018n, g2018, his2034, hws2034, c2056, g2056, z2057, z2058, c2059, c2060, k2061, a2062] <;> ((repeat' apply And.intro) <;> rfl)))
        · intro i2034 s2034 g2034 Rs2034 hes2034 h
          have hns2034 : ¬ (i2034 < r2019.1.length) := by omega
          try dsimp only at h
          try simp -implicitDefEqProofs only [go_sem, reduceEqDiff, reduceLT, reduceLeDiff, reduceMul, reduceAdd, reduceIte, reduceCtorEq, Nat.reduceBEq, reduceSub, Int.reduceToNat, encAttr, encEdge, encEdgeT, encI, encInts, encNode, encRow, encStrs, enc_T_A2_Int, enc_T_A3_Int, b2011, b2012, b2013, c2014a, c2014b, c2014n, g2014, z2015, z2016, c2017, c2018a, c2018b, c2018n, g2018, hns2034]
          refine draw_seal 53 g2034 3 1 (s2034.map encI) [11] (by simp -implicitDefEqProofs only [go_sem, reduceEqDiff, reduceLT, reduceLeDiff, reduceMul, reduceAdd, reduceIte, reduceCtorEq, Nat.reduceBEq, reduceSub, Int.reduceToNat, encAttr, encEdge, encEdgeT, encI, encInts, encNode, encRow, encStrs, enc_T_A2_Int, enc_T_A3_Int, b2011, b2012, b2013, c2014a, c2014b, c2014n, g2014, z2015, z2016, c2017, c2018a, c2018b, c2018n, g2018, hns2034] <;> rfl) (by simp -implicitDefEqProofs only [go_sem, reduceEqDiff, reduceLT, reduceLeDiff, reduceMul, reduceAdd, reduceIte, reduceCtorEq, Nat.reduceBEq, reduceSub, Int.reduceToNat, encAttr, encEdge, encEdgeT, encI, encInts, encNode, encRow, encStrs, enc_T_A2_Int, enc_T_A3_Int, b2011, b2012, b2013, c2014a, c2014b, c2014n, g2014, z2015, z2016, c2017, c2018a, c2018b, c2018n, g2018, hns2034] <;> ((repeat' apply And.intro) <;> rfl)) (by decide) ?_
          refine draw_my [(0, .p), (1, .p), (3, .p), (4, .p), (6, .p), (8, .b), (9, .p), (2, .q), (7, .b), (5, .w), (11, .b), (12, .b), (10, .w), (13, .w), (14, .q), (15, .w)] (by kernel_rfl) ?_
          obtain ⟨c2075, h⟩ := chk_s h
          have k2076 := eq_true (show (s1938.2.1.length + 1) * 8 ≤ 140737488355328 by omega)
          have a2077 := map_apps encI s1938.2.1 [e2018] (c := [[.val (.int .i64 e2018)]]) rfl
          obtain ⟨c2078, h⟩ := chk_s h
          have k2079 := eq_true (show (s1938.2.2.length + 1) * 24 ≤ 140737488355328 by omega)
          have a2080 := map_apps encRow s1938.2.2 [s2034] (c := [[.lst (s2034.map encI)]]) rfl
          try simp -implicitDefEqProofs only [go_sem, reduceEqDiff, reduceLT, reduceLeDiff, reduceMul, reduceAdd, reduceIte, reduceCtorEq, Nat.reduceBEq, reduceSub, Int.reduceToNat, encAttr, encEdge, encEdgeT, encI, encInts, encNode, encRow, encStrs, enc_T_A2_Int, enc_T_A3_Int, b2011, b2012, b2013, c2014a, c2014b, c2014n, g2014, z2015, z2016, c2017, c2018a, c2018b, c2018n, g2018, hns2034, c2075, k2076, a2077, c2078, k2079, a2080]
          exact hNs1938 ((IntKind.i64.wrap (s1938.1 + 1)), (s1938.2.1 ++ [e2018]), (s1938.2.2 ++ [s2034])) (g1938.1 + 1, g1938.2 + 1) h (weakL (by simp -implicitDefEqProofs only [go_sem, reduceEqDiff, reduceLT, reduceLeDiff, reduceMul, reduceAdd, reduceIte, reduceCtorEq, Nat.reduceBEq, reduceSub, Int.reduceToNat, encAttr, encEdge, encEdgeT, encI, encInts, encNode, encRow, encStrs, enc_T_A2_Int, enc_T_A3_Int, b2011, b2012, b2013, c2014a, c2014b, c2014n, g2014, z2015, z2016, c2017, c2018a, c2018b, c2018n, g2018, hns2034, c2075, k2076, a2077, c2078, k2079, a2080] <;> ((repeat' apply And.intro) <;> rfl)))
      · replace h := cond_f h b2013
        try dsimp only at h
        try simp -implicitDefEqProofs only [go_sem, reduceEqDiff, reduceLT, reduceLeDiff, reduceMul, reduceAdd, reduceIte, reduceCtorEq, Nat.reduceBEq, reduceSub, Int.reduceToNat, encAttr, encEdge, encEdgeT, encI, encInts, encNode, encRow, encStrs, enc_T_A2_Int, enc_T_A3_Int, b2011, b2012, b2013]
        refine iter_go (fun x : (Int × (List Edge)) × (Nat) => envL [(2, .ptr 2 0), (3, .ptr 3 0), (4, .ptr 4 0), (5, .ptr 5 0), (13, .p (.val (.int .i64 ((s1938.2.1.length : Nat) : Int)))), (14, .p (.val (.int .i64 x.1.1)))]) (fun x => heapL [(2, .box [.p (.lst (a0.nodes.map encNode)), .p (.lst (a0.edges.map encEdgeT))]), (3, .box [.p (.lst (a1.nodes.map enc_T_A2_Int)), .p (.lst (a1.edges.map enc_T_A3_Int))]), (4, .box [.p (.val (.slice none 0 0)), .p (.val (.slice none 0 0)), .p (.val (.slice none 0 0))]), (5, .box [.row 3935 g1938.1, .row 4104 x.2, .row 3936 g1938.2]), (3935, .row g1938.1 3 1 (s1938.2.1.map encI)), (4104, .row x.2 73 3 (x.1.2.map encEdge)), (3936, .row g1938.2 26 1 (s1938.2.2.map encRow))]) 0 h (by refine Weak.trans (weak_nilbox 5 1 4104 73 3 _ rfl rfl rfl (by decide)) ?_; exact (weakL (by simp -implicitDefEqProofs only [go_sem, reduceEqDiff, reduceLT, reduceLeDiff, reduceMul, reduceAdd, reduceIte, reduceCtorEq, Nat.reduceBEq, reduceSub, Int.reduceToNat, encAttr, encEdge, encEdgeT, encI, encInts, encNode, encRow, encStrs, enc_T_A2_Int, enc_T_A3_Int, b2011, b2012, b2013] <;> ((repeat' apply And.intro) <;> rfl)))) ?_
        intro s2106 g2106 nxts2106 Rs2106 hNs2106 h
        try dsimp only at h
        try simp -implicitDefEqProofs only [go_sem, reduceEqDiff, reduceLT, reduceLeDiff, reduceMul, reduceAdd, reduceIte, reduceCtorEq, Nat.reduceBEq, reduceSub, Int.reduceToNat, encAttr, encEdge, encEdgeT, encI, encInts, encNode, encRow, encStrs, enc_T_A2_Int, enc_T_A3_Int, b2011, b2012, b2013]
        refine walkG_split (fun b2131 => ?_) (fun b2131 => ?_)
        · replace h := cond_t h b2131
          try simp -implicitDefEqProofs only [go_sem, reduceEqDiff, reduceLT, reduceLeDiff, reduceMul, reduceAdd, reduceIte, reduceCtorEq, Nat.reduceBEq, reduceSub, Int.reduceToNat, encAttr, encEdge, encEdgeT, encI, encInts, encNode, encRow, encStrs, enc_T_A2_Int, enc_T_A3_Int, b2011, b2012, b2013, b2131]
          refine walkG_split (fun b2132 => ?_) (fun b2132 => ?_)
          · replace h := cond_t h b2132
            try simp -implicitDefEqProofs only [go_sem, reduceEqDiff, reduceLT, reduceLeDiff, reduceMul, reduceAdd, reduceIte, reduceCtorEq, Nat.reduceBEq, reduceSub, Int.reduceToNat, encAttr, encEdge, encEdgeT, encI, encInts, encNode, encRow, encStrs, enc_T_A2_Int, enc_T_A3_Int, b2011, b2012, b2013, b2131, b2132]
            refine walkG_split (fun b2133 => ?_) (fun b2133 => ?_)
            · replace h := cond_t h b2133
              try simp -implicitDefEqProofs only [go_sem, reduceEqDiff, reduceLT, reduceLeDiff, reduceMul, reduceAdd, reduceIte, reduceCtorEq, Nat.reduceBEq, reduceSub, Int.reduceToNat, encAttr, encEdge, encEdgeT, encI, encInts, encNode, encRow, encStrs, enc_T_A2_Int, enc_T_A3_Int, b2011, b2012, b2013, b2131, b2132, b2133]
              refine condC_split (fun b2134 => ?_) (fun b2134 => ?_)
              · replace h := cond_t h b2134
                try simp -implicitDefEqProofs only [go_sem, reduceEqDiff, reduceLT, reduceLeDiff, reduceMul, reduceAdd, reduceIte, reduceCtorEq, Nat.reduceBEq, reduceSub, Int.reduceToNat, encAttr, encEdge, encEdgeT, encI, encInts, encNode, encRow, encStrs, enc_T_A2_Int, enc_T_A3_Int, b2011, b2012, b2013, b2131, b2132, b2133, b2134]
                refine draw_txt [.q, .q, .q, .q, .q, .q, .q, .q, .q, .q, .q, .q, .q, .q, .q, .q, .q, .q, .q, .q, .q, .q, .q, .q, .q, .q, .q, .q, .q, .q, .w, .s] (by kernel_rfl) ?_
                obtain ⟨e2135, c2135a, c2135b, g2135, q2135, h⟩ := atZ_s enc_T_A3_Int h
                have c2135n := toNat_lt c2135a c2135b
                have z2136 := show (0 : Int) ≤ 0 by decide
                have z2137 := show (0 : Int) < ((3 : Nat) : Int) by decide
                obtain ⟨c2138, h⟩ := chk_s h
                have z2139 := show (0 : Int) ≤ 1 by decide
                have z2140 := show (1 : Int) < ((3 : Nat) : Int) by decide
                obtain ⟨c2141, h⟩ := chk_s h
                have z2142 := show (0 : Int) ≤ 2 by decide
                have z2143 := show (2 : Int) < ((3 : Nat) : Int) by decide
                obtain ⟨c2144, h⟩ := chk_s h
                try simp -implicitDefEqProofs only [go_sem, reduceEqDiff, reduceLT, reduceLeDiff, reduceMul, reduceAdd, reduceIte, reduceCtorEq, Nat.reduceBEq, reduceSub, Int.reduceToNat, encAttr, encEdge, encEdgeT, encI, encInts, encNode, encRow, encStrs, enc_T_A2_Int, enc_T_A3_Int, b2011, b2012, b2013, b2131, b2132, b2133, b2134, c2135a, c2135b, c2135n, g2135, z2136, z2137, c2138, z2139, z2140, c2141, z2142, z2143, c2144]
                refine draw_txt [.q, .q, .q, .q, .q, .q, .q, .q, .q, .q, .q, .q, .q, .q, .q, .q, .q, .q] (by kernel_rfl) ?_
                obtain ⟨e2145, c2145a, c2145b, g2145, q2145, h⟩ := atZ_s encI h
                have c2145n := toNat_lt c2145a c2145b
                obtain ⟨e2146, c2146a, c2146b, g2146, q2146, h⟩ := atZ_s encI h
                have c2146n := toNat_lt c2146a c2146b
                obtain ⟨r2147, hr2147, h⟩ := thn_s h
                try simp -implicitDefEqProofs only [go_sem, reduceEqDiff, reduceLT, reduceLeDiff, reduceMul, reduceAdd, reduceIte, reduceCtorEq, Nat.reduceBEq, reduceSub, Int.reduceToNat, encAttr, encEdge, encEdgeT, encI, encInts, encNode, encRow, encStrs, enc_T_A2_Int, enc_T_A3_Int, b2011, b2012, b2013, b2131, b2132, b2133, b2134, c2135a, c2135b, c2135n, g2135, z2136, z2137, c2138, z2139, z2140, c2141, z2142, z2143, c2144, c2145a, c2145b, c2145n, g2145, c2146a, c2146b, c2146n, g2146]
                refine calldG (w_scarfjointref04_Fits a0 ((IntKind.i64.wrap e2135.x0).tmod ((a0.edges.length : Nat) : Int)) e2145 e2146 r2147 hr2147) (by simp -implicitDefEqProofs only [go_sem, reduceEqDiff, reduceLT, reduceLeDiff, reduceMul, reduceAdd, reduceIte, reduceCtorEq, Nat.reduceBEq, reduceSub, Int.reduceToNat, encAttr, encEdge, encEdgeT, encI, encInts, encNode, encRow, encStrs, enc_T_A2_Int, enc_T_A3_Int, b2011, b2012, b2013, b2131, b2132, b2133, b2134, c2135a, c2135b, c2135n, g2135, z2136, z2137, c2138, z2139, z2140, c2141, z2142, z2143, c2144, c2145a, c2145b, c2145n, g2145, c2146a, c2146b, c2146n, g2146] <;> rfl) (pleL_refl _) (by first | exact pers | exact scal rfl) ?_
                try simp -implicitDefEqProofs only [go_sem, reduceEqDiff, reduceLT, reduceLeDiff, reduceMul, reduceAdd, reduceIte, reduceCtorEq, Nat.reduceBEq, reduceSub, Int.reduceToNat, encAttr, encEdge, encEdgeT, encI, encInts, encNode, encRow, encStrs, enc_T_A2_Int, enc_T_A3_Int, b2011, b2012, b2013, b2131, b2132, b2133, b2134, c2135a, c2135b, c2135n, g2135, z2136, z2137, c2138, z2139, z2140, c2141, z2142, z2143, c2144, c2145a, c2145b, c2145n, g2145, c2146a, c2146b, c2146n, g2146]
                refine condC_split (fun b2148 => ?_) (fun b2148 => ?_)
                · replace h := cond_t h b2148
                  obtain ⟨c2149, h⟩ := chk_s h
                  have k2150 := eq_true (show (s2106.2.length + 1) * 24 ≤ 140737488355328 by omega)
                  have a2151 := map_apps encEdge s2106.2 [(⟨((IntKind.i64.wrap e2135.x0).tmod ((a0.edges.length : Nat) : Int)), ((IntKind.i64.wrap e2135.x1).tmod ((s1938.2.1.length : Nat) : Int)), ((IntKind.i64.wrap e2135.x2).tmod ((s1938.2.1.length : Nat) : Int))⟩ : Edge)] (c := [[.val (.int .i64 ((IntKind.i64.wrap e2135.x0).tmod ((a0.edges.length : Nat) : Int))), .val (.int .i64 ((IntKind.i64.wrap e2135.x1).tmod ((s1938.2.1.length : Nat) : Int))), .val (.int .i64 ((IntKind.i64.wrap e2135.x2).tmod ((s1938.2.1.length : Nat) : Int)))]]) rfl
                  try simp -implicitDefEqProofs only [go_sem, reduceEqDiff, reduceLT, reduceLeDiff, reduceMul, reduceAdd, reduceIte, reduceCtorEq, Nat.reduceBEq, reduceSub, Int.reduceToNat, encAttr, encEdge, encEdgeT, encI, encInts, encNode, encRow, encStrs, enc_T_A2_Int, enc_T_A3_Int, b2011, b2012, b2013, b2131, b2132, b2133, b2134, c2135a, c2135b, c2135n, g2135, z2136, z2137, c2138, z2139, z2140, c2141, z2142, z2143, c2144, c2145a, c2145b, c2145n, g2145, c2146a, c2146b, c2146n, g2146, b2148, c2149, k2150, a2151]
                  exact hNs2106 ((IntKind.i64.wrap (s2106.1 + 1)), (s2106.2 ++ [(⟨((IntKind.i64.wrap e2135.x0).tmod ((a0.edges.length : Nat) : Int)), ((IntKind.i64.wrap e2135.x1).tmod ((s1938.2.1.length : Nat) : Int)), ((IntKind.i64.wrap e2135.x2).tmod ((s1938.2.1.length : Nat) : Int))⟩ : Edge)])) (g2106 + 1) h (weakL (by simp -implicitDefEqProofs only [go_sem, reduceEqDiff, reduceLT, reduceLeDiff, reduceMul, reduceAdd, reduceIte, reduceCtorEq, Nat.reduceBEq, reduceSub, Int.reduceToNat, encAttr, encEdge, encEdgeT, encI, encInts, encNode, encRow, encStrs, enc_T_A2_Int, enc_T_A3_Int, b2011, b2012, b2013, b2131, b2132, b2133, b2134, c2135a, c2135b, c2135n, g2135, z2136, z2137, c2138, z2139, z2140, c2141, z2142, z2143, c2144, c2145a, c2145b, c2145n, g2145, c2146a, c2146b, c2146n, g2146, b2148, c2149, k2150, a2151] <;> ((repeat' apply And.intro) <;> rfl)))
                · replace h := cond_f h b2148
                  try simp -implicitDefEqProofs only [go_sem, reduceEqDiff, reduceLT, reduceLeDiff, reduceMul, reduceAdd, reduceIte, reduceCtorEq, Nat.reduceBEq, reduceSub, Int.reduceToNat, encAttr, encEdge, encEdgeT, encI, encInts, encNode, encRow, encStrs, enc_T_A2_Int, enc_T_A3_Int, b2011, b2012, b2013, b2131, b2132, b2133, b2134, c2135a, c2135b, c2135n, g2135, z2136, z2137, c2138, z2139, z2140, c2141, z2142, z2143, c2144, c2145a, c2145b, c2145n, g2145, c2146a, c2146b, c2146n, g2146, b2148]
                  exact hNs2106 ((IntKind.i64.wrap (s2106.1 + 1)), s2106.2) g2106 h (weakL (by simp -implicitDefEqProofs only [go_sem, reduceEqDiff, reduceLT, reduceLeDiff, reduceMul, reduceAdd, reduceIte, reduceCtorEq, Nat.reduceBEq, reduceSub, Int.reduceToNat, encAttr, encEdge, encEdgeT, encI, encInts, encNode, encRow, encStrs, enc_T_A2_Int, enc_T_A3_Int, b2011, b2012, b2013, b2131, b2132, b2133, b2134, c2135a, c2135b, c2135n, g2135, z2136, z2137, c2138, z2139, z2140, c2141, z2142, z2143, c2144, c2145a, c2145b, c2145n, g2145, c2146a, c2146b, c2146n, g2146, b2148] <;> ((repeat' apply And.intro) <;> rfl)))
              · replace h := cond_f h b2134
                try dsimp only at h
                cases h
                try simp -implicitDefEqProofs only [go_sem, reduceEqDiff, reduceLT, reduceLeDiff, reduceMul, reduceAdd, reduceIte, reduceCtorEq, Nat.reduceBEq, reduceSub, Int.reduceToNat, encAttr, encEdge, encEdgeT, encI, encInts, encNode, encRow, encStrs, enc_T_A2_Int, enc_T_A3_Int, b2011, b2012, b2013, b2131, b2132, b2133, b2134]
                refine ⟨by decide, _, .refl _, ?_⟩
                simp -implicitDefEqProofs only [go_sem, reduceEqDiff, reduceLT, reduceLeDiff, reduceMul, reduceAdd, reduceIte, reduceCtorEq, Nat.reduceBEq, reduceSub, Int.reduceToNat, encAttr, encEdge, encEdgeT, encI, encInts, encNode, encRow, encStrs, enc_T_A2_Int, enc_T_A3_Int, b2011, b2012, b2013, b2131, b2132, b2133, b2134] <;> ((repeat' apply And.intro) <;> rfl)
            · replace h := cond_f h b2133
              try dsimp only at h
              cases h
              try simp -implicitDefEqProofs only [go_sem, reduceEqDiff, reduceLT, reduceLeDiff, reduceMul, reduceAdd, reduceIte, reduceCtorEq, Nat.reduceBEq, reduceSub, Int.reduceToNat, encAttr, encEdge, encEdgeT, encI, encInts, encNode, encRow, encStrs, enc_T_A2_Int, enc_T_A3_Int, b2011, b2012, b2013, b2131, b2132, b2133]
              refine ⟨by decide, _, .refl _, ?_⟩
              simp -implicitDefEqProofs only [go_sem, reduceEqDiff, reduceLT, reduceLeDiff, reduceMul, reduceAdd, reduceIte, reduceCtorEq, Nat.reduceBEq, reduceSub, Int.reduceToNat, encAttr, encEdge, encEdgeT, encI, encInts, encNode, encRow, encStrs, enc_T_A2_Int, enc_T_A3_Int, b2011, b2012, b2013, b2131, b2132, b2133] <;> ((repeat' apply And.intro) <;> rfl)
          · replace h := cond_f h b2132
            try dsimp only at h
            cases h
            try simp -implicitDefEqProofs only [go_sem, reduceEqDiff, reduceLT, reduceLeDiff, reduceMul, reduceAdd, reduceIte, reduceCtorEq, Nat.reduceBEq, reduceSub, Int.reduceToNat, encAttr, encEdge, encEdgeT, encI, encInts, encNode, encRow, encStrs, enc_T_A2_Int, enc_T_A3_Int, b2011, b2012, b2013, b2131, b2132]
            refine ⟨by decide, _, .refl _, ?_⟩
            simp -implicitDefEqProofs only [go_sem, reduceEqDiff, reduceLT, reduceLeDiff, reduceMul, reduceAdd, reduceIte, reduceCtorEq, Nat.reduceBEq, reduceSub, Int.reduceToNat, encAttr, encEdge, encEdgeT, encI, encInts, encNode, encRow, encStrs, enc_T_A2_Int, enc_T_A3_Int, b2011, b2012, b2013, b2131, b2132] <;> ((repeat' apply And.intro) <;> rfl)
        · replace h := cond_f h b2131
          try dsimp only at h
          cases h
          try simp -implicitDefEqProofs only [go_sem, reduceEqDiff, reduceLT, reduceLeDiff, reduceMul, reduceAdd, reduceIte, reduceCtorEq, Nat.reduceBEq, reduceSub, Int.reduceToNat, encAttr, encEdge, encEdgeT, encI, encInts, encNode, encRow, encStrs, enc_T_A2_Int, enc_T_A3_Int, b2011, b2012, b2013, b2131]
          refine ⟨by decide, _, .refl _, ?_⟩
          simp -implicitDefEqProofs only [go_sem, reduceEqDiff, reduceLT, reduceLeDiff, reduceMul, reduceAdd, reduceIte, reduceCtorEq, Nat.reduceBEq, reduceSub, Int.reduceToNat, encAttr, encEdge, encEdgeT, encI, encInts, encNode, encRow, encStrs, enc_T_A2_Int, enc_T_A3_Int, b2011, b2012, b2013, b2131] <;> ((repeat' apply And.intro) <;> rfl)
    · replace h := cond_f h b2012
      try dsimp only at h
      try simp -implicitDefEqProofs only [go_sem, reduceEqDiff, reduceLT, reduceLeDiff, reduceMul, reduceAdd, reduceIte, reduceCtorEq, Nat.reduceBEq, reduceSub, Int.reduceToNat, encAttr, encEdge, encEdgeT, encI, encInts, encNode, encRow, encStrs, enc_T_A2_Int, enc_T_A3_Int, b2011, b2012]
      refine iter_go (fun x : (Int × (List Edge)) × (Nat) => envL [(2, .ptr 2 0), (3, .ptr 3 0), (4, .ptr 4 0), (5, .ptr 5 0), (13, .p (.val (.int .i64 ((s1938.2.1.length : Nat) : Int)))), (14, .p (.val (.int .i64 x.1.1)))]) (fun x => heapL [(2, .box [.p (.lst (a0.nodes.map encNode)), .p (.lst (a0.edges.map encEdgeT))]), (3, .box [.p (.lst (a1.nodes.map enc_T_A2_Int)), .p (.lst (a1.edges.map enc_T_A3_Int))]), (4, .box [.p (.val (.slice none 0 0)), .p (.val (.slice none 0 0)), .p (.val (.slice none 0 0))]), (5, .box [.row 3935 g1938.1, .row 4175 x.2, .row 3936 g1938.2]), (3935, .row g1938.1 3 1 (s1938.2.1.map encI)), (4175, .row x.2 73 3 (x.1.2.map encEdge)), (3936, .row g1938.2 26 1 (s1938.2.2.map encRow))]) 0 h (by refine Weak.trans (weak_nilbox 5 1 4175 73 3 _ rfl rfl rfl (by decide)) ?_; exact (weakL (by simp -implicitDefEqProofs only [go_sem, reduceEqDiff, reduceLT, reduceLeDiff, reduceMul, reduceAdd, reduceIte, reduceCtorEq, Nat.reduceBEq, reduceSub, Int.reduceToNat, encAttr, encEdge, encEdgeT, encI, encInts, encNode, encRow, encStrs, enc_T_A2_Int, enc_T_A3_Int, b2011, b2012] <;> ((repeat' apply And.intro) <;> rfl)))) ?_
      intro s2177 g2177 nxts2177 Rs2177 hNs2177 h
      try dsimp only at h
      try simp -implicitDefEqProofs only [go_sem, reduceEqDiff, reduceLT, reduceLeDiff, reduceMul, reduceAdd, reduceIte, reduceCtorEq, Nat.reduceBEq, reduceSub, Int.reduceToNat, encAttr, encEdge, encEdgeT, encI, encInts, encNode, encRow, encStrs, enc_T_A2_Int, enc_T_A3_Int, b2011, b2012]
      refine walkG_split (fun b2202 => ?_) (fun b2202 => ?_)
      · replace h := cond_t h b2202
        try simp -implicitDefEqProofs only [go_sem, reduceEqDiff, reduceLT, reduceLeDiff, reduceMul, reduceAdd, reduceIte, reduceCtorEq, Nat.reduceBEq, reduceSub, Int.reduceToNat, encAttr, encEdge, encEdgeT, encI, encInts, encNode, encRow, encStrs, enc_T_A2_Int, enc_T_A3_Int, b2011, b2012, b2202]
        refine walkG_split (fun b2203 => ?_) (fun b2203 => ?_)
        · replace h := cond_t h b2203
          try simp -implicitDefEqProofs only [go_sem, reduceEqDiff, reduceLT, reduceLeDiff, reduceMul, reduceAdd, reduceIte, reduceCtorEq, Nat.reduceBEq, reduceSub, Int.reduceToNat, encAttr, encEdge, encEdgeT, encI, encInts, encNode, encRow, encStrs, enc_T_A2_Int, enc_T_A3_Int, b2011, b2012, b2202, b2203]
          refine walkG_split (fun b2204 => ?_) (fun b2204 => ?_)
          · replace h := cond_t h b2204
            try simp -implicitDefEqProofs only [go_sem, reduceEqDiff, reduceLT, reduceLeDiff, reduceMul, reduceAdd, reduceIte, reduceCtorEq, Nat.reduceBEq, reduceSub, Int.reduceToNat, encAttr, encEdge, encEdgeT, encI, encInts, encNode, encRow, encStrs, enc_T_A2_Int, enc_T_A3_Int, b2011, b2012, b2202, b2203, b2204]
            refine condC_split (fun b2205 => ?_) (fun b2205 => ?_)
            · replace h := cond_t h b2205
              try simp -implicitDefEqProofs only [go_sem, reduceEqDiff, reduceLT, reduceLeDiff, reduceMul, reduceAdd, reduceIte, reduceCtorEq, Nat.reduceBEq, reduceSub, Int.reduceToNat, encAttr, encEdge, encEdgeT, encI, encInts, encNode, encRow, encStrs, enc_T_A2_Int, enc_T_A3_Int, b2011, b2012, b2202, b2203, b2204, b2205]
              refine draw_txt [.q, .q, .q, .q, .q, .q, .q, .q, .q, .q, .q, .q, .q, .q, .q, .q, .q, .q, .q, .q, .q, .q, .q, .q, .q, .q, .q, .q, .q, .q, .w, .s] (by kernel_rfl) ?_
              obtain ⟨e2206, c2206a, c2206b, g2206, q2206, h⟩ := atZ_s enc_T_A3_Int h
              have c2206n := toNat_lt c2206a c2206b
              have z2207 := show (0 : Int) ≤ 0 by decide
              have z2208 := show (0 : Int) < ((3 : Nat) : Int) by decide
              obtain ⟨c2209, h⟩ := chk_s h
              have z2210 := show (0 : Int) ≤ 1 by decide
              have z2211 := show (1 : Int) < ((3 : Nat) : Int) by decide
              obtain ⟨c2212, h⟩ := chk_s h
              have z2213 := show (0 : Int) ≤ 2 by decide
              have z2214 := show (2 : Int) < ((3 : Nat) : Int) by decide
              obtain ⟨c2215, h⟩ := chk_s h
              try simp -implicitDefEqProofs only [go_sem, reduceEqDiff, reduceLT, reduceLeDiff, reduceMul, reduceAdd, reduceIte, reduceCtorEq, Nat.reduceBEq, reduceSub, Int.reduceToNat, encAttr, encEdge, encEdgeT, encI, encInts, encNode, encRow, encStrs, enc_T_A2_Int, enc_T_A3_Int, b2011, b2012, b2202, b2203, b2204, b2205, c2206a, c2206b, c2206n, g2206, z2207, z2208, c2209, z2210, z2211, c2212, z2213, z2214, c2215]
              refine draw_txt [.q, .q, .q, .q, .q, .q, .q, .q, .q, .q, .q, .q, .q, .q, .q, .q, .q, .q] (by kernel_rfl) ?_
              obtain ⟨e2216, c2216a, c2216b, g2216, q2216, h⟩ := atZ_s encI h
              have c2216n := toNat_lt c2216a c2216b
              obtain ⟨e2217, c2217a, c2217b, g2217, q2217, h⟩ := atZ_s encI h
              have c2217n := toNat_lt c2217a c2217b
              obtain ⟨r2218, hr2218, h⟩ := thn_s h
              try simp -implicitDefEqProofs only [go_sem, reduceEqDiff, reduceLT, reduceLeDiff, reduceMul, reduceAdd, reduceIte, reduceCtorEq, Nat.reduceBEq, reduceSub, Int.reduceToNat, encAttr, encEdge, encEdgeT, encI, encInts, encNode, encRow, encStrs, enc_T_A2_Int, enc_T_A3_Int, b2011, b2012, b2202, b2203, b2204, b2205, c2206a, c2206b, c2206n, g2206, z2207, z2208, c2209, z2210, z2211, c2212, z2213, z2214, c2215, c2216a, c2216b, c2216n, g2216, c2217a, c2217b, c2217n, g2217]
              refine calldG (w_scarfjointref04_Fits a0 ((IntKind.i64.wrap e2206.x0).tmod ((a0.edges.length : Nat) : Int)) e2216 e2217 r2218 hr2218) (by simp -implicitDefEqProofs only [go_sem, reduceEqDiff, reduceLT, reduceLeDiff, reduceMul, reduceAdd, reduceIte, reduceCtorEq, Nat.reduceBEq, reduceSub, Int.reduceToNat, encAttr, encEdge, encEdgeT, encI, encInts, encNode, encRow, encStrs, enc_T_A2_Int, enc_T_A3_Int, b2011, b2012, b2202, b2203, b2204, b2205, c2206a, c2206b, c2206n, g2206, z2207, z2208, c2209, z2210, z2211, c2212, z2213, z2214, c2215, c2216a, c2216b, c2216n, g2216, c2217a, c2217b, c2217n, g2217] <;> rfl) (pleL_refl _) (by first | exact pers | exact scal rfl) ?_
              try simp -implicitDefEqProofs only [go_sem, reduceEqDiff, reduceLT, reduceLeDiff, reduceMul, reduceAdd, reduceIte, reduceCtorEq, Nat.reduceBEq, reduceSub, Int.reduceToNat, encAttr, encEdge, encEdgeT, encI, encInts, encNode, encRow, encStrs, enc_T_A2_Int, enc_T_A3_Int, b2011, b2012, b2202, b2203, b2204, b2205, c2206a, c2206b, c2206n, g2206, z2207, z2208, c2209, z2210, z2211, c2212, z2213, z2214, c2215, c2216a, c2216b, c2216n, g2216, c2217a, c2217b, c2217n, g2217]
              refine condC_split (fun b2219 => ?_) (fun b2219 => ?_)
              · replace h := cond_t h b2219
                obtain ⟨c2220, h⟩ := chk_s h
                have k2221 := eq_true (show (s2177.2.length + 1) * 24 ≤ 140737488355328 by omega)
                have a2222 := map_apps encEdge s2177.2 [(⟨((IntKind.i64.wrap e2206.x0).tmod ((a0.edges.length : Nat) : Int)), ((IntKind.i64.wrap e2206.x1).tmod ((s1938.2.1.length : Nat) : Int)), ((IntKind.i64.wrap e2206.x2).tmod ((s1938.2.1.length : Nat) : Int))⟩ : Edge)] (c := [[.val (.int .i64 ((IntKind.i64.wrap e2206.x0).tmod ((a0.edges.length : Nat) : Int))), .val (.int .i64 ((IntKind.i64.wrap e2206.x1).tmod ((s1938.2.1.length : Nat) : Int))), .val (.int .i64 ((IntKind.i64.wrap e2206.x2).tmod ((s1938.2.1.length : Nat) : Int)))]]) rfl
                try simp -implicitDefEqProofs only [go_sem, reduceEqDiff, reduceLT, reduceLeDiff, reduceMul, reduceAdd, reduceIte, reduceCtorEq, Nat.reduceBEq, reduceSub, Int.reduceToNat, encAttr, encEdge, encEdgeT, encI, encInts, encNode, encRow, encStrs, enc_T_A2_Int, enc_T_A3_Int, b2011, b2012, b2202, b2203, b2204, b2205, c2206a, c2206b, c2206n, g2206, z2207, z2208, c2209, z2210, z2211, c2212, z2213, z2214, c2215, c2216a, c2216b, c2216n, g2216, c2217a, c2217b, c2217n, g2217, b2219, c2220, k2221, a2222]
                exact hNs2177 ((IntKind.i64.wrap (s2177.1 + 1)), (s2177.2 ++ [(⟨((IntKind.i64.wrap e2206.x0).tmod ((a0.edges.length : Nat) : Int)), ((IntKind.i64.wrap e2206.x1).tmod ((s1938.2.1.length : Nat) : Int)), ((IntKind.i64.wrap e2206.x2).tmod ((s1938.2.1.length : Nat) : Int))⟩ : Edge)])) (g2177 + 1) h (weakL (by simp -implicitDefEqProofs only [go_sem, reduceEqDiff, reduceLT, reduceLeDiff, reduceMul, reduceAdd, reduceIte, reduceCtorEq, Nat.reduceBEq, reduceSub, Int.reduceToNat, encAttr, encEdge, encEdgeT, encI, encInts, encNode, encRow, encStrs, enc_T_A2_Int, enc_T_A3_Int, b2011, b2012, b2202, b2203, b2204, b2205, c2206a, c2206b, c2206n, g2206, z2207, z2208, c2209, z2210, z2211, c2212, z2213, z2214, c2215, c2216a, c2216b, c2216n, g2216, c2217a, c2217b, c2217n, g2217, b2219, c2220, k2221, a2222] <;> ((repeat' apply And.intro) <;> rfl)))
              · replace h := cond_f h b2219
                try simp -implicitDefEqProofs only [go_sem, reduceEqDiff, reduceLT, reduceLeDiff, reduceMul, reduceAdd, reduceIte, reduceCtorEq, Nat.reduceBEq, reduceSub, Int.reduceToNat, encAttr, encEdge, encEdgeT, encI, encInts, encNode, encRow, encStrs, enc_T_A2_Int, enc_T_A3_Int, b2011, b2012, b2202, b2203, b2204, b2205, c2206a, c2206b, c2206n, g2206, z2207, z2208, c2209, z2210, z2211, c2212, z2213, z2214, c2215, c2216a, c2216b, c2216n, g2216, c2217a, c2217b, c2217n, g2217, b2219]
                exact hNs2177 ((IntKind.i64.wrap (s2177.1 + 1)), s2177.2) g2177 h (weakL (by simp -implicitDefEqProofs only [go_sem, reduceEqDiff, reduceLT, reduceLeDiff, reduceMul, reduceAdd, reduceIte, reduceCtorEq, Nat.reduceBEq, reduceSub, Int.reduceToNat, encAttr, encEdge, encEdgeT, encI, encInts, encNode, encRow, encStrs, enc_T_A2_Int, enc_T_A3_Int, b2011, b2012, b2202, b2203, b2204, b2205, c2206a, c2206b, c2206n, g2206, z2207, z2208, c2209, z2210, z2211, c2212, z2213, z2214, c2215, c2216a, c2216b, c2216n, g2216, c2217a, c2217b, c2217n, g2217, b2219] <;> ((repeat' apply And.intro) <;> rfl)))
            · replace h := cond_f h b2205
              try dsimp only at h
              cases h
              try simp -implicitDefEqProofs only [go_sem, reduceEqDiff, reduceLT, reduceLeDiff, reduceMul, reduceAdd, reduceIte, reduceCtorEq, Nat.reduceBEq, reduceSub, Int.reduceToNat, encAttr, encEdge, encEdgeT, encI, encInts, encNode, encRow, encStrs, enc_T_A2_Int, enc_T_A3_Int, b2011, b2012, b2202, b2203, b2204, b2205]
              refine ⟨by decide, _, .refl _, ?_⟩
              simp -implicitDefEqProofs only [go_sem, reduceEqDiff, reduceLT, reduceLeDiff, reduceMul, reduceAdd, reduceIte, reduceCtorEq, Nat.reduceBEq, reduceSub, Int.reduceToNat, encAttr, encEdge, encEdgeT, encI, encInts, encNode, encRow, encStrs, enc_T_A2_Int, enc_T_A3_Int, b2011, b2012, b2202, b2203, b2204, b2205] <;> ((repeat' apply And.intro) <;> rfl)
          · replace h := cond_f h b2204
            try dsimp only at h
            cases h
            try simp -implicitDefEqProofs only [go_sem, reduceEqDiff, reduceLT, reduceLeDiff, reduceMul, reduceAdd, reduceIte, reduceCtorEq, Nat.reduceBEq, reduceSub, Int.reduceToNat, encAttr, encEdge, encEdgeT, encI, encInts, encNode, encRow, encStrs, enc_T_A2_Int, enc_T_A3_Int, b2011, b2012, b2202, b2203, b2204]
            refine ⟨by decide, _, .refl _, ?_⟩
            simp -implicitDefEqProofs only [go_sem, reduceEqDiff, reduceLT, reduceLeDiff, reduceMul, reduceAdd, reduceIte, reduceCtorEq, Nat.reduceBEq, reduceSub, Int.reduceToNat, encAttr, encEdge, encEdgeT, encI, encInts, encNode, encRow, encStrs, enc_T_A2_Int, enc_T_A3_Int, b2011, b2012, b2202, b2203, b2204] <;> ((repeat' apply And.intro) <;> rfl)
        · replace h := cond_f h b2203
          try dsimp only at h
          cases h
          try simp -implicitDefEqProofs only [go_sem, reduceEqDiff, reduceLT, reduceLeDiff, reduceMul, reduceAdd, reduceIte, reduceCtorEq, Nat.reduceBEq, reduceSub, Int.reduceToNat, encAttr, encEdge, encEdgeT, encI, encInts, encNode, encRow, encStrs, enc_T_A2_Int, enc_T_A3_Int, b2011, b2012, b2202, b2203]
          refine ⟨by decide, _, .refl _, ?_⟩
          simp -implicitDefEqProofs only [go_sem, reduceEqDiff, reduceLT, reduceLeDiff, reduceMul, reduceAdd, reduceIte, reduceCtorEq, Nat.reduceBEq, reduceSub, Int.reduceToNat, encAttr, encEdge, encEdgeT, encI, encInts, encNode, encRow, encStrs, enc_T_A2_Int, enc_T_A3_Int, b2011, b2012, b2202, b2203] <;> ((repeat' apply And.intro) <;> rfl)
      · replace h := cond_f h b2202
        try dsimp only at h
        cases h
        try simp -implicitDefEqProofs only [go_sem, reduceEqDiff, reduceLT, reduceLeDiff, reduceMul, reduceAdd, reduceIte, reduceCtorEq, Nat.reduceBEq, reduceSub, Int.reduceToNat, encAttr, encEdge, encEdgeT, encI, encInts, encNode, encRow, encStrs, enc_T_A2_Int, enc_T_A3_Int, b2011, b2012, b2202]
        refine ⟨by decide, _, .refl _, ?_⟩
        simp -implicitDefEqProofs only [go_sem, reduceEqDiff, reduceLT, reduceLeDiff, reduceMul, reduceAdd, reduceIte, reduceCtorEq, Nat.reduceBEq, reduceSub, Int.reduceToNat, encAttr, encEdge, encEdgeT, encI, encInts, encNode, encRow, encStrs, enc_T_A2_Int, enc_T_A3_Int, b2011, b2012, b2202] <;> ((repeat' apply And.intro) <;> rfl)
  · replace h := cond_f h b2011
    try dsimp only at h
    try simp -implicitDefEqProofs only [go_sem, reduceEqDiff, reduceLT, reduceLeDiff, reduceMul, reduceAdd, reduceIte, reduceCtorEq, Nat.reduceBEq, reduceSub, Int.reduceToNat, encAttr, encEdge, encEdgeT, encI, encInts, encNode, encRow, encStrs, enc_T_A2_Int, enc_T_A3_Int, b2011]
    refine iter_go (fun x : (Int × (List Edge)) × (Nat) => envL [(2, .ptr 2 0), (3, .ptr 3 0), (4, .ptr 4 0), (5, .ptr 5 0), (13, .p (.val (.int .i64 ((s1938.2.1.length : Nat) : Int)))), (14, .p (.val (.int .i64 x.1.1)))]) (fun x => heapL [(2, .box [.p (.lst (a0.nodes.map encNode)), .p (.lst (a0.edges.map encEdgeT))]), (3, .box [.p (.lst (a1.nodes.map enc_T_A2_Int)), .p (.lst (a1.edges.map enc_T_A3_Int))]), (4, .box [.p (.val (.slice none 0 0)), .p (.val (.slice none 0 0)), .p (.val (.slice none 0 0))]), (5, .box [.row 3935 g1938.1, .row 4246 x.2, .row 3936 g1938.2]), (3935, .row g1938.1 3 1 (s1938.2.1.map encI)), (4246, .row x.2 73 3 (x.1.2.map encEdge)), (3936, .row g1938.2 26 1 (s1938.2.2.map encRow))]) 0 h (by refine Weak.trans (weak_nilbox 5 1 4246 73 3 _ rfl rfl rfl (by decide)) ?_; exact (weakL (by simp -implicitDefEqProofs only [go_sem, reduceEqDiff, reduceLT, reduceLeDiff, reduceMul, reduceAdd, reduceIte, reduceCtorEq, Nat.reduceBEq, reduceSub, Int.reduceToNat, encAttr, encEdge, encEdgeT, encI, encInts, encNode, encRow, encStrs, enc_T_A2_Int, enc_T_A3_Int, b2011] <;> ((repeat' apply And.intro) <;> rfl)))) ?_
    intro s2248 g2248 nxts2248 Rs2248 hNs2248 h
    try dsimp only at h
    try simp -implicitDefEqProofs only [go_sem, reduceEqDiff, reduceLT, reduceLeDiff, reduceMul, reduceAdd, reduceIte, reduceCtorEq, Nat.reduceBEq, reduceSub, Int.reduceToNat, encAttr, encEdge, encEdgeT, encI, encInts, encNode, encRow, encStrs, enc_T_A2_Int, enc_T_A3_Int, b2011]
    refine walkG_split (fun b2273 => ?_) (fun b2273 => ?_)
    · replace h := cond_t h b2273
      try simp -implicitDefEqProofs only [go_sem, reduceEqDiff, reduceLT, reduceLeDiff, reduceMul, reduceAdd, reduceIte, reduceCtorEq, Nat.reduceBEq, reduceSub, Int.reduceToNat, encAttr, encEdge, encEdgeT, encI, encInts, encNode, encRow, encStrs, enc_T_A2_Int, enc_T_A3_Int, b2011, b2273]
      refine walkG_split (fun b2274 => ?_) (fun b2274 => ?_)
      · replace h := cond_t h b2274
        try simp -implicitDefEqProofs only [go_sem, reduceEqDiff, reduceLT, reduceLeDiff, reduceMul, reduceAdd, reduceIte, reduceCtorEq, Nat.reduceBEq, reduceSub, Int.reduceToNat, encAttr, encEdge, encEdgeT, encI, encInts, encNode, encRow, encStrs, enc_T_A2_Int, enc_T_A3_Int, b2011, b2273, b2274]
        refine walkG_split (fun b2275 => ?_) (fun b2275 => ?_)
        · replace h := cond_t h b2275
          try simp -implicitDefEqProofs only [go_sem, reduceEqDiff, reduceLT, reduceLeDiff, reduceMul, reduceAdd, reduceIte, reduceCtorEq, Nat.reduceBEq, reduceSub, Int.reduceToNat, encAttr, encEdge, encEdgeT, encI, encInts, encNode, encRow, encStrs, enc_T_A2_Int, enc_T_A3_Int, b2011, b2273, b2274, b2275]
          refine condC_split (fun b2276 => ?_) (fun b2276 => ?_)
          · replace h := cond_t h b2276
            try simp -implicitDefEqProofs only [go_sem, reduceEqDiff, reduceLT, reduceLeDiff, reduceMul, reduceAdd, reduceIte, reduceCtorEq, Nat.reduceBEq, reduceSub, Int.reduceToNat, encAttr, encEdge, encEdgeT, encI, encInts, encNode, encRow, encStrs, enc_T_A2_Int, enc_T_A3_Int, b2011, b2273, b2274, b2275, b2276]
            refine draw_txt [.q, .q, .q, .q, .q, .q, .q, .q, .q, .q, .q, .q, .q, .q, .q, .q, .q, .q, .q, .q, .q, .q, .q, .q, .q, .q, .q, .q, .q, .q, .w, .s] (by kernel_rfl) ?_
            obtain ⟨e2277, c2277a, c2277b, g2277, q2277, h⟩ := atZ_s enc_T_A3_Int h
            have c2277n := toNat_lt c2277a c2277b
            have z2278 := show (0 : Int) ≤ 0 by decide
            have z2279 := show (0 : Int) < ((3 : Nat) : Int) by decide
            obtain ⟨c2280, h⟩ := chk_s h
            have z2281 := show (0 : Int) ≤ 1 by decide
            have z2282 := show (1 : Int) < ((3 : Nat) : Int) by decide
            obtain ⟨c2283, h⟩ := chk_s h
            have z2284 := show (0 : Int) ≤ 2 by decide
            have z2285 := show (2 : Int) < ((3 : Nat) : Int) by decide
            obtain ⟨c2286, h⟩ := chk_s h
            try simp -implicitDefEqProofs only [go_sem, reduceEqDiff, reduceLT, reduceLeDiff, reduceMul, reduceAdd, reduceIte, reduceCtorEq, Nat.reduceBEq, reduceSub, Int.reduceToNat, encAttr, encEdge, encEdgeT, encI, encInts, encNode, encRow, encStrs, enc_T_A2_Int, enc_T_A3_Int, b2011, b2273, b2274, b2275, b2276, c2277a, c2277b, c2277n, g2277, z2278, z2279, c2280, z2281, z2282, c2283, z2284, z2285, c2286]
            refine draw_txt [.q, .q, .q, .q, .q, .q, .q, .q, .q, .q, .q, .q, .q, .q, .q, .q, .q, .q] (by kernel_rfl) ?_
            obtain ⟨e2287, c2287a, c2287b, g2287, q2287, h⟩ := atZ_s encI h
            have c2287n := toNat_lt c2287a c2287b
            obtain ⟨e2288, c2288a, c2288b, g2288, q2288, h⟩ := atZ_s encI h
            have c2288n := toNat_lt c2288a c2288b
            obtain ⟨r2289, hr2289, h⟩ := thn_s h
            try simp -implicitDefEqProofs only [go_sem, reduceEqDiff, reduceLT, reduceLeDiff, reduceMul, reduceAdd, reduceIte, reduceCtorEq, Nat.reduceBEq, reduceSub, Int.reduceToNat, encAttr, encEdge, encEdgeT, encI, encInts, encNode, encRow, encStrs, enc_T_A2_Int, enc_T_A3_Int, b2011, b2273, b2274, b2275, b2276, c2277a, c2277b, c2277n, g2277, z2278, z2279, c2280, z2281, z2282, c2283, z2284, z2285, c2286, c2287a, c2287b, c2287n, g2287, c2288a, c2288b, c2288n, g2288]
            refine calldG (w_scarfjointref04_Fits a0 ((IntKind.i64.wrap e2277.x0).tmod ((a0.edges.length : Nat) : Int)) e2287 e2288 r2289 hr2289) (by simp -implicitDefEqProofs only [go_sem, reduceEqDiff, reduceLT, reduceLeDiff, reduceMul, reduceAdd, reduceIte, reduceCtorEq, Nat.reduceBEq, reduceSub, Int.reduceToNat, encAttr, encEdge, encEdgeT, encI, encInts, encNode, encRow, encStrs, enc_T_A2_Int, enc_T_A3_Int, b2011, b2273, b2274, b2275, b2276, c2277a, c2277b, c2277n, g2277, z2278, z2279, c2280, z2281, z2282, c2283, z2284, z2285, c2286, c2287a, c2287b, c2287n, g2287, c2288a, c2288b, c2288n, g2288] <;> rfl) (pleL_refl _) (by first | exact pers | exact scal rfl) ?_
            try simp -implicitDefEqProofs only [go_sem, reduceEqDiff, reduceLT, reduceLeDiff, reduceMul, reduceAdd, reduceIte, reduceCtorEq, Nat.reduceBEq, reduceSub, Int.reduceToNat, encAttr, encEdge, encEdgeT, encI, encInts, encNode, encRow, encStrs, enc_T_A2_Int, enc_T_A3_Int, b2011, b2273, b2274, b2275, b2276, c2277a, c2277b, c2277n, g2277, z2278, z2279, c2280, z2281, z2282, c2283, z2284, z2285, c2286, c2287a, c2287b, c2287n, g2287, c2288a, c2288b, c2288n, g2288]
            refine condC_split (fun b2290 => ?_) (fun b2290 => ?_)
            · replace h := cond_t h b2290
              obtain ⟨c2291, h⟩ := chk_s h
              have k2292 := eq_true (show (s2248.2.length + 1) * 24 ≤ 140737488355328 by omega)
              have a2293 := map_apps encEdge s2248.2 [(⟨((IntKind.i64.wrap e2277.x0).tmod ((a0.edges.length : Nat) : Int)), ((IntKind.i64.wrap e2277.x1).tmod ((s1938.2.1.length : Nat) : Int)), ((IntKind.i64.wrap e2277.x2).tmod ((s1938.2.1.length : Nat) : Int))⟩ : Edge)] (c := [[.val (.int .i64 ((IntKind.i64.wrap e2277.x0).tmod ((a0.edges.length : Nat) : Int))), .val (.int .i64 ((IntKind.i64.wrap e2277.x1).tmod ((s1938.2.1.length : Nat) : Int))), .val (.int .i64 ((IntKind.i64.wrap e2277.x2).tmod ((s1938.2.1.length : Nat) : Int)))]]) rfl
              try simp -implicitDefEqProofs only [go_sem, reduceEqDiff, reduceLT, reduceLeDiff, reduceMul, reduceAdd, reduceIte, reduceCtorEq, Nat.reduceBEq, reduceSub, Int.reduceToNat, encAttr, encEdge, encEdgeT, encI, encInts, encNode, encRow, encStrs, enc_T_A2_Int, enc_T_A3_Int, b2011, b2273, b2274, b2275, b2276, c2277a, c2277b, c2277n, g2277, z2278, z2279, c2280, z2281, z2282, c2283, z2284, z2285, c2286, c2287a, c2287b, c2287n, g2287, c2288a, c2288b, c2288n, g2288, b2290, c2291, k2292, a2293]
              exact hNs2248 ((IntKind.i64.wrap (s2248.1 + 1)), (s2248.2 ++ [(⟨((IntKind.i64.wrap e2277.x0).tmod ((a0.edges.length : Nat) : Int)), ((IntKind.i64.wrap e2277.x1).tmod ((s1938.2.1.length : Nat) : Int)), ((IntKind.i64.wrap e2277.x2).tmod ((s1938.2.1.length : Nat) : Int))⟩ : Edge)])) (g2248 + 1) h (weakL (by simp -implicitDefEqProofs only [go_sem, reduceEqDiff, reduceLT, reduceLeDiff, reduceMul, reduceAdd, reduceIte, reduceCtorEq, Nat.reduceBEq, reduceSub, Int.reduceToNat, encAttr, encEdge, encEdgeT, encI, encInts, encNode, encRow, encStrs, enc_T_A2_Int, enc_T_A3_Int, b2011, b2273, b2274, b2275, b2276, c2277a, c2277b, c2277n, g2277, z2278, z2279, c2280, z2281, z2282, c2283, z2284, z2285, c2286, c2287a, c2287b, c2287n, g2287, c2288a, c2288b, c2288n, g2288, b2290, c2291, k2292, a2293] <;> ((repeat' apply And.intro) <;> rfl)))
            · replace h := cond_f h b2290
              try simp -implicitDefEqProofs only [go_sem, reduceEqDiff, reduceLT, reduceLeDiff, reduceMul, reduceAdd, reduceIte, reduceCtorEq, Nat.reduceBEq, reduceSub, Int.reduceToNat, encAttr, encEdge, encEdgeT, encI, encInts, encNode, encRow, encStrs, enc_T_A2_Int, enc_T_A3_Int, b2011, b2273, b2274, b2275, b2276, c2277a, c2277b, c2277n, g2277, z2278, z2279, c2280, z2281, z2282, c2283, z2284, z2285, c2286, c2287a, c2287b, c2287n, g2287, c2288a, c2288b, c2288n, g2288, b2290]
              exact hNs2248 ((IntKind.i64.wrap (s2248.1 + 1)), s2248.2) g2248 h (weakL (by simp -implicitDefEqProofs only [go_sem, reduceEqDiff, reduceLT, reduceLeDiff, reduceMul, reduceAdd, reduceIte, reduceCtorEq, Nat.reduceBEq, reduceSub, Int.reduceToNat, encAttr, encEdge, encEdgeT, encI, encInts, encNode, encRow, encStrs, enc_T_A2_Int, enc_T_A3_Int, b2011, b2273, b2274, b2275, b2276, c2277a, c2277b, c2277n, g2277, z2278, z2279, c2280, z2281, z2282, c2283, z2284, z2285, c2286, c2287a, c2287b, c2287n, g2287, c2288a, c2288b, c2288n, g2288, b2290] <;> ((repeat' apply And.intro) <;> rfl)))
          · replace h := cond_f h b2276
            try dsimp only at h
            cases h
            try simp -implicitDefEqProofs only [go_sem, reduceEqDiff, reduceLT, reduceLeDiff, reduceMul, reduceAdd, reduceIte, reduceCtorEq, Nat.reduceBEq, reduceSub, Int.reduceToNat, encAttr, encEdge, encEdgeT, encI, encInts, encNode, encRow, encStrs, enc_T_A2_Int, enc_T_A3_Int, b2011, b2273, b2274, b2275, b2276]
            refine ⟨by decide, _, .refl _, ?_⟩
            simp -implicitDefEqProofs only [go_sem, reduceEqDiff, reduceLT, reduceLeDiff, reduceMul, reduceAdd, reduceIte, reduceCtorEq, Nat.reduceBEq, reduceSub, Int.reduceToNat, encAttr, encEdge, encEdgeT, encI, encInts, encNode, encRow, encStrs, enc_T_A2_Int, enc_T_A3_Int, b2011, b2273, b2274, b2275, b2276] <;> ((repeat' apply And.intro) <;> rfl)
        · replace h := cond_f h b2275
          try dsimp only at h
          cases h
          try simp -implicitDefEqProofs only [go_sem, reduceEqDiff, reduceLT, reduceLeDiff, reduceMul, reduceAdd, reduceIte, reduceCtorEq, Nat.reduceBEq, reduceSub, Int.reduceToNat, encAttr, encEdge, encEdgeT, encI, encInts, encNode, encRow, encStrs, enc_T_A2_Int, enc_T_A3_Int, b2011, b2273, b2274, b2275]
          refine ⟨by decide, _, .refl _, ?_⟩
          simp -implicitDefEqProofs only [go_sem, reduceEqDiff, reduceLT, reduceLeDiff, reduceMul, reduceAdd, reduceIte, reduceCtorEq, Nat.reduceBEq, reduceSub, Int.reduceToNat, encAttr, encEdge, encEdgeT, encI, encInts, encNode, encRow, encStrs, enc_T_A2_Int, enc_T_A3_Int, b2011, b2273, b2274, b2275] <;> ((repeat' apply And.intro) <;> rfl)
      · replace h := cond_f h b2274
        try dsimp only at h
        cases h
        try simp -implicitDefEqProofs only [go_sem, reduceEqDiff, reduceLT, reduceLeDiff, reduceMul, reduceAdd, reduceIte, reduceCtorEq, Nat.reduceBEq, reduceSub, Int.reduceToNat, encAttr, encEdge, encEdgeT, encI, encInts, encNode, encRow, encStrs, enc_T_A2_Int, enc_T_A3_Int, b2011, b2273, b2274]
        refine ⟨by decide, _, .refl _, ?_⟩
        simp -implicitDefEqProofs only [go_sem, reduceEqDiff, reduceLT, reduceLeDiff, reduceMul, reduceAdd, reduceIte, reduceCtorEq, Nat.reduceBEq, reduceSub, Int.reduceToNat, encAttr, encEdge, encEdgeT, encI, encInts, encNode, encRow, encStrs, enc_T_A2_Int, enc_T_A3_Int, b2011, b2273, b2274] <;> ((repeat' apply And.intro) <;> rfl)
    · replace h := cond_f h b2273
      try dsimp only at h
      cases h
      try simp -implicitDefEqProofs only [go_sem, reduceEqDiff, reduceLT, reduceLeDiff, reduceMul, reduceAdd, reduceIte, reduceCtorEq, Nat.reduceBEq, reduceSub, Int.reduceToNat, encAttr, encEdge, encEdgeT, encI, encInts, encNode, encRow, encStrs, enc_T_A2_Int, enc_T_A3_Int, b2011, b2273]
      refine ⟨by decide, _, .refl _, ?_⟩
      simp -implicitDefEqProofs only [go_sem, reduceEqDiff, reduceLT, reduceLeDiff, reduceMul, reduceAdd, reduceIte, reduceCtorEq, Nat.reduceBEq, reduceSub, Int.reduceToNat, encAttr, encEdge, encEdgeT, encI, encInts, encNode, encRow, encStrs, enc_T_A2_Int, enc_T_A3_Int, b2011, b2273] <;> ((repeat' apply And.intro) <;> rfl)


def f_slices_Index_Pair (a0 : List GPair) (a1 : GPair) : Option Int :=
  chk (a0.length ≤ fuel) <|
  forN (fun i2388 (s2388 : Unit) nxts2388 brks2388 =>
    thn (a0[i2388]?) fun e2391 =>
    cond (decide (a1.a = e2391.a) && decide (a1.b = e2391.b)) (
      some ((i2388 : Nat) : Int)) <|
    nxts2388 ())
  (a0.length - 0) 0 () fun s2388 =>
  some (-1)
set_option maxHeartbeats 4000000 in
theorem w_slices_Index_Pair (a0 : List GPair) (a1 : GPair) (r : Int) (h : f_slices_Index_Pair a0 a1 = some r) : CallV Go.Proofs.Tryz.prog 60 [.lst (a0.map encPair), .agg [.val (.int .i64 a1.a), .val (.int .i64 a1.b)]] (fun v => v = .val (.int .i64 r)) := by
  refine CallV.ple ?_
  refine callV_of_cw [] Ty.mixed Go.Proofs.Tryz.func60 rfl (by kernel_rfl) (by simp [Go.Proofs.Tryz.ntmps60]) ?_; rw [Go.Proofs.Tryz.ntmps60, Go.Proofs.Tryz.results60]
  unfold f_slices_Index_Pair at h
  obtain ⟨fus2388, h⟩ := chk_s h
  unfold fuel at fus2388
  try simp -implicitDefEqProofs only [go_sem, reduceEqDiff, reduceLT, reduceLeDiff, reduceMul, reduceAdd, reduceIte, reduceCtorEq, Nat.reduceBEq, reduceSub, Int.reduceToNat, encPair]
  refine forN_go (fun x : (Nat × (Unit)) × (Unit) => envL [(0, .p (.lst (a0.map encPair))), (3, .ptr 3 0), (7, .p (.val (.int .i64 ((a0.length : Nat) : Int)))), (8, .p (.val (.int .i64 ((x.1.1 : Nat) : Int))))]) (fun x => heapL [(3, .box [.p (.val (.int .i64 a1.a)), .p (.val (.int .i64 a1.b))])]) () h (weakL (by simp -implicitDefEqProofs only [go_sem, reduceEqDiff, reduceLT, reduceLeDiff, reduceMul, reduceAdd, reduceIte, reduceCtorEq, Nat.reduceBEq, reduceSub, Int.reduceToNat, encPair] <;> ((repeat' apply And.intro) <;> rfl))) ?_ ?_
  · intro i2388 s2388 g2388 nxts2388 Rs2388 his2388 hNs2388 h
    have hws2388 := wrap_succ (k := i2388) his2388 (by omega)
    try dsimp only at h
    try simp -implicitDefEqProofs only [go_sem, reduceEqDiff, reduceLT, reduceLeDiff, reduceMul, reduceAdd, reduceIte, reduceCtorEq, Nat.reduceBEq, reduceSub, Int.reduceToNat, encPair, his2388, hws2388]
    refine draw_txt [.q, .q, .q, .q, .q, .q] (by kernel_rfl) ?_
    obtain ⟨e2391, c2391, g2391, q2391, h⟩ := idx_s encPair h
    try simp -implicitDefEqProofs only [go_sem, reduceEqDiff, reduceLT, reduceLeDiff, reduceMul, reduceAdd, reduceIte, reduceCtorEq, Nat.reduceBEq, reduceSub, Int.reduceToNat, encPair, his2388, hws2388, c2391, g2391]
    refine condC_split (fun b2392 => ?_) (fun b2392 => ?_)
    · replace h := cond_t h b2392
      cases h
      try simp -implicitDefEqProofs only [go_sem, reduceEqDiff, reduceLT, reduceLeDiff, reduceMul, reduceAdd, reduceIte, reduceCtorEq, Nat.reduceBEq, reduceSub, Int.reduceToNat, encPair, his2388, hws2388, c2391, g2391, b2392]
      all_goals ((repeat' apply And.intro) <;> rfl)
    · replace h := cond_f h b2392
      try simp -implicitDefEqProofs only [go_sem, reduceEqDiff, reduceLT, reduceLeDiff, reduceMul, reduceAdd, reduceIte, reduceCtorEq, Nat.reduceBEq, reduceSub, Int.reduceToNat, encPair, his2388, hws2388, c2391, g2391, b2392]
      exact hNs2388 () () h (weakL (by simp -implicitDefEqProofs only [go_sem, reduceEqDiff, reduceLT, reduceLeDiff, reduceMul, reduceAdd, reduceIte, reduceCtorEq, Nat.reduceBEq, reduceSub, Int.reduceToNat, encPair, his2388, hws2388, c2391, g2391, b2392] <;> ((repeat' apply And.intro) <;> rfl)))
  · intro i2388 s2388 g2388 Rs2388 hes2388 h
    have hns2388 : ¬ (i2388 < a0.length) := by omega
    try dsimp only at h
    cases h
    try simp -implicitDefEqProofs only [go_sem, reduceEqDiff, reduceLT, reduceLeDiff, reduceMul, reduceAdd, reduceIte, reduceCtorEq, Nat.reduceBEq, reduceSub, Int.reduceToNat, encPair, hns2388]
    all_goals ((repeat' apply And.intro) <;> rfl)


def f_slices_Contains_Pair (a0 : List GPair) (a1 : GPair) : Option Bool :=
  thn (f_slices_Index_Pair a0 a1) fun r2393 =>
  some (decide (0 ≤ r2393))
set_option maxHeartbeats 4000000 in
theorem w_slices_Contains_Pair (a0 : List GPair) (a1 : GPair) (r : Bool) (h : f_slices_Contains_Pair a0 a1 = some r) : CallV Go.Proofs.Tryz.prog 27 [.lst (a0.map encPair), .agg [.val (.int .i64 a1.a), .val (.int .i64 a1.b)]] (fun v => v = .val (.bool r)) := by
  refine CallV.ple ?_
  refine callV_of_cw [] Ty.mixed Go.Proofs.Tryz.func27 rfl (by kernel_rfl) (by simp [Go.Proofs.Tryz.ntmps27]) ?_; rw [Go.Proofs.Tryz.ntmps27, Go.Proofs.Tryz.results27]
  unfold f_slices_Contains_Pair at h
  obtain ⟨r2393, hr2393, h⟩ := thn_s h
  try simp -implicitDefEqProofs only [go_sem, reduceEqDiff, reduceLT, reduceLeDiff, reduceMul, reduceAdd, reduceIte, reduceCtorEq, Nat.reduceBEq, reduceSub, Int.reduceToNat, encPair]
  refine callG (w_slices_Index_Pair a0 a1 r2393 hr2393) (by simp -implicitDefEqProofs only [go_sem, reduceEqDiff, reduceLT, reduceLeDiff, reduceMul, reduceAdd, reduceIte, reduceCtorEq, Nat.reduceBEq, reduceSub, Int.reduceToNat, encPair] <;> rfl) (pleL_refl _) (by first | exact pers | exact scal rfl) ?_
  cases h
  try simp -implicitDefEqProofs only [go_sem, reduceEqDiff, reduceLT, reduceLeDiff, reduceMul, reduceAdd, reduceIte, reduceCtorEq, Nat.reduceBEq, reduceSub, Int.reduceToNat, encPair]
  all_goals ((repeat' apply And.intro) <;> rfl)


def f_scarfjointlaw52_TripleTurned (a0 : T_scarfjointref15_Draft) : Option Bool :=
  thn (f_scarfjointlaw52_awake) fun r1193 =>
  cond r1193 (
    thn (f_scarfjointref52_Example) fun r1195 =>
    thn (f_scarfjointref15_Made r1195.1 (⟨a0.nodes, a0.edges⟩ : T_scarfjointref15_Draft)) fun r2365 =>
    thn (f_triple_Swap r1195.1 r1195.2) fun r2366 =>
    thn (f_triple_Side r1195.1 r1195.2 r2365 1) fun r2367 =>
    thn (f_triple_Side r1195.1 r2366.1 r2365 3) fun r2368 =>
    thn (f_triple_Links r1195.1 r1195.2 r2365) fun r2369 =>
    thn (f_triple_Links r1195.1 r2366.1 r2365) fun r2370 =>
    cond (decide (r2366.2 = 0)) (
      cond (decide (r2367.2.2 = 0)) (
        cond (decide (r2368.2.2 = 0)) (
          cond (decide (r2369.2 = 0)) (
            cond (decide (r2370.2 = 0)) (
              thn (f_scarfjointref15_Same r2367.1 r2368.1) fun r2376 =>
              cond r2376 (
                thn (f_scarfjointref07_Same r2367.2.1 r2368.2.1) fun r2378 =>
                cond r2378 (
                  cond (decide (((r2369.1.length : Nat) : Int) = ((r2370.1.length : Nat) : Int))) (
                    chk (r2369.1.length ≤ fuel) <|
                    forN (fun i2396 (s2396 : Unit) nxts2396 brks2396 =>
                      thn (r2369.1[i2396]?) fun e2400 =>
                      thn (f_slices_Contains_Pair r2370.1 (⟨e2400.b, e2400.a⟩ : GPair)) fun r2401 =>
                      cond r2401 (
                        nxts2396 ()) <|
                      some false)
                    (r2369.1.length - 0) 0 () fun s2396 =>
                    some true) <|
                  some false) <|
                some false) <|
              some false) <|
            some false) <|
          some false) <|
        some false) <|
      some false) <|
    some false) <|
  some false
set_option maxHeartbeats 4000000 in
theorem w_scarfjointlaw52_TripleTurned (a0 : T_scarfjointref15_Draft) (r : Bool) (h : f_scarfjointlaw52_TripleTurned a0 = some r) : CallV Go.Proofs.Tryz.prog 7 [.agg [.lst (a0.nodes.map enc_T_A2_Int), .lst (a0.edges.map enc_T_A3_Int)]] (fun v => v = .val (.bool r)) := by
  refine CallV.ple ?_
  refine callV_of_cw [] Ty.mixed Go.Proofs.Tryz.func7 rfl (by kernel_rfl) (by simp [Go.Proofs.Tryz.ntmps7]) ?_; rw [Go.Proofs.Tryz.ntmps7, Go.Proofs.Tryz.results7]
  unfold f_scarfjointlaw52_TripleTurned at h
  obtain ⟨r1193, hr1193, h⟩ := thn_s h
  try simp -implicitDefEqProofs only [go_sem, reduceEqDiff, reduceLT, reduceLeDiff, reduceMul, reduceAdd, reduceIte, reduceCtorEq, Nat.reduceBEq, reduceSub, Int.reduceToNat, encEdge, encEdgeT, encI, encInts, encNode, encPair, encRow, encStrs, enc_T_A2_Int, enc_T_A3_Int]
  refine callG (w_scarfjointlaw52_awake r1193 hr1193) (by simp -implicitDefEqProofs only [go_sem, reduceEqDiff, reduceLT, reduceLeDiff, reduceMul, reduceAdd, reduceIte, reduceCtorEq, Nat.reduceBEq, reduceSub, Int.reduceToNat, encEdge, encEdgeT, encI, encInts, encNode, encPair, encRow, encStrs, enc_T_A2_Int, enc_T_A3_Int] <;> rfl) (pleL_refl _) (by first | exact pers | exact scal rfl) ?_
  try simp -implicitDefEqProofs only [go_sem, reduceEqDiff, reduceLT, reduceLeDiff, reduceMul, reduceAdd, reduceIte, reduceCtorEq, Nat.reduceBEq, reduceSub, Int.reduceToNat, encEdge, encEdgeT, encI, encInts, encNode, encPair, encRow, encStrs, enc_T_A2_Int, enc_T_A3_Int]
  refine condC_splitN (fun b1194 => ?_) (fun b1194 => ?_)
  · replace h := cond_t h b1194
    obtain ⟨r1195, hr1195, h⟩ := thn_s h
    try simp -implicitDefEqProofs only [go_sem, reduceEqDiff, reduceLT, reduceLeDiff, reduceMul, reduceAdd, reduceIte, reduceCtorEq, Nat.reduceBEq, reduceSub, Int.reduceToNat, encEdge, encEdgeT, encI, encInts, encNode, encPair, encRow, encStrs, enc_T_A2_Int, enc_T_A3_Int, b1194]
    refine callG (w_scarfjointref52_Example r1195 hr1195) (by simp -implicitDefEqProofs only [go_sem, reduceEqDiff, reduceLT, reduceLeDiff, reduceMul, reduceAdd, reduceIte, reduceCtorEq, Nat.reduceBEq, reduceSub, Int.reduceToNat, encEdge, encEdgeT, encI, encInts, encNode, encPair, encRow, encStrs, enc_T_A2_Int, enc_T_A3_Int, b1194] <;> rfl) (pleL_refl _) (by first | exact pers | exact scal rfl) ?_
    obtain ⟨r2365, hr2365, h⟩ := thn_s h
    try simp -implicitDefEqProofs only [go_sem, reduceEqDiff, reduceLT, reduceLeDiff, reduceMul, reduceAdd, reduceIte, reduceCtorEq, Nat.reduceBEq, reduceSub, Int.reduceToNat, encEdge, encEdgeT, encI, encInts, encNode, encPair, encRow, encStrs, enc_T_A2_Int, enc_T_A3_Int, b1194]
    refine callfG 1448 (w_scarfjointref15_Made r1195.1 (⟨a0.nodes, a0.edges⟩ : T_scarfjointref15_Draft) r2365 hr2365) (by simp -implicitDefEqProofs only [go_sem, reduceEqDiff, reduceLT, reduceLeDiff, reduceMul, reduceAdd, reduceIte, reduceCtorEq, Nat.reduceBEq, reduceSub, Int.reduceToNat, encEdge, encEdgeT, encI, encInts, encNode, encPair, encRow, encStrs, enc_T_A2_Int, enc_T_A3_Int, b1194] <;> rfl) (pleL_refl _) (by first | exact persF | exact flatF rfl | exact flatF (by simp [RV.flat, RV.flatL, PV.scalar, isVal, encI, encEdge, encRow])) (by simp -implicitDefEqProofs only [go_sem, reduceEqDiff, reduceLT, reduceLeDiff, reduceMul, reduceAdd, reduceIte, reduceCtorEq, Nat.reduceBEq, reduceSub, Int.reduceToNat, encEdge, encEdgeT, encI, encInts, encNode, encPair, encRow, encStrs, enc_T_A2_Int, enc_T_A3_Int, b1194]) ?_
    obtain ⟨r2366, hr2366, h⟩ := thn_s h
    try simp -implicitDefEqProofs only [go_sem, reduceEqDiff, reduceLT, reduceLeDiff, reduceMul, reduceAdd, reduceIte, reduceCtorEq, Nat.reduceBEq, reduceSub, Int.reduceToNat, encEdge, encEdgeT, encI, encInts, encNode, encPair, encRow, encStrs, enc_T_A2_Int, enc_T_A3_Int, b1194]
    refine callG (w_triple_Swap r1195.1 r1195.2 r2366 hr2366) (by simp -implicitDefEqProofs only [go_sem, reduceEqDiff, reduceLT, reduceLeDiff, reduceMul, reduceAdd, reduceIte, reduceCtorEq, Nat.reduceBEq, reduceSub, Int.reduceToNat, encEdge, encEdgeT, encI, encInts, encNode, encPair, encRow, encStrs, enc_T_A2_Int, enc_T_A3_Int, b1194] <;> rfl) (pleL_refl _) (by first | exact pers | exact scal rfl) ?_
    obtain ⟨r2367, hr2367, h⟩ := thn_s h
    try simp -implicitDefEqProofs only [go_sem, reduceEqDiff, reduceLT, reduceLeDiff, reduceMul, reduceAdd, reduceIte, reduceCtorEq, Nat.reduceBEq, reduceSub, Int.reduceToNat, encEdge, encEdgeT, encI, encInts, encNode, encPair, encRow, encStrs, enc_T_A2_Int, enc_T_A3_Int, b1194]
    refine callfGs [1448, 1449, 1450] 1624 (w_triple_Side r1195.1 r1195.2 r2365 1 r2367 hr2367) (by simp -implicitDefEqProofs only [go_sem, reduceEqDiff, reduceLT, reduceLeDiff, reduceMul, reduceAdd, reduceIte, reduceCtorEq, Nat.reduceBEq, reduceSub, Int.reduceToNat, encEdge, encEdgeT, encI, encInts, encNode, encPair, encRow, encStrs, enc_T_A2_Int, enc_T_A3_Int, b1194] <;> rfl) (pleL_refl _) (by first | exact persF | exact flatF rfl | exact flatF (by simp [RV.flat, RV.flatL, PV.scalar, isVal, encI, encEdge, encRow])) (by simp -implicitDefEqProofs only [go_sem, reduceEqDiff, reduceLT, reduceLeDiff, reduceMul, reduceAdd, reduceIte, reduceCtorEq, Nat.reduceBEq, reduceSub, Int.reduceToNat, encEdge, encEdgeT, encI, encInts, encNode, encPair, encRow, encStrs, enc_T_A2_Int, enc_T_A3_Int, b1194]) ?_
    obtain ⟨r2368, hr2368, h⟩ := thn_s h
    try simp -implicitDefEqProofs only [go_sem, reduceEqDiff, reduceLT, reduceLeDiff, reduceMul, reduceAdd, reduceIte, reduceCtorEq, Nat.reduceBEq, reduceSub, Int.reduceToNat, encEdge, encEdgeT, encI, encInts, encNode, encPair, encRow, encStrs, enc_T_A2_Int, enc_T_A3_Int, b1194]
    refine callfG 1752 (w_triple_Side r1195.1 r2366.1 r2365 3 r2368 hr2368) (by simp -implicitDefEqProofs only [go_sem, reduceEqDiff, reduceLT, reduceLeDiff, reduceMul, reduceAdd, reduceIte, reduceCtorEq, Nat.reduceBEq, reduceSub, Int.reduceToNat, encEdge, encEdgeT, encI, encInts, encNode, encPair, encRow, encStrs, enc_T_A2_Int, enc_T_A3_Int, b1194] <;> rfl) (pleL_refl _) (by first | exact persF | exact flatF rfl | exact flatF (by simp [RV.flat, RV.flatL, PV.scalar, isVal, encI, encEdge, encRow])) (by simp -implicitDefEqProofs only [go_sem, reduceEqDiff, reduceLT, reduceLeDiff, reduceMul, reduceAdd, reduceIte, reduceCtorEq, Nat.reduceBEq, reduceSub, Int.reduceToNat, encEdge, encEdgeT, encI, encInts, encNode, encPair, encRow, encStrs, enc_T_A2_Int, enc_T_A3_Int, b1194]) ?_
    obtain ⟨r2369, hr2369, h⟩ := thn_s h
    try simp -implicitDefEqProofs only [go_sem, reduceEqDiff, reduceLT, reduceLeDiff, reduceMul, reduceAdd, reduceIte, reduceCtorEq, Nat.reduceBEq, reduceSub, Int.reduceToNat, encEdge, encEdgeT, encI, encInts, encNode, encPair, encRow, encStrs, enc_T_A2_Int, enc_T_A3_Int, b1194]
    refine callG (w_triple_Links r1195.1 r1195.2 r2365 r2369 hr2369) (by simp -implicitDefEqProofs only [go_sem, reduceEqDiff, reduceLT, reduceLeDiff, reduceMul, reduceAdd, reduceIte, reduceCtorEq, Nat.reduceBEq, reduceSub, Int.reduceToNat, encEdge, encEdgeT, encI, encInts, encNode, encPair, encRow, encStrs, enc_T_A2_Int, enc_T_A3_Int, b1194] <;> rfl) (pleL_refl _) (by first | exact pers | exact scal rfl) ?_
    obtain ⟨r2370, hr2370, h⟩ := thn_s h
    try simp -implicitDefEqProofs only [go_sem, reduceEqDiff, reduceLT, reduceLeDiff, reduceMul, reduceAdd, reduceIte, reduceCtorEq, Nat.reduceBEq, reduceSub, Int.reduceToNat, encEdge, encEdgeT, encI, encInts, encNode, encPair, encRow, encStrs, enc_T_A2_Int, enc_T_A3_Int, b1194]
    refine callG (w_triple_Links r1195.1 r2366.1 r2365 r2370 hr2370) (by simp -implicitDefEqProofs only [go_sem, reduceEqDiff, reduceLT, reduceLeDiff, reduceMul, reduceAdd, reduceIte, reduceCtorEq, Nat.reduceBEq, reduceSub, Int.reduceToNat, encEdge, encEdgeT, encI, encInts, encNode, encPair, encRow, encStrs, enc_T_A2_Int, enc_T_A3_Int, b1194] <;> rfl) (pleL_refl _) (by first | exact pers | exact scal rfl) ?_
    try simp -implicitDefEqProofs only [go_sem, reduceEqDiff, reduceLT, reduceLeDiff, reduceMul, reduceAdd, reduceIte, reduceCtorEq, Nat.reduceBEq, reduceSub, Int.reduceToNat, encEdge, encEdgeT, encI, encInts, encNode, encPair, encRow, encStrs, enc_T_A2_Int, enc_T_A3_Int, b1194]
    refine walkG_split (fun b2371 => ?_) (fun b2371 => ?_)
    · replace h := cond_t h b2371
      try simp -implicitDefEqProofs only [go_sem, reduceEqDiff, reduceLT, reduceLeDiff, reduceMul, reduceAdd, reduceIte, reduceCtorEq, Nat.reduceBEq, reduceSub, Int.reduceToNat, encEdge, encEdgeT, encI, encInts, encNode, encPair, encRow, encStrs, enc_T_A2_Int, enc_T_A3_Int, b1194, b2371]
      refine walkG_split (fun b2372 => ?_) (fun b2372 => ?_)
      · replace h := cond_t h b2372
        try simp -implicitDefEqProofs only [go_sem, reduceEqDiff, reduceLT, reduceLeDiff, reduceMul, reduceAdd, reduceIte, reduceCtorEq, Nat.reduceBEq, reduceSub, Int.reduceToNat, encEdge, encEdgeT, encI, encInts, encNode, encPair, encRow, encStrs, enc_T_A2_Int, enc_T_A3_Int, b1194, b2371, b2372]
        refine walkG_split (fun b2373 => ?_) (fun b2373 => ?_)
        · replace h := cond_t h b2373
          try simp -implicitDefEqProofs only [go_sem, reduceEqDiff, reduceLT, reduceLeDiff, reduceMul, reduceAdd, reduceIte, reduceCtorEq, Nat.reduceBEq, reduceSub, Int.reduceToNat, encEdge, encEdgeT, encI, encInts, encNode, encPair, encRow, encStrs, enc_T_A2_Int, enc_T_A3_Int, b1194, b2371, b2372, b2373]
          refine walkG_split (fun b2374 => ?_) (fun b2374 => ?_)
          · replace h := cond_t h b2374
            try simp -implicitDefEqProofs only [go_sem, reduceEqDiff, reduceLT, reduceLeDiff, reduceMul, reduceAdd, reduceIte, reduceCtorEq, Nat.reduceBEq, reduceSub, Int.reduceToNat, encEdge, encEdgeT, encI, encInts, encNode, encPair, encRow, encStrs, enc_T_A2_Int, enc_T_A3_Int, b1194, b2371, b2372, b2373, b2374]
            refine walkG_split (fun b2375 => ?_) (fun b2375 => ?_)
            · replace h := cond_t h b2375
              obtain ⟨r2376, hr2376, h⟩ := thn_s h
              try simp -implicitDefEqProofs only [go_sem, reduceEqDiff, reduceLT, reduceLeDiff, reduceMul, reduceAdd, reduceIte, reduceCtorEq, Nat.reduceBEq, reduceSub, Int.reduceToNat, encEdge, encEdgeT, encI, encInts, encNode, encPair, encRow, encStrs, enc_T_A2_Int, enc_T_A3_Int, b1194, b2371, b2372, b2373, b2374, b2375]
              refine callG (w_scarfjointref15_Same r2367.1 r2368.1 r2376 hr2376) (by simp -implicitDefEqProofs only [go_sem, reduceEqDiff, reduceLT, reduceLeDiff, reduceMul, reduceAdd, reduceIte, reduceCtorEq, Nat.reduceBEq, reduceSub, Int.reduceToNat, encEdge, encEdgeT, encI, encInts, encNode, encPair, encRow, encStrs, enc_T_A2_Int, enc_T_A3_Int, b1194, b2371, b2372, b2373, b2374, b2375] <;> rfl) (pleL_refl _) (by first | exact pers | exact scal rfl) ?_
              try simp -implicitDefEqProofs only [go_sem, reduceEqDiff, reduceLT, reduceLeDiff, reduceMul, reduceAdd, reduceIte, reduceCtorEq, Nat.reduceBEq, reduceSub, Int.reduceToNat, encEdge, encEdgeT, encI, encInts, encNode, encPair, encRow, encStrs, enc_T_A2_Int, enc_T_A3_Int, b1194, b2371, b2372, b2373, b2374, b2375]
              refine walkG_split (fun b2377 => ?_) (fun b2377 => ?_)
              · replace h := cond_t h b2377
                obtain ⟨r2378, hr2378, h⟩ := thn_s h
                try simp -implicitDefEqProofs only [go_sem, reduceEqDiff, reduceLT, reduceLeDiff, reduceMul, reduceAdd, reduceIte, reduceCtorEq, Nat.reduceBEq, reduceSub, Int.reduceToNat, encEdge, encEdgeT, encI, encInts, encNode, encPair, encRow, encStrs, enc_T_A2_Int, enc_T_A3_Int, b1194, b2371, b2372, b2373, b2374, b2375, b2377]
                refine callG (w_scarfjointref07_Same r2367.2.1 r2368.2.1 r2378 hr2378) (by simp -implicitDefEqProofs only [go_sem, reduceEqDiff, reduceLT, reduceLeDiff, reduceMul, reduceAdd, reduceIte, reduceCtorEq, Nat.reduceBEq, reduceSub, Int.reduceToNat, encEdge, encEdgeT, encI, encInts, encNode, encPair, encRow, encStrs, enc_T_A2_Int, enc_T_A3_Int, b1194, b2371, b2372, b2373, b2374, b2375, b2377] <;> rfl) (pleL_refl _) (by first | exact pers | exact scal rfl) ?_
                try simp -implicitDefEqProofs only [go_sem, reduceEqDiff, reduceLT, reduceLeDiff, reduceMul, reduceAdd, reduceIte, reduceCtorEq, Nat.reduceBEq, reduceSub, Int.reduceToNat, encEdge, encEdgeT, encI, encInts, encNode, encPair, encRow, encStrs, enc_T_A2_Int, enc_T_A3_Int, b1194, b2371, b2372, b2373, b2374, b2375, b2377]
                refine walkG_split (fun b2379 => ?_) (fun b2379 => ?_)
                · replace h := cond_t h b2379
                  try simp -implicitDefEqProofs only [go_sem, reduceEqDiff, reduceLT, reduceLeDiff, reduceMul, reduceAdd, reduceIte, reduceCtorEq, Nat.reduceBEq, reduceSub, Int.reduceToNat, encEdge, encEdgeT, encI, encInts, encNode, encPair, encRow, encStrs, enc_T_A2_Int, enc_T_A3_Int, b1194, b2371, b2372, b2373, b2374, b2375, b2377, b2379]
                  refine condC_splitN (fun b2380 => ?_) (fun b2380 => ?_)
                  · replace h := cond_t h b2380
                    obtain ⟨fus2396, h⟩ := chk_s h
                    unfold fuel at fus2396
                    try simp -implicitDefEqProofs only [go_sem, reduceEqDiff, reduceLT, reduceLeDiff, reduceMul, reduceAdd, reduceIte, reduceCtorEq, Nat.reduceBEq, reduceSub, Int.reduceToNat, encEdge, encEdgeT, encI, encInts, encNode, encPair, encRow, encStrs, enc_T_A2_Int, enc_T_A3_Int, b1194, b2371, b2372, b2373, b2374, b2375, b2377, b2379, b2380]
                    refine forN_go (fun x : (Nat × (Unit)) × (Unit) => envL [(16, .p (.lst (r2370.1.map encPair))), (102, .p (.lst (r2369.1.map encPair))), (103, .p (.val (.int .i64 ((r2369.1.length : Nat) : Int)))), (104, .p (.val (.int .i64 ((x.1.1 : Nat) : Int))))]) (fun x => heapL []) () h (weakL (by simp -implicitDefEqProofs only [go_sem, reduceEqDiff, reduceLT, reduceLeDiff, reduceMul, reduceAdd, reduceIte, reduceCtorEq, Nat.reduceBEq, reduceSub, Int.reduceToNat, encEdge, encEdgeT, encI, encInts, encNode, encPair, encRow, encStrs, enc_T_A2_Int, enc_T_A3_Int, b1194, b2371, b2372, b2373, b2374, b2375, b2377, b2379, b2380] <;> ((repeat' apply And.intro) <;> rfl))) ?_ ?_
                    · intro i2396 s2396 g2396 nxts2396 Rs2396 his2396 hNs2396 h
                      have hws2396 := wrap_succ (k := i2396) his2396 (by omega)
                      try dsimp only at h
                      obtain ⟨e2400, c2400, g2400, q2400, h⟩ := idx_s encPair h
                      obtain ⟨r2401, hr2401, h⟩ := thn_s h
                      try simp -implicitDefEqProofs only [go_sem, reduceEqDiff, reduceLT, reduceLeDiff, reduceMul, reduceAdd, reduceIte, reduceCtorEq, Nat.reduceBEq, reduceSub, Int.reduceToNat, encEdge, encEdgeT, encI, encInts, encNode, encPair, encRow, encStrs, enc_T_A2_Int, enc_T_A3_Int, b1194, b2371, b2372, b2373, b2374, b2375, b2377, b2379, b2380, his2396, hws2396, c2400, g2400]
                      refine callG (w_slices_Contains_Pair r2370.1 (⟨e2400.b, e2400.a⟩ : GPair) r2401 hr2401) (by simp -implicitDefEqProofs only [go_sem, reduceEqDiff, reduceLT, reduceLeDiff, reduceMul, reduceAdd, reduceIte, reduceCtorEq, Nat.reduceBEq, reduceSub, Int.reduceToNat, encEdge, encEdgeT, encI, encInts, encNode, encPair, encRow, encStrs, enc_T_A2_Int, enc_T_A3_Int, b1194, b2371, b2372, b2373, b2374, b2375, b2377, b2379, b2380, his2396, hws2396, c2400, g2400] <;> rfl) (pleL_refl _) (by first | exact pers | exact scal rfl) ?_
                      try simp -implicitDefEqProofs only [go_sem, reduceEqDiff, reduceLT, reduceLeDiff, reduceMul, reduceAdd, reduceIte, reduceCtorEq, Nat.reduceBEq, reduceSub, Int.reduceToNat, encEdge, encEdgeT, encI, encInts, encNode, encPair, encRow, encStrs, enc_T_A2_Int, enc_T_A3_Int, b1194, b2371, b2372, b2373, b2374, b2375, b2377, b2379, b2380, his2396, hws2396, c2400, g2400]
                      refine condC_splitN (fun b2402 => ?_) (fun b2402 => ?_)
                      · replace h := cond_t h b2402
                        try simp -implicitDefEqProofs only [go_sem, reduceEqDiff, reduceLT, reduceLeDiff, reduceMul, reduceAdd, reduceIte, reduceCtorEq, Nat.reduceBEq, reduceSub, Int.reduceToNat, encEdge, encEdgeT, encI, encInts, encNode, encPair, encRow, encStrs, enc_T_A2_Int, enc_T_A3_Int, b1194, b2371, b2372, b2373, b2374, b2375, b2377, b2379, b2380, his2396, hws2396, c2400, g2400, b2402]
                        exact hNs2396 () () h (weakL (by simp -implicitDefEqProofs only [go_sem, reduceEqDiff, reduceLT, reduceLeDiff, reduceMul, reduceAdd, reduceIte, reduceCtorEq, Nat.reduceBEq, reduceSub, Int.reduceToNat, encEdge, encEdgeT, encI, encInts, encNode, encPair, encRow, encStrs, enc_T_A2_Int, enc_T_A3_Int, b1194, b2371, b2372, b2373, b2374, b2375, b2377, b2379, b2380, his2396, hws2396, c2400, g2400, b2402] <;> ((repeat' apply And.intro) <;> rfl)))
                      · replace h := cond_f h b2402
                        cases h
                        try simp -implicitDefEqProofs only [go_sem, reduceEqDiff, reduceLT, reduceLeDiff, reduceMul, reduceAdd, reduceIte, reduceCtorEq, Nat.reduceBEq, reduceSub, Int.reduceToNat, encEdge, encEdgeT, encI, encInts, encNode, encPair, encRow, encStrs, enc_T_A2_Int, enc_T_A3_Int, b1194, b2371, b2372, b2373, b2374, b2375, b2377, b2379, b2380, his2396, hws2396, c2400, g2400, b2402]
                        all_goals ((repeat' apply And.intro) <;> rfl)
                    · intro i2396 s2396 g2396 Rs2396 hes2396 h
                      have hns2396 : ¬ (i2396 < r2369.1.length) := by omega
                      try dsimp only at h
                      cases h
                      try simp -implicitDefEqProofs only [go_sem, reduceEqDiff, reduceLT, reduceLeDiff, reduceMul, reduceAdd, reduceIte, reduceCtorEq, Nat.reduceBEq, reduceSub, Int.reduceToNat, encEdge, encEdgeT, encI, encInts, encNode, encPair, encRow, encStrs, enc_T_A2_Int, enc_T_A3_Int, b1194, b2371, b2372, b2373, b2374, b2375, b2377, b2379, b2380, hns2396]
                      all_goals ((repeat' apply And.intro) <;> rfl)
                  · replace h := cond_f h b2380
                    cases h
                    try simp -implicitDefEqProofs only [go_sem, reduceEqDiff, reduceLT, reduceLeDiff, reduceMul, reduceAdd, reduceIte, reduceCtorEq, Nat.reduceBEq, reduceSub, Int.reduceToNat, encEdge, encEdgeT, encI, encInts, encNode, encPair, encRow, encStrs, enc_T_A2_Int, enc_T_A3_Int, b1194, b2371, b2372, b2373, b2374, b2375, b2377, b2379, b2380]
                    all_goals ((repeat' apply And.intro) <;> rfl)
                · replace h := cond_f h b2379
                  cases h
                  try simp -implicitDefEqProofs only [go_sem, reduceEqDiff, reduceLT, reduceLeDiff, reduceMul, reduceAdd, reduceIte, reduceCtorEq, Nat.reduceBEq, reduceSub, Int.reduceToNat, encEdge, encEdgeT, encI, encInts, encNode, encPair, encRow, encStrs, enc_T_A2_Int, enc_T_A3_Int, b1194, b2371, b2372, b2373, b2374, b2375, b2377, b2379]
                  all_goals ((repeat' apply And.intro) <;> rfl)
              · replace h := cond_f h b2377
                cases h
                try simp -implicitDefEqProofs only [go_sem, reduceEqDiff, reduceLT, reduceLeDiff, reduceMul, reduceAdd, reduceIte, reduceCtorEq, Nat.reduceBEq, reduceSub, Int.reduceToNat, encEdge, encEdgeT, encI, encInts, encNode, encPair, encRow, encStrs, enc_T_A2_Int, enc_T_A3_Int, b1194, b2371, b2372, b2373, b2374, b2375, b2377]
                all_goals ((repeat' apply And.intro) <;> rfl)
            · replace h := cond_f h b2375
              cases h
              try simp -implicitDefEqProofs only [go_sem, reduceEqDiff, reduceLT, reduceLeDiff, reduceMul, reduceAdd, reduceIte, reduceCtorEq, Nat.reduceBEq, reduceSub, Int.reduceToNat, encEdge, encEdgeT, encI, encInts, encNode, encPair, encRow, encStrs, enc_T_A2_Int, enc_T_A3_Int, b1194, b2371, b2372, b2373, b2374, b2375]
              all_goals ((repeat' apply And.intro) <;> rfl)
          · replace h := cond_f h b2374
            cases h
            try simp -implicitDefEqProofs only [go_sem, reduceEqDiff, reduceLT, reduceLeDiff, reduceMul, reduceAdd, reduceIte, reduceCtorEq, Nat.reduceBEq, reduceSub, Int.reduceToNat, encEdge, encEdgeT, encI, encInts, encNode, encPair, encRow, encStrs, enc_T_A2_Int, enc_T_A3_Int, b1194, b2371, b2372, b2373, b2374]
            all_goals ((repeat' apply And.intro) <;> rfl)
        · replace h := cond_f h b2373
          cases h
          try simp -implicitDefEqProofs only [go_sem, reduceEqDiff, reduceLT, reduceLeDiff, reduceMul, reduceAdd, reduceIte, reduceCtorEq, Nat.reduceBEq, reduceSub, Int.reduceToNat, encEdge, encEdgeT, encI, encInts, encNode, encPair, encRow, encStrs, enc_T_A2_Int, enc_T_A3_Int, b1194, b2371, b2372, b2373]
          all_goals ((repeat' apply And.intro) <;> rfl)
      · replace h := cond_f h b2372
        cases h
        try simp -implicitDefEqProofs only [go_sem, reduceEqDiff, reduceLT, reduceLeDiff, reduceMul, reduceAdd, reduceIte, reduceCtorEq, Nat.reduceBEq, reduceSub, Int.reduceToNat, encEdge, encEdgeT, encI, encInts, encNode, encPair, encRow, encStrs, enc_T_A2_Int, enc_T_A3_Int, b1194, b2371, b2372]
        all_goals ((repeat' apply And.intro) <;> rfl)
    · replace h := cond_f h b2371
      cases h
      try simp -implicitDefEqProofs only [go_sem, reduceEqDiff, reduceLT, reduceLeDiff, reduceMul, reduceAdd, reduceIte, reduceCtorEq, Nat.reduceBEq, reduceSub, Int.reduceToNat, encEdge, encEdgeT, encI, encInts, encNode, encPair, encRow, encStrs, enc_T_A2_Int, enc_T_A3_Int, b1194, b2371]
      all_goals ((repeat' apply And.intro) <;> rfl)
  · replace h := cond_f h b1194
    cases h
    try simp -implicitDefEqProofs only [go_sem, reduceEqDiff, reduceLT, reduceLeDiff, reduceMul, reduceAdd, reduceIte, reduceCtorEq, Nat.reduceBEq, reduceSub, Int.reduceToNat, encEdge, encEdgeT, encI, encInts, encNode, encPair, encRow, encStrs, enc_T_A2_Int, enc_T_A3_Int, b1194]
    all_goals ((repeat' apply And.intro) <;> rfl)

end
end Go.Proofs.YtdlohnchnneaeaaGreat
/- Parts of triples: plain law. -/
namespace Go.Proofs.YtdlohnchnneaeaaGreat
open Go.Abs

theorem sort_up {t : Types} {s : Sorts} (ht : OkT t) (hs : ∀ i, i < t.nodes.length → sortNE t s i = 0) (b : Int) : ∀ a : Nat, a < t.nodes.length → isB t a b = true → s.nodes.getD b.toNat default = s.nodes.getD a default := by
  intro a
  induction a using Nat.strongRecOn with
  | _ a ih =>
    intro ha hb
    rw [isB_succ (ht.par' ha), Bool.or_eq_true] at hb
    rcases hb with h | h
    · have : (a : Int) = b := of_decide_eq_true h
      subst this
      rw [Int.toNat_natCast]
    · have hq := ht.par a ha
      by_cases h0 : (t.nodes.getD a default).parent < 0
      · rw [isB_neg h0] at h; cases h
      obtain ⟨q, hqq⟩ : ∃ q : Nat, (t.nodes.getD a default).parent = q := ⟨_, (Int.toNat_of_nonneg (by omega)).symm⟩
      rw [hqq] at h hq
      rw [ih q (by omega) (by omega) h]
      have h1 := hs a ha
      unfold sortNE at h1
      split at h1
      · cases h1
      · split at h1
        · cases h1
        · rename_i h2
          rw [hqq, Int.toNat_natCast] at h2
          by_cases h3 : s.nodes.getD q default = s.nodes.getD a default
          · exact h3
          · exact absurd ⟨by omega, h3⟩ h2

structure VTr (s : Sorts) (h : Host) : Prop where
  ok : OkTr s h.graph
  vals : h.values.length = h.graph.nodes.length
  ends : ∀ i, i < h.graph.edges.length → ∀ k, k ≠ 2 → edgeS s h.graph i = k → nodeI s h.graph (h.graph.edges.getD i default).src = k ∧ nodeI s h.graph (h.graph.edges.getD i default).dst = k

theorem vTr {t : Types} {s : Sorts} {h : Host} (hf : FewT t) (hv : validTr t s h = 0) : VTr s h := by
  have ho := okTr hv
  unfold validTr at hv
  split at hv
  · rename_i h1; exact absurd hv h1
  rename_i h1
  have h1 : sortsE t s = 0 := by simpa using h1
  unfold sortsE at h1
  split at h1
  · rename_i h2; exact absurd h1 h2
  rename_i hvt
  have ht := okTypes hf (by simpa using hvt)
  split at h1
  · cases h1
  rename_i hl
  split at h1
  · rename_i h2; exact absurd h1 h2
  rename_i hN
  have hNs := firstE_zero (by simpa using hN : firstE (sortNE t s) 0 t.nodes.length = 0)
  have hEs := firstE_zero h1
  unfold validH at hv
  split at hv
  · rename_i h2; exact absurd hv h2
  split at hv
  · rename_i h2; exact absurd hv h2
  split at hv
  · cases hv
  rename_i hvl
  split at hv
  · rename_i k hk
    exact absurd hv (firstI_some hk)
  split at hv
  · rename_i k hk
    exact absurd hv (firstI_some hk)
  rename_i he
  refine ⟨ho, by omega, fun i hi k hk2 hk => ?_⟩
  have h3 := firstI_all he i hi
  unfold edgeH at h3
  split at h3
  · cases h3
  rename_i hty
  have hfit : fitsT t (h.graph.edges.getD i default).type (h.graph.nodes.getD (h.graph.edges.getD i default).src.toNat default) (h.graph.nodes.getD (h.graph.edges.getD i default).dst.toNat default) = true := by
    split at h3
    · assumption
    · cases h3
  unfold fitsT at hfit
  simp only [Bool.and_eq_true, decide_eq_true_eq] at hfit
  obtain ⟨hg, ⟨h4, h5⟩, h6, h7⟩ := hfit
  obtain ⟨q, hq⟩ : ∃ q : Nat, (h.graph.edges.getD i default).type = q := ⟨_, (Int.toNat_of_nonneg h4).symm⟩
  have hql : q < t.edges.length := by rw [hq] at h5; omega
  have h8 := hEs q hql
  have hkq : s.edges.getD q default = k := by
    have := hk
    unfold edgeS at this
    rw [hq, Int.toNat_natCast] at this
    exact this
  unfold sortEE at h8
  split at h8
  · cases h8
  split at h8
  · cases h8
  rename_i h9
  rw [hkq] at h9
  rw [hq, Int.toNat_natCast] at h6 h7
  have kinds : ∀ a : Int, a ∈ [h.graph.nodes.getD (h.graph.edges.getD i default).src.toNat default, h.graph.nodes.getD (h.graph.edges.getD i default).dst.toNat default] → inB t a = true := by
    unfold givenT at hg
    split at hg
    · rename_i h10; exact absurd hg h10
    split at hg
    · cases hg
    · rename_i h10
      intro a ha
      by_cases h11 : inB t a = true
      · exact h11
      · exact absurd (List.any_eq_true.2 ⟨a, ha, by simpa using h11⟩) h10
  have sorts : ∀ a b : Int, inB t a = true → isB t a b = true → s.nodes.getD a.toNat default = s.nodes.getD b.toNat default := by
    intro a b ha hb
    unfold inB at ha
    simp only [Bool.and_eq_true, decide_eq_true_eq] at ha
    obtain ⟨m, hm⟩ : ∃ m : Nat, a = m := ⟨_, (Int.toNat_of_nonneg ha.1).symm⟩
    subst hm
    rw [Int.toNat_natCast]
    exact (sort_up ht hNs b m (by omega) hb).symm
  have e1 := sorts _ _ (kinds _ (by simp)) h6
  have e2 := sorts _ _ (kinds _ (by simp)) h7
  refine ⟨?_, ?_⟩
  · unfold nodeI nodeS
    rw [e1]
    by_cases h10 : s.nodes.getD (t.edges.getD q default).src.toNat default = k
    · exact h10
    · exact absurd (.inl h10) h9
  · unfold nodeI nodeS
    rw [e2]
    by_cases h10 : s.nodes.getD (t.edges.getD q default).dst.toNat default = k
    · exact h10
    · exact absurd (.inr ⟨fun h => absurd h h10, fun h => absurd h hk2⟩) h9

structure Asc (l : List Int) (n : Nat) : Prop where
  range : ∀ i (h : i < l.length), 0 ≤ l[i] ∧ l[i] < (n : Int)
  asc : ∀ i j (h : i < j) (hj : j < l.length), l[i] < l[j]
structure PartOk (g : Graph) (p : Part) : Prop where
  nodes : Asc p.nodes g.nodes.length
  edges : Asc p.edges g.edges.length
  ends : ∀ e ∈ p.edges, (g.edges.getD e.toNat default).src ∈ p.nodes ∧ (g.edges.getD e.toNat default).dst ∈ p.nodes
  small : p.nodes.length ≤ 1000 ∧ p.edges.length ≤ 1000

theorem pick_asc (q : Nat → Bool) (n : Nat) : Asc (pick q n) n := by
  have hp : (pick q n).Pairwise (· < ·) := by
    unfold pick
    rw [List.pairwise_map]
    refine ((List.pairwise_lt_range).filter _).imp ?_
    intro a b h
    exact Int.ofNat_lt.2 h
  have hm : ∀ x ∈ pick q n, 0 ≤ x ∧ x < (n : Int) := by
    intro x hx
    unfold pick at hx
    obtain ⟨a, ha, rfl⟩ := List.mem_map.1 hx
    have := List.mem_range.1 (List.mem_filter.1 ha).1
    exact ⟨Int.natCast_nonneg _, Int.ofNat_lt.2 this⟩
  exact ⟨fun i h => hm _ (List.getElem_mem h), fun i j h hj => List.pairwise_iff_getElem.1 hp i j (by omega) hj h⟩
theorem partX_ok {s : Sorts} {h : Host} (hv : VTr s h) {k : Int} (hk : k ≠ 2) : PartOk h.graph (partX s h.graph k) := by
  refine ⟨pick_asc _ _, pick_asc _ _, fun e he => ?_, ?_⟩
  · have he' : e ∈ pick _ _ := he
    rw [mem_pick] at he'
    obtain ⟨i, hi, h1, rfl⟩ := he'
    rw [Int.toNat_natCast]
    obtain ⟨h2, h3⟩ := hv.ends i hi k hk (by simpa using h1)
    obtain ⟨h4, h5⟩ := ends_of hv.ok (getD_mem hi)
    exact ⟨mem_part.2 ⟨h4, h2⟩, mem_part.2 ⟨h5, h3⟩⟩
  · have h1 := pick_len (fun i => decide (nodeS s h.graph i = k)) h.graph.nodes.length
    have h2 := pick_len (fun i => decide (edgeS s h.graph i = k)) h.graph.edges.length
    have h3 := hv.ok.nodes
    have h4 := hv.ok.edges
    exact ⟨by show (pick _ _).length ≤ _; omega, by show (pick _ _).length ≤ _; omega⟩
theorem Asc.inj {l : List Int} {n : Nat} (h : Asc l n) {i j : Nat} (hi : i < l.length) (hj : j < l.length) (e : l[i] = l[j]) : i = j := by
  rcases Nat.lt_trichotomy i j with h1 | h1 | h1
  · have := h.asc i j h1 hj; omega
  · exact h1
  · have := h.asc j i h1 hi; omega
def posL (l : List Int) (x : Int) : Nat := l.idxOf x
theorem Asc.pos {l : List Int} {n : Nat} (h : Asc l n) {i : Nat} (hi : i < l.length) {x : Int} (e : l[i] = x) : posL l x = i := by
  have hm : x ∈ l := by rw [← e]; exact List.getElem_mem hi
  have h1 : posL l x < l.length := List.idxOf_lt_length_iff.2 hm
  exact h.inj h1 hi (by rw [e]; exact List.getElem_idxOf h1)
end Go.Proofs.YtdlohnchnneaeaaGreat
/- What the printed functions of subgraphs, parts and sides answer. -/
namespace Go.Proofs.YtdlohnchnneaeaaGreat
open Go.Abs

theorem l_subgraph_list {l : List Int} {n : Nat} (h : Asc l n) (hl : l.length ≤ 1000) : f_subgraph_list l (n : Int) = some 0 := by
  refine Ok.eq ?_
  unfold f_subgraph_list
  refine ok_chk (by unfold fuel; omega) ?_
  refine ok_forN (fun j _ => True) (Nat.zero_le _) trivial (fun j s nxt _ hj _ hn => ?_) (fun s _ => .mk rfl)
  have hr := h.range j hj
  refine ok_at hj ?_
  refine ok_f (decide_eq_false (by omega)) ?_
  refine ok_f (decide_eq_false (by omega)) ?_
  refine ok_cond (fun h0 => ?_) (fun _ => hn _ trivial)
  have h0' := of_decide_eq_true h0
  have hw : IntKind.i64.wrap ((j : Int) - 1) = ((j - 1 : Nat) : Int) := by rw [wrapI (by omega)]; omega
  rw [hw]
  refine ok_atZ (by omega) (by omega) ?_
  have := h.asc (j - 1) j (by omega) hj
  refine ok_f (decide_eq_false ?_) (hn _ trivial)
  simp only [Int.toNat_natCast]
  omega
theorem l_isNaN (a : Int) : f_cmp_isNaN_int a = some false := by simp [f_cmp_isNaN_int]
theorem l_less (a b : Int) : f_cmp_Less_int a b = some (decide (a < b)) := by
  refine Ok.eq ?_
  unfold f_cmp_Less_int
  refine ok_eq (l_isNaN a) ?_
  exact ok_f rfl (.mk rfl)
theorem half {m : Int} (h : 0 ≤ m ∧ m ≤ 4000000) : IntKind.i64.wrap ((IntKind.u64.wrap (IntKind.i64.wrap m)).fdiv (2 ^ 1)) = m / 2 := by
  rw [wrapI (n := m) (by omega), IntWalk.u64_in m (by omega)]
  have e : m.fdiv (2 ^ 1) = m / 2 := by
    rw [Int.fdiv_eq_ediv_of_nonneg _ (by decide)]
    rfl
  rw [e, wrapI (by omega)]
theorem l_search {l : List Int} {n : Nat} (h : Asc l n) (hl : l.length ≤ 1000) {x : Int} (hx : x ∈ l) : f_slices_BinarySearch_int l x = some ((posL l x : Int), true) := by
  refine Ok.eq ?_
  obtain ⟨q, hq, hqx⟩ := List.mem_iff_getElem.1 hx
  unfold f_slices_BinarySearch_int
  refine ok_iter (fun s : Int × Int => 0 ≤ s.1 ∧ s.1 ≤ q ∧ (q : Int) ≤ s.2 ∧ s.2 ≤ l.length) (fun s : Int × Int => (s.2 - s.1).toNat) ⟨by simp, by simp, by simp; omega, by simp⟩ (by unfold fuel; simp; omega) ?_
  rintro ⟨i, j⟩ nxt ⟨h1, h2, h3, h4⟩ hn
  simp only at h1 h2 h3 h4 hn ⊢
  refine ok_cond (fun hc => ?_) (fun hc => ?_)
  · have hc' := of_decide_eq_true hc
    rw [half (by omega)]
    have b1 : i ≤ (i + j) / 2 := by omega
    have b2 : (i + j) / 2 < j := by omega
    refine ok_atZ (by omega) (by omega) ?_
    refine ok_eq (l_less _ _) ?_
    refine ok_cond (fun hd => ?_) (fun hd => ?_)
    · have hd' := of_decide_eq_true hd
      have : ((i + j) / 2).toNat < q := by
        rcases Nat.lt_trichotomy ((i + j) / 2).toNat q with h5 | h5 | h5
        · exact h5
        · subst h5; omega
        · have := h.asc q _ h5 (by omega); omega
      rw [wrapI (by omega)]
      exact hn _ ⟨by simp only; omega, by simp only; omega, h3, h4⟩ (by simp only; omega)
    · have hd' := of_decide_eq_false hd
      have : q ≤ ((i + j) / 2).toNat := by
        rcases Nat.lt_or_ge ((i + j) / 2).toNat q with h5 | h5
        · have := h.asc _ q h5 hq; omega
        · exact h5
      exact hn _ ⟨h1, h2, by simp only; omega, by simp only; omega⟩ (by simp only; omega)
  · have hc' := of_decide_eq_false hc
    have hi : i = q := by omega
    subst hi
    refine ok_t (decide_eq_true (by omega)) ?_
    refine ok_atZ (by omega) (by simpa using hq) ?_
    refine ok_t (decide_eq_true (by simpa using hqx)) ?_
    refine .mk ?_
    rw [h.pos hq hqx]
theorem l_has {l : List Int} {n : Nat} (h : Asc l n) (hl : l.length ≤ 1000) {x : Int} (hx : x ∈ l) : f_subgraph_has l x = some true := by
  refine Ok.eq ?_
  unfold f_subgraph_has
  exact ok_eq (l_search h hl hx) (.mk rfl)
theorem edge_at {g : Graph} {p : Part} (h : PartOk g p) {j : Nat} (hj : j < p.edges.length) : ∃ hi : p.edges[j].toNat < g.edges.length, 0 ≤ p.edges[j] ∧ (g.edges[p.edges[j].toNat]).src ∈ p.nodes ∧ (g.edges[p.edges[j].toNat]).dst ∈ p.nodes := by
  have hr := h.edges.range j hj
  have hi : p.edges[j].toNat < g.edges.length := by omega
  refine ⟨hi, hr.1, ?_⟩
  have := h.ends _ (List.getElem_mem hj)
  have e : g.edges.getD p.edges[j].toNat default = g.edges[p.edges[j].toNat] := by simp [hi]
  rw [e] at this
  exact this
theorem l_subgraph_part {g : Graph} {p : Part} (h : PartOk g p) : f_subgraph_part g p = some 0 := by
  have hs := h.small
  refine Ok.eq ?_
  unfold f_subgraph_part
  refine ok_eq (l_subgraph_list h.nodes hs.1) ?_
  refine ok_t rfl ?_
  refine ok_eq (l_subgraph_list h.edges hs.2) ?_
  refine ok_t rfl ?_
  refine ok_chk (by unfold fuel; omega) ?_
  refine ok_forN (fun j _ => True) (Nat.zero_le _) trivial (fun j s nxt _ hj _ hn => ?_) (fun s _ => .mk rfl)
  obtain ⟨hi, h0, h1, h2⟩ := edge_at h hj
  refine ok_at hj ?_
  refine ok_atZ h0 hi ?_
  refine ok_eq (l_has h.nodes hs.1 h1) ?_
  refine ok_t rfl ?_
  refine ok_eq (l_has h.nodes hs.1 h2) ?_
  exact ok_t rfl (hn _ trivial)
end Go.Proofs.YtdlohnchnneaeaaGreat
/- Sides: both functions answer alike. -/
namespace Go.Proofs.YtdlohnchnneaeaaGreat
open Go.Abs

def extG (g : Graph) (p : Part) : Graph := ⟨p.nodes.map (fun n => g.nodes.getD n.toNat default), p.edges.map (fun n => ⟨(g.edges.getD n.toNat default).type, posL p.nodes (g.edges.getD n.toNat default).src, posL p.nodes (g.edges.getD n.toNat default).dst⟩)⟩
def extH (h : Host) (p : Part) : Host := ⟨extG h.graph p, p.nodes.map (fun n => h.values.getD n.toNat default)⟩
theorem node_at {g : Graph} {p : Part} (h : PartOk g p) {j : Nat} (hj : j < p.nodes.length) : ∃ _ : p.nodes[j].toNat < g.nodes.length, 0 ≤ p.nodes[j] := by
  have hr := h.nodes.range j hj
  exact ⟨by omega, hr.1⟩

theorem l_subgraph_Valid {g : Graph} (hf : FewG g) (hv : validG g = 0) {p : Part} (h : PartOk g p) : f_subgraph_Valid g p = some 0 := by
  refine Ok.eq ?_
  unfold f_subgraph_Valid
  refine ok_eq (r := validG g) (giv_t hf) ?_
  refine ok_t (decide_eq_true hv) ?_
  exact ok_eq (l_subgraph_part h) (.mk rfl)
theorem l_clone {l : List Int} (hl : l.length ≤ 1000000) : f_slices_Clone_int l = some l := giv_t hl

theorem l_subgraph_Extract {g : Graph} (hf : FewG g) (hv : validG g = 0) {p : Part} (h : PartOk g p) : f_subgraph_Extract g p = some (extG g p, ⟨p.nodes, p.edges⟩, 0) := by
  have hs := h.small
  refine Ok.eq ?_
  unfold f_subgraph_Extract
  refine ok_eq (l_subgraph_Valid hf hv h) ?_
  refine ok_t rfl ?_
  refine ok_chk (by unfold fuel; omega) ?_
  refine ok_map p.nodes (fun n => g.nodes.getD n.toNat default) (fun j s nxt hj hsl hn => ?_) ?_
  · obtain ⟨hi, h0⟩ := node_at h hj
    refine ok_at hj ?_
    refine ok_atZ h0 hi ?_
    refine ok_chk (by omega) ?_
    have e : g.nodes.getD p.nodes[j].toNat default = g.nodes[p.nodes[j].toNat] := by simp [hi]
    rw [e] at hn
    exact hn
  refine ok_chk (by unfold fuel; omega) ?_
  refine ok_map p.edges (fun n => (⟨(g.edges.getD n.toNat default).type, posL p.nodes (g.edges.getD n.toNat default).src, posL p.nodes (g.edges.getD n.toNat default).dst⟩ : Edge)) (fun j s nxt hj hsl hn => ?_) ?_
  · obtain ⟨hi, h0, h1, h2⟩ := edge_at h hj
    refine ok_at hj ?_
    refine ok_atZ h0 hi ?_
    refine ok_eq (l_search h.nodes hs.1 h1) ?_
    refine ok_eq (l_search h.nodes hs.1 h2) ?_
    refine ok_chk (by omega) ?_
    have e : g.edges.getD p.edges[j].toNat default = g.edges[p.edges[j].toNat] := by simp [hi]
    rw [e] at hn
    exact hn
  refine ok_eq (l_clone (by omega)) ?_
  refine ok_eq (l_clone (by omega)) ?_
  exact .mk rfl
theorem validTr_parts {t : Types} {s : Sorts} {h : Host} (hv : validTr t s h = 0) : (validH t h).2 = 0 ∧ validG h.graph = 0 := by
  unfold validTr at hv
  split at hv
  · rename_i h1; exact absurd hv h1
  refine ⟨hv, ?_⟩
  unfold validH at hv
  split at hv
  · rename_i h2; exact absurd hv h2
  split at hv
  · rename_i h2; exact absurd hv h2
  · rename_i h2; simpa using h2

theorem l_host_Extract {t : Types} (hf : FewT t) {s : Sorts} {h : Host} (hh : FewH h) (hv : validTr t s h = 0) {p : Part} (hp : PartOk h.graph p) : f_host_Extract t h p = some (extH h p, 0) := by
  have hs := hp.small
  obtain ⟨h1, h2⟩ := validTr_parts hv
  have hvt := vTr hf hv
  refine Ok.eq ?_
  unfold f_host_Extract
  have hv0 : f_host_valid t h = some 0 := by
    refine Ok.eq ?_
    unfold f_host_valid
    exact ok_eq (r := validH t h) (giv_t ⟨hf, hh⟩) (.mk h1)
  refine ok_eq hv0 ?_
  refine ok_t rfl ?_
  refine ok_eq (l_subgraph_Extract hh.graph h2 hp) ?_
  refine ok_t rfl ?_
  refine ok_chk (by unfold fuel; omega) ?_
  refine ok_map p.nodes (fun n => h.values.getD n.toNat default) (fun j s nxt hj hsl hn => ?_) (.mk rfl)
  obtain ⟨hi, h0⟩ := node_at hp hj
  have hi' : p.nodes[j].toNat < h.values.length := by rw [hvt.vals]; exact hi
  refine ok_at hj ?_
  refine ok_atZ h0 hi' ?_
  refine ok_eq (l_clone (by have := hh.row _ (List.getElem_mem hi'); omega)) ?_
  refine ok_chk (by omega) ?_
  have e : h.values.getD p.nodes[j].toNat default = h.values[p.nodes[j].toNat] := by simp [hi']
  rw [e] at hn
  exact hn
theorem l_triple_part {s : Sorts} {g : Graph} (ho : OkTr s g) (k : Int) : f_triple_part s g k = some (partX s g k) := by
  have hgn := ho.nodes
  have hge := ho.edges
  refine Ok.eq ?_
  unfold f_triple_part
  refine ok_chk (by unfold fuel; omega) ?_
  refine ok_forN (fun j o => o = pick (fun i => decide (nodeS s g i = k)) j) (Nat.zero_le _) rfl (fun j o nxt _ hj e hn => ?_) (fun o e => ?_)
  · subst e
    have hP := pick_succ (fun i => decide (nodeS s g i = k)) j
    have hL := pick_len (fun i => decide (nodeS s g i = k)) j
    have hk := ho.kind j hj
    have e1 : g.nodes.getD j default = g.nodes[j] := by simp [hj]
    rw [e1] at hk
    have e2 : s.nodes[g.nodes[j].toNat]'(by have := hk.2; have := hk.1; omega) = nodeS s g j := by unfold nodeS; rw [e1]; have := hk.2; have := hk.1; simp [show g.nodes[j].toNat < s.nodes.length by omega]
    refine ok_at hj ?_
    refine ok_atZ hk.1 (by have := hk.2; have := hk.1; omega) ?_
    rw [e2]
    refine ok_cond (fun h1 => ?_) (fun h1 => ?_)
    · rw [if_pos h1] at hP
      refine ok_chk (by omega) ?_
      exact hn _ hP.symm
    · rw [if_neg (by rw [h1]; decide)] at hP
      exact hn _ hP.symm
  subst e
  refine ok_chk (by unfold fuel; omega) ?_
  refine ok_forN (fun j o => o = pick (fun i => decide (edgeS s g i = k)) j) (Nat.zero_le _) rfl (fun j o nxt _ hj e hn => ?_) (fun o e => by subst e; exact .mk rfl)
  subst e
  have hP := pick_succ (fun i => decide (edgeS s g i = k)) j
  have hL := pick_len (fun i => decide (edgeS s g i = k)) j
  have hk := ho.type j hj
  have e1 : g.edges.getD j default = g.edges[j] := by simp [hj]
  rw [e1] at hk
  have e2 : s.edges[g.edges[j].type.toNat]'(by have := hk.2; have := hk.1; omega) = edgeS s g j := by unfold edgeS; rw [e1]; have := hk.2; have := hk.1; simp [show g.edges[j].type.toNat < s.edges.length by omega]
  refine ok_at hj ?_
  refine ok_atZ hk.1 (by have := hk.2; have := hk.1; omega) ?_
  rw [e2]
  refine ok_cond (fun h1 => ?_) (fun h1 => ?_)
  · rw [if_pos h1] at hP
    refine ok_chk (by omega) ?_
    exact hn _ hP.symm
  · rw [if_neg (by rw [h1]; decide)] at hP
    exact hn _ hP.symm

def sideX (t : Types) (s : Sorts) (h : Host) (k : Int) : Host × Part × Int :=
  if validTr t s h ≠ 0 then (⟨⟨[], []⟩, []⟩, ⟨[], []⟩, validTr t s h)
  else if k = 1 ∨ k = 3 then (extH h (partX s h.graph k), partX s h.graph k, 0) else (⟨⟨[], []⟩, []⟩, ⟨[], []⟩, 6)
theorem l_triple_Side {t : Types} (hf : FewT t) {s : Sorts} (hs : FewS s) {h : Host} (hh : FewH h) (k : Int) : f_triple_Side t s h k = some (sideX t s h k) := by
  refine Ok.eq ?_
  unfold f_triple_Side sideX
  refine ok_eq (r := validTr t s h) (giv_t ⟨hf, hs, hh⟩) ?_
  refine ok_cond (fun hc => ?_) (fun hc => .mk ?_)
  · have hv := of_decide_eq_true hc
    have hvt := vTr hf hv
    rw [if_neg (by rw [hv]; decide)]
    refine ok_cond (fun h1 => ?_) (fun h1 => ok_cond (fun h3 => ?_) (fun h3 => .mk ?_))
    · have h1' := of_decide_eq_true h1
      rw [if_pos (.inl h1')]
      refine ok_eq (l_triple_part hvt.ok k) ?_
      refine ok_eq (l_host_Extract hf hh hv (partX_ok hvt (by omega))) ?_
      exact ok_t rfl (.mk rfl)
    · have h3' := of_decide_eq_true h3
      rw [if_pos (.inr h3')]
      refine ok_eq (l_triple_part hvt.ok k) ?_
      refine ok_eq (l_host_Extract hf hh hv (partX_ok hvt (by omega))) ?_
      exact ok_t rfl (.mk rfl)
    · rw [if_neg (by have := of_decide_eq_false h1; have := of_decide_eq_false h3; omega)]
  · rw [if_pos (of_decide_eq_false hc)]
end Go.Proofs.YtdlohnchnneaeaaGreat
/- Small arguments; equal values; TripleSide. -/
namespace Go.Proofs.YtdlohnchnneaeaaGreat
open Go.Abs

theorem ok_all {α O : Type} {Q : O → Prop} {f : Nat → Unit → (Unit → Option O) → (Unit → Option O) → Option O} {K : Unit → Option O} (l : List α) (p : α → Prop)
    (hr : ∀ j (nxt : Unit → Option O) (hj : j < l.length), (p l[j] → Ok (nxt ()) Q) → Ok (f j () nxt K) Q) (he : (∀ x ∈ l, p x) → Ok (K ()) Q) : Ok (forN f (l.length - 0) 0 () K) Q := by
  refine ok_forN (fun j _ => ∀ i (h : i < l.length), i < j → p l[i]) (Nat.zero_le _) (fun i _ h => absurd h (Nat.not_lt_zero i)) (fun j s nxt _ hj hq hn => ?_) (fun s hq => ?_)
  · refine hr j nxt hj fun hp => hn () fun i h hi => ?_
    rcases Nat.lt_succ_iff_lt_or_eq.1 hi with h' | h'
    · exact hq i h h'
    · subst h'; exact hp
  · refine he fun x hx => ?_
    obtain ⟨i, hi, rfl⟩ := List.mem_iff_getElem.1 hx
    exact hq i hi hi

theorem l_sameInts {a : List Int} (h : a.length ≤ 1000000) : f_scarfjointref05_SameInts a a = some true := by
  refine Ok.eq ?_
  unfold f_scarfjointref05_SameInts
  refine ok_t (decide_eq_true rfl) ?_
  refine ok_chk (by unfold fuel; omega) ?_
  refine ok_all a (fun _ => True) (fun i nxt hi hn => ?_) (fun _ => .mk rfl)
  refine ok_at hi ?_
  refine ok_at hi ?_
  exact ok_t (decide_eq_true rfl) (hn trivial)
theorem l_sameG {g : Graph} (h : g.nodes.length ≤ 1000000 ∧ g.edges.length ≤ 1000000) : f_scarfjointref05_Same g g = some true := by
  refine Ok.eq ?_
  unfold f_scarfjointref05_Same
  refine ok_eq (l_sameInts h.1) ?_
  refine ok_t rfl ?_
  refine ok_t (decide_eq_true rfl) ?_
  refine ok_chk (by unfold fuel; omega) ?_
  refine ok_all g.edges (fun _ => True) (fun i nxt hi hn => ?_) (fun _ => .mk rfl)
  refine ok_at hi ?_
  refine ok_at hi ?_
  exact ok_t (by simp) (hn trivial)
theorem l_compare {a : List Int} (h : a.length ≤ 1000000) : f_scarfjointref15_compare a a = some 0 := by
  refine Ok.eq ?_
  unfold f_scarfjointref15_compare
  refine ok_iter (fun s : Int => 0 ≤ s ∧ s ≤ a.length) (fun s : Int => ((a.length : Int) - s).toNat) ⟨by simp, by simp⟩ (by unfold fuel; simp; omega) (fun s nxt hs hn => ?_)
  refine ok_cond (fun h1 => ?_) (fun h1 => .mk ?_)
  · have h1' := of_decide_eq_true h1
    refine ok_t h1 ?_
    refine ok_atZ hs.1 (by omega) ?_
    refine ok_atZ hs.1 (by omega) ?_
    refine ok_t (decide_eq_true rfl) ?_
    rw [wrapI (by omega)]
    exact hn _ ⟨by omega, by omega⟩ (by omega)
  · rw [Int.sub_self]; rfl
theorem l_sameH {h : Host} (h1 : h.graph.nodes.length ≤ 1000000 ∧ h.graph.edges.length ≤ 1000000) (h2 : h.values.length ≤ 1000000) (h3 : ∀ l ∈ h.values, l.length ≤ 1000000) : f_scarfjointref15_Same h h = some true := by
  refine Ok.eq ?_
  unfold f_scarfjointref15_Same
  refine ok_eq (l_sameG h1) ?_
  refine ok_t rfl ?_
  refine ok_t (decide_eq_true rfl) ?_
  refine ok_chk (by unfold fuel; omega) ?_
  refine ok_all h.values (fun _ => True) (fun i nxt hi hn => ?_) (fun _ => .mk rfl)
  refine ok_at hi ?_
  refine ok_at hi ?_
  refine ok_eq (l_compare (h3 _ (List.getElem_mem hi))) ?_
  exact ok_t rfl (hn trivial)
theorem l_sameP {p : Part} (h : p.nodes.length ≤ 1000000 ∧ p.edges.length ≤ 1000000) : f_scarfjointref07_Same p p = some true := by
  refine Ok.eq ?_
  unfold f_scarfjointref07_Same
  refine ok_eq (l_sameInts h.1) ?_
  refine ok_t rfl ?_
  exact ok_eq (l_sameInts h.2) (.mk rfl)

theorem sideX_small {t : Types} (hf : FewT t) {s : Sorts} {h : Host} (hh : FewH h) (k : Int) :
    ((sideX t s h k).1.graph.nodes.length ≤ 1000000 ∧ (sideX t s h k).1.graph.edges.length ≤ 1000000) ∧ (sideX t s h k).1.values.length ≤ 1000000 ∧ (∀ l ∈ (sideX t s h k).1.values, l.length ≤ 1000000) ∧
    ((sideX t s h k).2.1.nodes.length ≤ 1000000 ∧ (sideX t s h k).2.1.edges.length ≤ 1000000) := by
  unfold sideX
  split
  · simp
  rename_i hv
  split
  · have hvt := vTr hf (by simpa using hv)
    rename_i hk
    have hp := (partX_ok hvt (k := k) (by omega)).small
    refine ⟨⟨?_, ?_⟩, ?_, ?_, by dsimp only; omega, by dsimp only; omega⟩
    · show (List.map _ _).length ≤ _; rw [List.length_map]; omega
    · show (List.map _ _).length ≤ _; rw [List.length_map]; omega
    · show (List.map _ _).length ≤ _; rw [List.length_map]; omega
    · intro l hl
      have hl' : l ∈ List.map _ _ := hl
      obtain ⟨n, hn, rfl⟩ := List.mem_map.1 hl'
      by_cases h0 : n.toNat < h.values.length
      · have := hh.row _ (getD_mem (a := n.toNat) h0)
        omega
      · have : h.values.getD n.toNat default = [] := by simp [Nat.le_of_not_lt h0]; rfl
        rw [this]; simp
  · simp

end Go.Proofs.YtdlohnchnneaeaaGreat
/- Loops with an end of their own. Program-independent. -/
namespace Go.Abs
section
variable {σ O α : Type} {Q : O → Prop}
theorem ok_iterB {f : σ → (σ → Option O) → (σ → Option O) → Option O} {K : σ → Option O} (φ ψ : σ → Prop) (μ : σ → Nat) {n : Nat} {s : σ} (h0 : φ s) (hm : μ s < n)
    (hr : ∀ s (nxt brk : σ → Option O), φ s → (∀ s', φ s' → μ s' < μ s → Ok (nxt s') Q) → (∀ s', ψ s' → Ok (brk s') Q) → Ok (f s nxt brk) Q) (he : ∀ s, ψ s → Ok (K s) Q) : Ok (iter f n s K) Q :=
  ok_iter φ μ h0 hm fun s nxt hs hn => hr s nxt K hs hn he
end
end Go.Abs
/- Drafts over the example's types: what they make. -/
namespace Go.Proofs.YtdlohnchnneaeaaGreat
open Go.Abs

theorem ex_concrete : f_scarfjointref15_concrete exT = some [0, 1, 2, 3, 4] := by kernel_rfl
theorem ex_validT : (validT exT).2 = 0 := by kernel_rfl
theorem ex_given {a b : Int} (ha : 0 ≤ a ∧ a < 5) (hb : 0 ≤ b ∧ b < 5) : f_scarfjointref04_given exT a b = some 0 := by
  have e5 : IntKind.i64.wrap (((exT.nodes.length : Nat) : Int) - 1) = 4 := by decide
  have hin : ∀ c : Int, 0 ≤ c ∧ c < 5 → f_scarfjointref04_in c 0 4 = some true := fun c hc => by
    unfold f_scarfjointref04_in
    rw [decide_eq_true hc.1, decide_eq_true (by omega : c ≤ 4)]
    rfl
  refine Ok.eq ?_
  unfold f_scarfjointref04_given
  refine ok_eq (r := validT exT) (giv_t exFew.1) ?_
  refine ok_t (decide_eq_true ex_validT) ?_
  rw [e5]
  refine ok_eq (hin a ha) ?_
  refine ok_t rfl ?_
  refine ok_eq (hin b hb) ?_
  exact ok_t rfl (.mk rfl)
theorem ex_attrs0 : f_scarfjointref04_attrs fuel exT 0 = some [] := by kernel_rfl
theorem ex_attrs1 : f_scarfjointref04_attrs fuel exT 1 = some [] := by kernel_rfl
theorem ex_attrs2 : f_scarfjointref04_attrs fuel exT 2 = some [] := by kernel_rfl
theorem ex_attrs3 : f_scarfjointref04_attrs fuel exT 3 = some [] := by kernel_rfl
theorem ex_attrs4 : f_scarfjointref04_attrs fuel exT 4 = some [] := by kernel_rfl
theorem five {a : Int} (h : 0 ≤ a ∧ a < 5) : a = 0 ∨ a = 1 ∨ a = 2 ∨ a = 3 ∨ a = 4 := by omega
theorem six {a : Int} (h : 0 ≤ a ∧ a < 6) : a = 0 ∨ a = 1 ∨ a = 2 ∨ a = 3 ∨ a = 4 ∨ a = 5 := by omega
theorem ex_attrs {a : Int} (h : 0 ≤ a ∧ a < 5) : f_scarfjointref04_attrs fuel exT a = some [] := by
  rcases five h with rfl | rfl | rfl | rfl | rfl
  · exact ex_attrs0
  · exact ex_attrs1
  · exact ex_attrs2
  · exact ex_attrs3
  · exact ex_attrs4
theorem ex_Attrs {a : Int} (h : 0 ≤ a ∧ a < 5) : f_scarfjointref04_Attrs exT a = some ([], 0) := by
  refine Ok.eq ?_
  unfold f_scarfjointref04_Attrs
  refine ok_eq (ex_given h h) ?_
  refine ok_t rfl ?_
  refine ok_eq (ex_attrs h) ?_
  refine ok_chk (Nat.zero_le _) ?_
  exact .mk rfl
theorem ex_node {a : Int} (h : 0 ≤ a ∧ a < 5) : ∃ x, atZ exT.nodes a = some x ∧ x.parent = -1 ∧ x.attrs = [] ∧ x.abs = false := by
  rcases five h with rfl | rfl | rfl | rfl | rfl <;> exact ⟨_, rfl, rfl, rfl, rfl⟩
theorem ex_below (n : Nat) {a c : Int} (ha : 0 ≤ a ∧ a < 5) (hc : 0 ≤ c) : f_scarfjointref04_Below1 (n + 2) exT a c = some (decide (a = c)) := by
  obtain ⟨x, h1, h2, _⟩ := ex_node ha
  refine Ok.eq ?_
  unfold f_scarfjointref04_Below1
  refine ok_cond (fun h => .mk (by rw [h])) (fun h => ?_)
  refine ok_t (decide_eq_true ha.1) ?_
  refine ok_eq h1 ?_
  rw [h2]
  refine ok_eq (r := false) ?_ (.mk h.symm)
  unfold f_scarfjointref04_Below1
  rw [decide_eq_false (by omega : ¬ (-1 : Int) = c)]
  rfl
def exSrc (e : Int) : Int := (exT.edges.getD e.toNat default).src
def exDst (e : Int) : Int := (exT.edges.getD e.toNat default).dst
theorem ex_edge {e : Int} (h : 0 ≤ e ∧ e < 6) : ∃ x, atZ exT.edges e = some x ∧ x.src = exSrc e ∧ x.dst = exDst e ∧ 0 ≤ exSrc e ∧ 0 ≤ exDst e := by
  rcases six h with rfl | rfl | rfl | rfl | rfl | rfl <;> exact ⟨_, rfl, rfl, rfl, by decide, by decide⟩
theorem ex_fits {e a b : Int} (he : 0 ≤ e ∧ e < 6) (ha : 0 ≤ a ∧ a < 5) (hb : 0 ≤ b ∧ b < 5) : f_scarfjointref04_Fits exT e a b = some (decide (a = exSrc e) && decide (b = exDst e)) := by
  have e5 : IntKind.i64.wrap (((exT.edges.length : Nat) : Int) - 1) = 5 := by decide
  obtain ⟨x, h1, h2, h3, h4, h5⟩ := ex_edge he
  refine Ok.eq ?_
  unfold f_scarfjointref04_Fits
  refine ok_eq (ex_given ha hb) ?_
  refine ok_t rfl ?_
  rw [e5]
  refine ok_eq (r := true) ?_ ?_
  · unfold f_scarfjointref04_in
    rw [decide_eq_true he.1, decide_eq_true (by omega : e ≤ 5)]
    rfl
  refine ok_t rfl ?_
  refine ok_eq h1 ?_
  refine ok_eq (r := decide (a = exSrc e)) (by rw [h2]; exact ex_below _ ha h4) ?_
  refine ok_cond (fun k1 => ?_) (fun k1 => .mk (by rw [k1]; rfl))
  refine ok_eq (r := decide (b = exDst e)) (by rw [h3]; exact ex_below _ hb h5) (.mk ?_)
  rw [k1]
  rfl

structure ExH (h : Host) : Prop where
  nodes : h.graph.nodes.length ≤ 8
  edges : h.graph.edges.length ≤ 10
  kind : ∀ n ∈ h.graph.nodes, 0 ≤ n ∧ n < 5
  vals : h.values = h.graph.nodes.map fun _ => []
  edge : ∀ x ∈ h.graph.edges, (0 ≤ x.type ∧ x.type < 6) ∧ (0 ≤ x.src ∧ x.src < h.graph.nodes.length) ∧ (0 ≤ x.dst ∧ x.dst < h.graph.nodes.length) ∧ h.graph.nodes.getD x.src.toNat default = exSrc x.type ∧ h.graph.nodes.getD x.dst.toNat default = exDst x.type
def OkDraft (d : T_scarfjointref15_Draft) : Prop := (∀ x ∈ d.nodes, (0 ≤ x.x0 ∧ x.x0 ≤ 255) ∧ (0 ≤ x.x1 ∧ x.x1 ≤ 255)) ∧ (∀ x ∈ d.edges, (0 ≤ x.x0 ∧ x.x0 ≤ 255) ∧ (0 ≤ x.x1 ∧ x.x1 ≤ 255) ∧ (0 ≤ x.x2 ∧ x.x2 ≤ 255))
theorem tmodB {a b : Int} (ha : 0 ≤ a) (hb : 0 < b) : 0 ≤ a.tmod b ∧ a.tmod b < b := ⟨Int.tmod_nonneg _ ha, Int.tmod_lt_of_pos _ hb⟩

theorem made_ok (d : T_scarfjointref15_Draft) (hd : OkDraft d) : Ok (f_scarfjointref15_Made exT d) ExH := by
  unfold f_scarfjointref15_Made
  refine ok_eq ex_concrete ?_
  refine ok_iterB (fun s : Int × List Int × List (List Int) => s.1 = s.2.1.length ∧ s.2.1.length ≤ 8 ∧ s.2.2 = s.2.1.map (fun _ => []) ∧ ∀ n ∈ s.2.1, 0 ≤ n ∧ n < 5)
    (fun s => s.2.1.length ≤ 8 ∧ s.2.2 = s.2.1.map (fun _ => []) ∧ ∀ n ∈ s.2.1, 0 ≤ n ∧ n < 5) (fun s => 8 - s.2.1.length) ⟨rfl, by decide, rfl, by simp⟩ (by unfold fuel; simp) ?_ ?_
  · rintro ⟨i, ns, vs⟩ nxt brk ⟨h1, h2, h3, h4⟩ hn hb
    dsimp only at h1 h2 h3 h4 hn hb ⊢
    refine ok_cond (fun c1 => ?_) (fun _ => hb _ ⟨h2, h3, h4⟩)
    refine ok_cond (fun c2 => ?_) (fun _ => hb _ ⟨h2, h3, h4⟩)
    refine ok_t rfl ?_
    have c1 := of_decide_eq_true c1
    have c2 := of_decide_eq_true c2
    have hi : i.toNat < d.nodes.length := by omega
    refine ok_atZ (by omega) hi ?_
    obtain ⟨k1, _⟩ := hd.1 _ (List.getElem_mem hi)
    refine ok_chk (by decide) ?_
    rw [wrapI (by omega)]
    have hm := tmodB (b := 5) k1.1 (by decide)
    have hm2 : (0 ≤ (d.nodes[i.toNat].x0).tmod 5 ∧ (d.nodes[i.toNat].x0).tmod 5 < 5) := hm
    obtain ⟨kind, hk1, hk2⟩ : ∃ kind : Int, atZ ([0, 1, 2, 3, 4] : List Int) ((d.nodes[i.toNat].x0).tmod 5) = some kind ∧ 0 ≤ kind ∧ kind < 5 := by
      rcases five hm2 with e | e | e | e | e <;> rw [e] <;> exact ⟨_, rfl, by decide, by decide⟩
    refine ok_eq (r := kind) hk1 ?_
    refine ok_eq (ex_Attrs hk2) ?_
    refine ok_chk (Nat.zero_le _) ?_
    show Ok (chk (ns.length + 1 ≤ 68719476736) _) _
    refine ok_chk (by omega) ?_
    have hl : vs.length = ns.length := by rw [h3, List.length_map]
    refine ok_chk (by rw [hl]; omega) ?_
    rw [wrapI (by omega)]
    refine hn _ ⟨by simp [h1], by simp; omega, by simp [h3], fun n hn' => ?_⟩ (by simp; omega)
    rcases List.mem_append.1 hn' with h | h
    · exact h4 n h
    · simp at h; subst h; exact hk2
  · rintro ⟨i, ns, vs⟩ ⟨h2, h3, h4⟩
    dsimp only at h2 h3 h4 ⊢
    refine ok_iterB (fun s : Int × List Edge => (0 ≤ s.1 ∧ s.1 ≤ 10 ∧ s.2.length ≤ s.1) ∧ ∀ x ∈ s.2, (0 ≤ x.type ∧ x.type < 6) ∧ (0 ≤ x.src ∧ x.src < ns.length) ∧ (0 ≤ x.dst ∧ x.dst < ns.length) ∧ ns.getD x.src.toNat default = exSrc x.type ∧ ns.getD x.dst.toNat default = exDst x.type)
      (fun s => s.2.length ≤ 10 ∧ ∀ x ∈ s.2, (0 ≤ x.type ∧ x.type < 6) ∧ (0 ≤ x.src ∧ x.src < ns.length) ∧ (0 ≤ x.dst ∧ x.dst < ns.length) ∧ ns.getD x.src.toNat default = exSrc x.type ∧ ns.getD x.dst.toNat default = exDst x.type)
      (fun s => (10 - s.1).toNat) ⟨by simp, by simp⟩ (by unfold fuel; simp) ?_ ?_
    · rintro ⟨j, es⟩ nxt brk ⟨g1, g2⟩ hn hb
      dsimp only at g1 g2 hn hb ⊢
      refine ok_cond (fun c1 => ?_) (fun _ => hb _ ⟨by simp only; omega, g2⟩)
      refine ok_cond (fun c2 => ?_) (fun _ => hb _ ⟨by simp only; omega, g2⟩)
      refine ok_cond (fun c3 => ?_) (fun _ => hb _ ⟨by simp only; omega, g2⟩)
      refine ok_t rfl ?_
      have c1 := of_decide_eq_true c1
      have c2 := of_decide_eq_true c2
      have c3 := of_decide_eq_true c3
      have hj : j.toNat < d.edges.length := by omega
      refine ok_atZ g1.1 hj ?_
      obtain ⟨q0, q1, q2⟩ := hd.2 _ (List.getElem_mem hj)
      refine ok_chk (by decide) ?_
      refine ok_chk (by omega) ?_
      refine ok_chk (by omega) ?_
      rw [wrapI (by omega), wrapI (by omega), wrapI (by omega)]
      have m0 := tmodB (b := 6) q0.1 (by decide)
      have m1 := tmodB (b := (ns.length : Int)) q1.1 c3
      have m2 := tmodB (b := (ns.length : Int)) q2.1 c3
      refine ok_atZ m1.1 (by omega) ?_
      refine ok_atZ m2.1 (by omega) ?_
      refine ok_eq (ex_fits m0 (h4 _ (List.getElem_mem _)) (h4 _ (List.getElem_mem _))) ?_
      rw [wrapI (by omega)]
      refine ok_cond (fun f1 => ?_) (fun _ => hn _ ⟨by simp only; omega, g2⟩ (by simp only; omega))
      refine ok_chk (by omega) ?_
      refine hn _ ⟨by simp only [List.length_append, List.length_cons, List.length_nil]; omega, fun x hx => ?_⟩ (by simp only; omega)
      rcases List.mem_append.1 hx with h | h
      · exact g2 x h
      · simp only [List.mem_cons, List.not_mem_nil, or_false] at h
        subst h
        simp only [Bool.and_eq_true, decide_eq_true_eq] at f1
        refine ⟨m0, m1, m2, ?_, ?_⟩
        · rw [← f1.1]; simp [List.getD_eq_getElem?_getD]; rw [List.getElem?_eq_getElem (by omega)]; rfl
        · rw [← f1.2]; simp [List.getD_eq_getElem?_getD]; rw [List.getElem?_eq_getElem (by omega)]; rfl
    · rintro ⟨j, es⟩ ⟨g1, g2⟩
      exact .mk ⟨h2, g1, h4, h3, g2⟩
end Go.Proofs.YtdlohnchnneaeaaGreat
/- What a reading of the arguments says of them: immutable data. Program-independent. -/
namespace Go.Abs
open Go.RowKit

variable {P : Program} {w : World} {H : Type} {enc : TypeId × Value → H}

def CellsR (w : World) (cs : List Value) (ps : List PV) : Prop := cs.length = ps.length ∧ (∀ (j : Nat) u c, cs[j]? = some u → ps[j]? = some c → VR (snap w) u c) ∧ ∀ u ∈ cs, u.oneCell' = true
def Light (P : Program) (t : TypeId) (d : DataW H) : Prop := ∀ n ∈ d.weights P t, n ≤ reachBytes

structure Dec (P : Program) (w : World) {H : Type} (enc : TypeId × Value → H) {α : Type} (t : TypeId) (sz : Nat) (e : α → List PV) (G : α → Prop) : Prop where
  len : ∀ a, (e a).length = sz
  dec : ∀ (sp : Nat → Bool) (hd : Bool) (fuel : Nat) (cs : List Value) (x : DataW H × List MemPlace), DataW.trod enc P w 0 sp hd fuel t cs = some x → Light P t x.1 → ∃ a, G a ∧ CellsR w cs (e a)

theorem CellsR.one {u : Value} {p : PV} (h : VR (snap w) u p) (h1 : u.oneCell' = true) : CellsR w [u] [p] :=
  ⟨rfl, fun j u' c hu hc => by
    cases j with
    | zero => simp at hu hc; subst hu hc; exact h
    | succ j => simp at hu, fun u' hu => by simp at hu; subst hu; exact h1⟩

theorem Dec.int {t : TypeId} (ht : P.underlying t = some (.int .i64)) : Dec P w enc t 1 (fun n : Int => [.val (.int .i64 n)]) (fun _ => True) :=
  ⟨fun _ => rfl, fun sp hd fuel cs x h _ => by
    obtain ⟨n, rfl, _⟩ := DataW.trod_int ht h
    exact ⟨n, trivial, .one (.val _ rfl) rfl⟩⟩
theorem Dec.bool {t : TypeId} (ht : P.underlying t = some .bool) : Dec P w enc t 1 (fun b : Bool => [.val (.bool b)]) (fun _ => True) :=
  ⟨fun _ => rfl, fun sp hd fuel cs x h _ => by
    obtain ⟨n, rfl, _⟩ := DataW.trod_bool ht h
    exact ⟨n, trivial, .one (.val _ rfl) rfl⟩⟩

theorem Dec.map {α β : Type} {t : TypeId} {sz : Nat} {e : α → List PV} {G : α → Prop} {e' : β → List PV} {G' : β → Prop} (g : α → β) (f : β → α) (hgf : ∀ b, e (f b) = e' b) (hg : ∀ a, e' (g a) = e a) (hG : ∀ a, G a → G' (g a)) (h : Dec P w enc t sz e G) : Dec P w enc t sz e' G' :=
  ⟨fun b => by rw [← hgf]; exact h.len _, fun sp hd fuel cs x hx hw => by
    obtain ⟨a, h1, h2⟩ := h.dec sp hd fuel cs x hx hw
    exact ⟨g a, hG a h1, by rw [hg]; exact h2⟩⟩

theorem weightsAll_mem {e : TypeId} : ∀ {ds : List (DataW H)} {d : DataW H}, d ∈ ds → ∀ n ∈ d.weights P e, n ∈ DataW.weightsAll P e ds
  | d0 :: r, d, hd, n, hn => by
    rw [DataW.weightsAll, List.mem_append]
    rcases List.mem_cons.1 hd with rfl | h
    · exact .inl hn
    · exact .inr (weightsAll_mem h n hn)

theorem mapM_some {α β : Type} {f : α → Option β} : ∀ {l : List α} {r : List β}, l.mapM f = some r → r.length = l.length ∧ ∀ (i : Nat) a, l[i]? = some a → r[i]? = f a := by
  intro l
  induction l with
  | nil => intro r h; simp at h; subst h; exact ⟨rfl, by simp⟩
  | cons a l ih =>
    intro r h
    rw [List.mapM_cons] at h
    cases ha : f a with
    | none => rw [ha] at h; cases h
    | some b =>
      rw [ha] at h
      cases hl : l.mapM f with
      | none => rw [hl] at h; cases h
      | some r' =>
        rw [hl] at h
        have : r = b :: r' := by simpa using h.symm
        subst this
        obtain ⟨h1, h2⟩ := ih hl
        refine ⟨by simp [h1], fun i x hx => ?_⟩
        cases i with
        | zero => simp at hx; subst hx; simp [ha]
        | succ i => simpa using h2 i x (by simpa using hx)

theorem cells_snap {a : Addr} {n : Nat} {cs : List Value} (h : w.cells? 0 a n = some cs) : cs.length = n ∧ (∀ (i : Nat) u, cs[i]? = some u → w.cell? (a.add i) = some u) := by
  unfold World.cells? at h
  rw [if_pos (Nat.zero_le _)] at h
  obtain ⟨h1, h2⟩ := mapM_some h
  refine ⟨by simpa using h1, fun i u hu => ?_⟩
  have hi : i < n := by
    have := (List.getElem?_eq_some_iff.1 hu).1
    simpa [h1] using this
  rw [← h2 i i (by simp [hi]), hu]
theorem spot_none {a : Addr} {u : Value} (h : w.cell? a = some u) : a.spot = none := by
  unfold World.cell? at h
  split at h
  · split at h
    · cases h
    · rename_i hs
      cases hsp : a.spot with
      | none => rfl
      | some _ => simp [hsp] at hs
  · cases h

theorem exists_list {α : Type} {n : Nat} {Q : Nat → α → Prop} (h : ∀ i, i < n → ∃ a, Q i a) : ∃ l : List α, l.length = n ∧ ∀ (i : Nat) a, l[i]? = some a → Q i a := by
  induction n with
  | zero => exact ⟨[], rfl, by simp⟩
  | succ n ih =>
    obtain ⟨l, h1, h2⟩ := ih fun i hi => h i (by omega)
    obtain ⟨a, ha⟩ := h n (by omega)
    refine ⟨l ++ [a], by simp [h1], fun i b hb => ?_⟩
    rcases Nat.lt_or_ge i l.length with hi | hi
    · rw [List.getElem?_append_left hi] at hb
      exact h2 i b hb
    · rw [List.getElem?_append_right hi] at hb
      have : i - l.length = 0 := by
        have := (List.getElem?_eq_some_iff.1 hb).1
        simp at this
        omega
      rw [this] at hb
      simp at hb
      subst hb
      have : i = n := by omega
      subst this
      exact ha
end Go.Abs
