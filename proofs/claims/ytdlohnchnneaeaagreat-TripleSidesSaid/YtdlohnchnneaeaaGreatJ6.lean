/- Joined texts, part 6: lemmas for the statement. No condition. -/
import Derived.Test.YtdlohnchnneaeaaGreatJ5
import Derived.Test.YtdlohnchnneaeaaGreatJ4
import Derived.ChangeArms
import Derived.SizedLaws
import Derived.Test.YtdlohnchnneaeaaGreatJ1
import Derived.Test.YtdlohnchnneaeaaGreatJ2
import Derived.OpenShut
import Derived.ProofKit
import Derived.Carry
import Derived.Test.YtdlohnchnneaeaaGreatRows
set_option linter.unusedSimpArgs false
set_option linter.unusedVariables false
open Nat (reduceEqDiff reduceLT reduceLeDiff reduceMul reduceAdd reduceSub)
/- Functions of the program as functions of Lean, and the walks that show them. Printed by gen.py. -/
set_option linter.unusedSimpArgs false
set_option linter.unusedVariables false
set_option maxRecDepth 20000
namespace Go.Proofs.YtdlohnchnneaeaaGreat
open Go.Abs
open Nat renaming reduceEqDiff → uA, reduceLT → uB, reduceLeDiff → uC, reduceMul → uD, reduceAdd → uE, reduceBEq → uF, reduceSub → uG
open Int renaming reduceToNat → uH

attribute [local go_sem] encAttr encEdge encEdgeT encI encInts encL_encRow encNode encPair encRow encS encStrs enc_T_A2_Int enc_T_A3_Int
noncomputable section
def f_triple_Side (a0 : Types) (a1 : Sorts) (a2 : Host) (a3 : Int) : Option (Host × Part × Int) :=
  thn (f_triple_Valid a0 a1 a2) fun r628 =>
  cond (decide (r628 = 0)) (
    cond (decide (a3 = 1)) (
      thn (f_triple_part a1 a2.graph a3) fun r631 =>
      thn (f_host_Extract a0 a2 r631) fun r632 =>
      cond (decide (r632.2 = 0)) (
        some (r632.1, r631, 0)) <|
      some ((⟨(⟨([] : List Int), ([] : List Edge)⟩ : Graph), ([] : List (List Int))⟩ : Host), (⟨([] : List Int), ([] : List Int)⟩ : Part), r632.2)) <|
    cond (decide (a3 = 3)) (
      thn (f_triple_part a1 a2.graph a3) fun r635 =>
      thn (f_host_Extract a0 a2 r635) fun r636 =>
      cond (decide (r636.2 = 0)) (
        some (r636.1, r635, 0)) <|
      some ((⟨(⟨([] : List Int), ([] : List Edge)⟩ : Graph), ([] : List (List Int))⟩ : Host), (⟨([] : List Int), ([] : List Int)⟩ : Part), r636.2)) <|
    some ((⟨(⟨([] : List Int), ([] : List Edge)⟩ : Graph), ([] : List (List Int))⟩ : Host), (⟨([] : List Int), ([] : List Int)⟩ : Part), 6)) <|
  some ((⟨(⟨([] : List Int), ([] : List Edge)⟩ : Graph), ([] : List (List Int))⟩ : Host), (⟨([] : List Int), ([] : List Int)⟩ : Part), r628)
set_option maxHeartbeats 4000000 in
theorem w_triple_Side (a0 : Types) (a1 : Sorts) (a2 : Host) (a3 : Int) (r : Host × Part × Int) (h : f_triple_Side a0 a1 a2 a3 = some r) : CallF Go.Proofs.Tryz.prog 20 [.agg [.lst (a0.nodes.map encNode), .lst (a0.edges.map encEdgeT)], .agg [.lst (a1.nodes.map encI), .lst (a1.edges.map encI)], .agg [.lst (a2.graph.nodes.map encI), .lst (a2.graph.edges.map encEdge), .lst (a2.values.map encRow)], .val (.int .i64 a3)] (fun v => v = .tup [.agg [.row 3 1 (r.1.graph.nodes.map encI), .row 73 3 (r.1.graph.edges.map encEdge), .row 26 1 (r.1.values.map encRow)], .agg [.p (.lst (r.2.1.nodes.map encI)), .p (.lst (r.2.1.edges.map encI))], .p (.val (.int .i64 r.2.2))]) := by
  refine CallF.rle ?_
  refine callF_of_cw [2000008] Ty.mixed Go.Proofs.Tryz.func20 rfl (by kernel_rfl) (by simp [Go.Proofs.Tryz.ntmps20]) ?_; rw [Go.Proofs.Tryz.ntmps20, Go.Proofs.Tryz.results20]
  unfold f_triple_Side at h
  obtain ⟨r628, hr628, h⟩ := thn_s h
  try simp -implicitDefEqProofs only [go_sem, uA, uB, uC, uD, uE, reduceIte, reduceCtorEq, uF, uG, uH]
  refine callG (w_triple_Valid a0 a1 a2 r628 hr628) (by simp -implicitDefEqProofs only [go_sem, uA, uB, uC, uD, uE, reduceIte, reduceCtorEq, uF, uG, uH] <;> rfl) (pleL_refl _) (by first | exact pers | exact scal rfl) ?_
  try simp -implicitDefEqProofs only [go_sem, uA, uB, uC, uD, uE, reduceIte, reduceCtorEq, uF, uG, uH]
  refine condC_splitN (fun b629 => ?_) (fun b629 => ?_)
  · replace h := cond_t h b629
    try simp -implicitDefEqProofs only [go_sem, uA, uB, uC, uD, uE, reduceIte, reduceCtorEq, uF, uG, uH, b629]
    refine walkG_splitN (fun b630 => ?_) (fun b630 => ?_)
    · replace h := cond_t h b630
      obtain ⟨r631, hr631, h⟩ := thn_s h
      try simp -implicitDefEqProofs only [go_sem, uA, uB, uC, uD, uE, reduceIte, reduceCtorEq, uF, uG, uH, b629, b630]
      refine callfG 1576 (w_triple_part a1 a2.graph a3 r631 hr631) (by simp -implicitDefEqProofs only [go_sem, uA, uB, uC, uD, uE, reduceIte, reduceCtorEq, uF, uG, uH, b629, b630] <;> rfl) (pleL_refl _) (by first | exact persF | exact flatF rfl | exact flatF (by simp [RV.flat, RV.flatL, PV.scalar, isVal, encI, encI])) (by simp -implicitDefEqProofs only [go_sem, uA, uB, uC, uD, uE, reduceIte, reduceCtorEq, uF, uG, uH, b629, b630]) ?_
      obtain ⟨r632, hr632, h⟩ := thn_s h
      try simp -implicitDefEqProofs only [go_sem, uA, uB, uC, uD, uE, reduceIte, reduceCtorEq, uF, uG, uH, b629, b630]
      refine callfGs [1576, 1577] 1656 (w_host_Extract a0 a2 r631 r632 hr632) (by simp -implicitDefEqProofs only [go_sem, uA, uB, uC, uD, uE, reduceIte, reduceCtorEq, uF, uG, uH, b629, b630] <;> rfl) (pleL_refl _) (by first | exact persF | exact flatF rfl | exact flatF (by simp [RV.flat, RV.flatL, PV.scalar, isVal, encI, encEdge, encRow])) (by simp -implicitDefEqProofs only [go_sem, uA, uB, uC, uD, uE, reduceIte, reduceCtorEq, uF, uG, uH, b629, b630]) ?_
      try simp -implicitDefEqProofs only [go_sem, uA, uB, uC, uD, uE, reduceIte, reduceCtorEq, uF, uG, uH, b629, b630]
      refine condC_splitN (fun b633 => ?_) (fun b633 => ?_)
      · replace h := cond_t h b633
        try simp -implicitDefEqProofs only [go_sem, uA, uB, uC, uD, uE, reduceIte, reduceCtorEq, uF, uG, uH, b629, b630, b633]
        refine draw_txt [.q, .o, .s, .w, .q] (by kernel_rfl) ?_
        cases h
        try simp -implicitDefEqProofs only [go_sem, uA, uB, uC, uD, uE, reduceIte, reduceCtorEq, uF, uG, uH, b629, b630, b633]
        refine ⟨by decide, _, .refl _, ?_⟩
        simp -implicitDefEqProofs only [go_sem, uA, uB, uC, uD, uE, reduceIte, reduceCtorEq, uF, uG, uH, b629, b630, b633] <;> ((repeat' apply And.intro) <;> rfl)
      · replace h := cond_f h b633
        cases h
        try simp -implicitDefEqProofs only [go_sem, uA, uB, uC, uD, uE, reduceIte, reduceCtorEq, uF, uG, uH, b629, b630, b633]
        refine ⟨by decide, _, .refl _, ?_⟩
        simp -implicitDefEqProofs only [go_sem, uA, uB, uC, uD, uE, reduceIte, reduceCtorEq, uF, uG, uH, b629, b630, b633] <;> ((repeat' apply And.intro) <;> rfl)
    · replace h := cond_f h b630
      try simp -implicitDefEqProofs only [go_sem, uA, uB, uC, uD, uE, reduceIte, reduceCtorEq, uF, uG, uH, b629, b630]
      refine condC_splitN (fun b634 => ?_) (fun b634 => ?_)
      · replace h := cond_t h b634
        obtain ⟨r635, hr635, h⟩ := thn_s h
        try simp -implicitDefEqProofs only [go_sem, uA, uB, uC, uD, uE, reduceIte, reduceCtorEq, uF, uG, uH, b629, b630, b634]
        refine callfG 1576 (w_triple_part a1 a2.graph a3 r635 hr635) (by simp -implicitDefEqProofs only [go_sem, uA, uB, uC, uD, uE, reduceIte, reduceCtorEq, uF, uG, uH, b629, b630, b634] <;> rfl) (pleL_refl _) (by first | exact persF | exact flatF rfl | exact flatF (by simp [RV.flat, RV.flatL, PV.scalar, isVal, encI, encI])) (by simp -implicitDefEqProofs only [go_sem, uA, uB, uC, uD, uE, reduceIte, reduceCtorEq, uF, uG, uH, b629, b630, b634]) ?_
        obtain ⟨r636, hr636, h⟩ := thn_s h
        try simp -implicitDefEqProofs only [go_sem, uA, uB, uC, uD, uE, reduceIte, reduceCtorEq, uF, uG, uH, b629, b630, b634]
        refine callfGs [1576, 1577] 1656 (w_host_Extract a0 a2 r635 r636 hr636) (by simp -implicitDefEqProofs only [go_sem, uA, uB, uC, uD, uE, reduceIte, reduceCtorEq, uF, uG, uH, b629, b630, b634] <;> rfl) (pleL_refl _) (by first | exact persF | exact flatF rfl | exact flatF (by simp [RV.flat, RV.flatL, PV.scalar, isVal, encI, encEdge, encRow])) (by simp -implicitDefEqProofs only [go_sem, uA, uB, uC, uD, uE, reduceIte, reduceCtorEq, uF, uG, uH, b629, b630, b634]) ?_
        try simp -implicitDefEqProofs only [go_sem, uA, uB, uC, uD, uE, reduceIte, reduceCtorEq, uF, uG, uH, b629, b630, b634]
        refine condC_splitN (fun b637 => ?_) (fun b637 => ?_)
        · replace h := cond_t h b637
          try simp -implicitDefEqProofs only [go_sem, uA, uB, uC, uD, uE, reduceIte, reduceCtorEq, uF, uG, uH, b629, b630, b634, b637]
          refine draw_txt [.q, .o, .s, .w, .q] (by kernel_rfl) ?_
          cases h
          try simp -implicitDefEqProofs only [go_sem, uA, uB, uC, uD, uE, reduceIte, reduceCtorEq, uF, uG, uH, b629, b630, b634, b637]
          refine ⟨by decide, _, .refl _, ?_⟩
          simp -implicitDefEqProofs only [go_sem, uA, uB, uC, uD, uE, reduceIte, reduceCtorEq, uF, uG, uH, b629, b630, b634, b637] <;> ((repeat' apply And.intro) <;> rfl)
        · replace h := cond_f h b637
          cases h
          try simp -implicitDefEqProofs only [go_sem, uA, uB, uC, uD, uE, reduceIte, reduceCtorEq, uF, uG, uH, b629, b630, b634, b637]
          refine ⟨by decide, _, .refl _, ?_⟩
          simp -implicitDefEqProofs only [go_sem, uA, uB, uC, uD, uE, reduceIte, reduceCtorEq, uF, uG, uH, b629, b630, b634, b637] <;> ((repeat' apply And.intro) <;> rfl)
      · replace h := cond_f h b634
        cases h
        try simp -implicitDefEqProofs only [go_sem, uA, uB, uC, uD, uE, reduceIte, reduceCtorEq, uF, uG, uH, b629, b630, b634]
        refine ⟨by decide, _, .refl _, ?_⟩
        simp -implicitDefEqProofs only [go_sem, uA, uB, uC, uD, uE, reduceIte, reduceCtorEq, uF, uG, uH, b629, b630, b634] <;> ((repeat' apply And.intro) <;> rfl)
  · replace h := cond_f h b629
    cases h
    try simp -implicitDefEqProofs only [go_sem, uA, uB, uC, uD, uE, reduceIte, reduceCtorEq, uF, uG, uH, b629]
    refine ⟨by decide, _, .refl _, ?_⟩
    simp -implicitDefEqProofs only [go_sem, uA, uB, uC, uD, uE, reduceIte, reduceCtorEq, uF, uG, uH, b629] <;> ((repeat' apply And.intro) <;> rfl)
end
end Go.Proofs.YtdlohnchnneaeaaGreat
/- Functions of the program as functions of Lean, and the walks that show them. Printed by gen.py. -/
set_option linter.unusedSimpArgs false
set_option linter.unusedVariables false
set_option maxRecDepth 20000
namespace Go.Proofs.YtdlohnchnneaeaaGreat
open Go.Abs
open Nat renaming reduceEqDiff → uA, reduceLT → uB, reduceLeDiff → uC, reduceMul → uD, reduceAdd → uE, reduceBEq → uF, reduceSub → uG
open Int renaming reduceToNat → uH

attribute [local go_sem] encAttr encEdge encEdgeT encI encInts encL_encRow encNode encPair encRow encS encStrs enc_T_A2_Int enc_T_A3_Int
noncomputable section
def f_scarfjointlaw52_TripleTurned (a0 : T_scarfjointref15_Draft) : Option Bool :=
  thn (f_scarfjointlaw52_awake) fun r1307 =>
  cond r1307 (
    thn (f_scarfjointref52_Example) fun r1309 =>
    thn (f_scarfjointref15_Made r1309.1 (⟨a0.nodes, a0.edges⟩ : T_scarfjointref15_Draft)) fun r2479 =>
    thn (f_triple_Swap r1309.1 r1309.2) fun r2480 =>
    thn (f_triple_Side r1309.1 r1309.2 r2479 1) fun r2481 =>
    thn (f_triple_Side r1309.1 r2480.1 r2479 3) fun r2482 =>
    thn (f_triple_Links r1309.1 r1309.2 r2479) fun r2483 =>
    thn (f_triple_Links r1309.1 r2480.1 r2479) fun r2484 =>
    cond (decide (r2480.2 = 0)) (
      cond (decide (r2481.2.2 = 0)) (
        cond (decide (r2482.2.2 = 0)) (
          cond (decide (r2483.2 = 0)) (
            cond (decide (r2484.2 = 0)) (
              thn (f_scarfjointref15_Same r2481.1 r2482.1) fun r2490 =>
              cond r2490 (
                thn (f_scarfjointref07_Same r2481.2.1 r2482.2.1) fun r2492 =>
                cond r2492 (
                  cond (decide (((r2483.1.length : Nat) : Int) = ((r2484.1.length : Nat) : Int))) (
                    chk (r2483.1.length ≤ fuel) <|
                    forN (fun i2510 (s2510 : Unit) nxts2510 brks2510 =>
                      thn (r2483.1[i2510]?) fun e2514 =>
                      thn (f_slices_Contains_Pair r2484.1 (⟨e2514.b, e2514.a⟩ : GPair)) fun r2515 =>
                      cond r2515 (
                        nxts2510 ()) <|
                      some false)
                    (r2483.1.length - 0) 0 () fun s2510 =>
                    some true) <|
                  some false) <|
                some false) <|
              some false) <|
            some false) <|
          some false) <|
        some false) <|
      some false) <|
    some false) <|
  some false
set_option maxHeartbeats 4000000 in
theorem w_scarfjointlaw52_TripleTurned (a0 : T_scarfjointref15_Draft) (r : Bool) (h : f_scarfjointlaw52_TripleTurned a0 = some r) : CallV Go.Proofs.Tryz.prog 7 [.agg [.lst (a0.nodes.map enc_T_A2_Int), .lst (a0.edges.map enc_T_A3_Int)]] (fun v => v = .val (.bool r)) := by
  refine CallV.ple ?_
  refine callV_of_cw [] Ty.mixed Go.Proofs.Tryz.func7 rfl (by kernel_rfl) (by simp [Go.Proofs.Tryz.ntmps7]) ?_; rw [Go.Proofs.Tryz.ntmps7, Go.Proofs.Tryz.results7]
  unfold f_scarfjointlaw52_TripleTurned at h
  obtain ⟨r1307, hr1307, h⟩ := thn_s h
  try simp -implicitDefEqProofs only [go_sem, uA, uB, uC, uD, uE, reduceIte, reduceCtorEq, uF, uG, uH]
  refine callG (w_scarfjointlaw52_awake r1307 hr1307) (by simp -implicitDefEqProofs only [go_sem, uA, uB, uC, uD, uE, reduceIte, reduceCtorEq, uF, uG, uH] <;> rfl) (pleL_refl _) (by first | exact pers | exact scal rfl) ?_
  try simp -implicitDefEqProofs only [go_sem, uA, uB, uC, uD, uE, reduceIte, reduceCtorEq, uF, uG, uH]
  refine condC_splitN (fun b1308 => ?_) (fun b1308 => ?_)
  · replace h := cond_t h b1308
    obtain ⟨r1309, hr1309, h⟩ := thn_s h
    try simp -implicitDefEqProofs only [go_sem, uA, uB, uC, uD, uE, reduceIte, reduceCtorEq, uF, uG, uH, b1308]
    refine callG (w_scarfjointref52_Example r1309 hr1309) (by simp -implicitDefEqProofs only [go_sem, uA, uB, uC, uD, uE, reduceIte, reduceCtorEq, uF, uG, uH, b1308] <;> rfl) (pleL_refl _) (by first | exact pers | exact scal rfl) ?_
    obtain ⟨r2479, hr2479, h⟩ := thn_s h
    try simp -implicitDefEqProofs only [go_sem, uA, uB, uC, uD, uE, reduceIte, reduceCtorEq, uF, uG, uH, b1308]
    refine callfG 1448 (w_scarfjointref15_Made r1309.1 (⟨a0.nodes, a0.edges⟩ : T_scarfjointref15_Draft) r2479 hr2479) (by simp -implicitDefEqProofs only [go_sem, uA, uB, uC, uD, uE, reduceIte, reduceCtorEq, uF, uG, uH, b1308] <;> rfl) (pleL_refl _) (by first | exact persF | exact flatF rfl | exact flatF (by simp [RV.flat, RV.flatL, PV.scalar, isVal, encI, encEdge, encRow])) (by simp -implicitDefEqProofs only [go_sem, uA, uB, uC, uD, uE, reduceIte, reduceCtorEq, uF, uG, uH, b1308]) ?_
    obtain ⟨r2480, hr2480, h⟩ := thn_s h
    try simp -implicitDefEqProofs only [go_sem, uA, uB, uC, uD, uE, reduceIte, reduceCtorEq, uF, uG, uH, b1308]
    refine callG (w_triple_Swap r1309.1 r1309.2 r2480 hr2480) (by simp -implicitDefEqProofs only [go_sem, uA, uB, uC, uD, uE, reduceIte, reduceCtorEq, uF, uG, uH, b1308] <;> rfl) (pleL_refl _) (by first | exact pers | exact scal rfl) ?_
    obtain ⟨r2481, hr2481, h⟩ := thn_s h
    try simp -implicitDefEqProofs only [go_sem, uA, uB, uC, uD, uE, reduceIte, reduceCtorEq, uF, uG, uH, b1308]
    refine callfGs [1448, 1449, 1450] 1624 (w_triple_Side r1309.1 r1309.2 r2479 1 r2481 hr2481) (by simp -implicitDefEqProofs only [go_sem, uA, uB, uC, uD, uE, reduceIte, reduceCtorEq, uF, uG, uH, b1308] <;> rfl) (pleL_refl _) (by first | exact persF | exact flatF rfl | exact flatF (by simp [RV.flat, RV.flatL, PV.scalar, isVal, encI, encEdge, encRow])) (by simp -implicitDefEqProofs only [go_sem, uA, uB, uC, uD, uE, reduceIte, reduceCtorEq, uF, uG, uH, b1308]) ?_
    obtain ⟨r2482, hr2482, h⟩ := thn_s h
    try simp -implicitDefEqProofs only [go_sem, uA, uB, uC, uD, uE, reduceIte, reduceCtorEq, uF, uG, uH, b1308]
    refine callfG 1752 (w_triple_Side r1309.1 r2480.1 r2479 3 r2482 hr2482) (by simp -implicitDefEqProofs only [go_sem, uA, uB, uC, uD, uE, reduceIte, reduceCtorEq, uF, uG, uH, b1308] <;> rfl) (pleL_refl _) (by first | exact persF | exact flatF rfl | exact flatF (by simp [RV.flat, RV.flatL, PV.scalar, isVal, encI, encEdge, encRow])) (by simp -implicitDefEqProofs only [go_sem, uA, uB, uC, uD, uE, reduceIte, reduceCtorEq, uF, uG, uH, b1308]) ?_
    obtain ⟨r2483, hr2483, h⟩ := thn_s h
    try simp -implicitDefEqProofs only [go_sem, uA, uB, uC, uD, uE, reduceIte, reduceCtorEq, uF, uG, uH, b1308]
    refine callG (w_triple_Links r1309.1 r1309.2 r2479 r2483 hr2483) (by simp -implicitDefEqProofs only [go_sem, uA, uB, uC, uD, uE, reduceIte, reduceCtorEq, uF, uG, uH, b1308] <;> rfl) (pleL_refl _) (by first | exact pers | exact scal rfl) ?_
    obtain ⟨r2484, hr2484, h⟩ := thn_s h
    try simp -implicitDefEqProofs only [go_sem, uA, uB, uC, uD, uE, reduceIte, reduceCtorEq, uF, uG, uH, b1308]
    refine callG (w_triple_Links r1309.1 r2480.1 r2479 r2484 hr2484) (by simp -implicitDefEqProofs only [go_sem, uA, uB, uC, uD, uE, reduceIte, reduceCtorEq, uF, uG, uH, b1308] <;> rfl) (pleL_refl _) (by first | exact pers | exact scal rfl) ?_
    try simp -implicitDefEqProofs only [go_sem, uA, uB, uC, uD, uE, reduceIte, reduceCtorEq, uF, uG, uH, b1308]
    refine walkG_split (fun b2485 => ?_) (fun b2485 => ?_)
    · replace h := cond_t h b2485
      try simp -implicitDefEqProofs only [go_sem, uA, uB, uC, uD, uE, reduceIte, reduceCtorEq, uF, uG, uH, b1308, b2485]
      refine walkG_split (fun b2486 => ?_) (fun b2486 => ?_)
      · replace h := cond_t h b2486
        try simp -implicitDefEqProofs only [go_sem, uA, uB, uC, uD, uE, reduceIte, reduceCtorEq, uF, uG, uH, b1308, b2485, b2486]
        refine walkG_split (fun b2487 => ?_) (fun b2487 => ?_)
        · replace h := cond_t h b2487
          try simp -implicitDefEqProofs only [go_sem, uA, uB, uC, uD, uE, reduceIte, reduceCtorEq, uF, uG, uH, b1308, b2485, b2486, b2487]
          refine walkG_split (fun b2488 => ?_) (fun b2488 => ?_)
          · replace h := cond_t h b2488
            try simp -implicitDefEqProofs only [go_sem, uA, uB, uC, uD, uE, reduceIte, reduceCtorEq, uF, uG, uH, b1308, b2485, b2486, b2487, b2488]
            refine walkG_split (fun b2489 => ?_) (fun b2489 => ?_)
            · replace h := cond_t h b2489
              obtain ⟨r2490, hr2490, h⟩ := thn_s h
              try simp -implicitDefEqProofs only [go_sem, uA, uB, uC, uD, uE, reduceIte, reduceCtorEq, uF, uG, uH, b1308, b2485, b2486, b2487, b2488, b2489]
              refine callG (w_scarfjointref15_Same r2481.1 r2482.1 r2490 hr2490) (by simp -implicitDefEqProofs only [go_sem, uA, uB, uC, uD, uE, reduceIte, reduceCtorEq, uF, uG, uH, b1308, b2485, b2486, b2487, b2488, b2489] <;> rfl) (pleL_refl _) (by first | exact pers | exact scal rfl) ?_
              try simp -implicitDefEqProofs only [go_sem, uA, uB, uC, uD, uE, reduceIte, reduceCtorEq, uF, uG, uH, b1308, b2485, b2486, b2487, b2488, b2489]
              refine walkG_split (fun b2491 => ?_) (fun b2491 => ?_)
              · replace h := cond_t h b2491
                obtain ⟨r2492, hr2492, h⟩ := thn_s h
                try simp -implicitDefEqProofs only [go_sem, uA, uB, uC, uD, uE, reduceIte, reduceCtorEq, uF, uG, uH, b1308, b2485, b2486, b2487, b2488, b2489, b2491]
                refine callG (w_scarfjointref07_Same r2481.2.1 r2482.2.1 r2492 hr2492) (by simp -implicitDefEqProofs only [go_sem, uA, uB, uC, uD, uE, reduceIte, reduceCtorEq, uF, uG, uH, b1308, b2485, b2486, b2487, b2488, b2489, b2491] <;> rfl) (pleL_refl _) (by first | exact pers | exact scal rfl) ?_
                try simp -implicitDefEqProofs only [go_sem, uA, uB, uC, uD, uE, reduceIte, reduceCtorEq, uF, uG, uH, b1308, b2485, b2486, b2487, b2488, b2489, b2491]
                refine walkG_split (fun b2493 => ?_) (fun b2493 => ?_)
                · replace h := cond_t h b2493
                  try simp -implicitDefEqProofs only [go_sem, uA, uB, uC, uD, uE, reduceIte, reduceCtorEq, uF, uG, uH, b1308, b2485, b2486, b2487, b2488, b2489, b2491, b2493]
                  refine condC_splitN (fun b2494 => ?_) (fun b2494 => ?_)
                  · replace h := cond_t h b2494
                    obtain ⟨fus2510, h⟩ := chk_s h
                    unfold fuel at fus2510
                    try simp -implicitDefEqProofs only [go_sem, uA, uB, uC, uD, uE, reduceIte, reduceCtorEq, uF, uG, uH, b1308, b2485, b2486, b2487, b2488, b2489, b2491, b2493, b2494]
                    refine forN_go (fun x : (Nat × (Unit)) × (Unit) => envL [(16, .p (.lst (r2484.1.map encPair))), (102, .p (.lst (r2483.1.map encPair))), (103, .p (.val (.int .i64 ((r2483.1.length : Nat) : Int)))), (104, .p (.val (.int .i64 ((x.1.1 : Nat) : Int))))]) (fun x => heapL []) () h (weakL (by simp -implicitDefEqProofs only [go_sem, uA, uB, uC, uD, uE, reduceIte, reduceCtorEq, uF, uG, uH, b1308, b2485, b2486, b2487, b2488, b2489, b2491, b2493, b2494] <;> ((repeat' apply And.intro) <;> rfl))) ?_ ?_
                    · intro i2510 s2510 g2510 nxts2510 Rs2510 his2510 hNs2510 h
                      have hws2510 := wrap_succ (k := i2510) his2510 (by omega)
                      try dsimp only at h
                      obtain ⟨e2514, c2514, g2514, q2514, h⟩ := idx_s encPair h
                      obtain ⟨r2515, hr2515, h⟩ := thn_s h
                      try simp -implicitDefEqProofs only [go_sem, uA, uB, uC, uD, uE, reduceIte, reduceCtorEq, uF, uG, uH, b1308, b2485, b2486, b2487, b2488, b2489, b2491, b2493, b2494, his2510, hws2510, c2514, g2514]
                      refine callG (w_slices_Contains_Pair r2484.1 (⟨e2514.b, e2514.a⟩ : GPair) r2515 hr2515) (by simp -implicitDefEqProofs only [go_sem, uA, uB, uC, uD, uE, reduceIte, reduceCtorEq, uF, uG, uH, b1308, b2485, b2486, b2487, b2488, b2489, b2491, b2493, b2494, his2510, hws2510, c2514, g2514] <;> rfl) (pleL_refl _) (by first | exact pers | exact scal rfl) ?_
                      try simp -implicitDefEqProofs only [go_sem, uA, uB, uC, uD, uE, reduceIte, reduceCtorEq, uF, uG, uH, b1308, b2485, b2486, b2487, b2488, b2489, b2491, b2493, b2494, his2510, hws2510, c2514, g2514]
                      refine condC_splitN (fun b2516 => ?_) (fun b2516 => ?_)
                      · replace h := cond_t h b2516
                        try simp -implicitDefEqProofs only [go_sem, uA, uB, uC, uD, uE, reduceIte, reduceCtorEq, uF, uG, uH, b1308, b2485, b2486, b2487, b2488, b2489, b2491, b2493, b2494, his2510, hws2510, c2514, g2514, b2516]
                        exact hNs2510 () () h (weakL (by simp -implicitDefEqProofs only [go_sem, uA, uB, uC, uD, uE, reduceIte, reduceCtorEq, uF, uG, uH, b1308, b2485, b2486, b2487, b2488, b2489, b2491, b2493, b2494, his2510, hws2510, c2514, g2514, b2516] <;> ((repeat' apply And.intro) <;> rfl)))
                      · replace h := cond_f h b2516
                        cases h
                        try simp -implicitDefEqProofs only [go_sem, uA, uB, uC, uD, uE, reduceIte, reduceCtorEq, uF, uG, uH, b1308, b2485, b2486, b2487, b2488, b2489, b2491, b2493, b2494, his2510, hws2510, c2514, g2514, b2516]
                        all_goals ((repeat' apply And.intro) <;> rfl)
                    · intro i2510 s2510 g2510 Rs2510 hes2510 h
                      have hns2510 : ¬ (i2510 < r2483.1.length) := by omega
                      try dsimp only at h
                      cases h
                      try simp -implicitDefEqProofs only [go_sem, uA, uB, uC, uD, uE, reduceIte, reduceCtorEq, uF, uG, uH, b1308, b2485, b2486, b2487, b2488, b2489, b2491, b2493, b2494, hns2510]
                      all_goals ((repeat' apply And.intro) <;> rfl)
                  · replace h := cond_f h b2494
                    cases h
                    try simp -implicitDefEqProofs only [go_sem, uA, uB, uC, uD, uE, reduceIte, reduceCtorEq, uF, uG, uH, b1308, b2485, b2486, b2487, b2488, b2489, b2491, b2493, b2494]
                    all_goals ((repeat' apply And.intro) <;> rfl)
                · replace h := cond_f h b2493
                  cases h
                  try simp -implicitDefEqProofs only [go_sem, uA, uB, uC, uD, uE, reduceIte, reduceCtorEq, uF, uG, uH, b1308, b2485, b2486, b2487, b2488, b2489, b2491, b2493]
                  all_goals ((repeat' apply And.intro) <;> rfl)
              · replace h := cond_f h b2491
                cases h
                try simp -implicitDefEqProofs only [go_sem, uA, uB, uC, uD, uE, reduceIte, reduceCtorEq, uF, uG, uH, b1308, b2485, b2486, b2487, b2488, b2489, b2491]
                all_goals ((repeat' apply And.intro) <;> rfl)
            · replace h := cond_f h b2489
              cases h
              try simp -implicitDefEqProofs only [go_sem, uA, uB, uC, uD, uE, reduceIte, reduceCtorEq, uF, uG, uH, b1308, b2485, b2486, b2487, b2488, b2489]
              all_goals ((repeat' apply And.intro) <;> rfl)
          · replace h := cond_f h b2488
            cases h
            try simp -implicitDefEqProofs only [go_sem, uA, uB, uC, uD, uE, reduceIte, reduceCtorEq, uF, uG, uH, b1308, b2485, b2486, b2487, b2488]
            all_goals ((repeat' apply And.intro) <;> rfl)
        · replace h := cond_f h b2487
          cases h
          try simp -implicitDefEqProofs only [go_sem, uA, uB, uC, uD, uE, reduceIte, reduceCtorEq, uF, uG, uH, b1308, b2485, b2486, b2487]
          all_goals ((repeat' apply And.intro) <;> rfl)
      · replace h := cond_f h b2486
        cases h
        try simp -implicitDefEqProofs only [go_sem, uA, uB, uC, uD, uE, reduceIte, reduceCtorEq, uF, uG, uH, b1308, b2485, b2486]
        all_goals ((repeat' apply And.intro) <;> rfl)
    · replace h := cond_f h b2485
      cases h
      try simp -implicitDefEqProofs only [go_sem, uA, uB, uC, uD, uE, reduceIte, reduceCtorEq, uF, uG, uH, b1308, b2485]
      all_goals ((repeat' apply And.intro) <;> rfl)
  · replace h := cond_f h b1308
    cases h
    try simp -implicitDefEqProofs only [go_sem, uA, uB, uC, uD, uE, reduceIte, reduceCtorEq, uF, uG, uH, b1308]
    all_goals ((repeat' apply And.intro) <;> rfl)
end
end Go.Proofs.YtdlohnchnneaeaaGreat
/- Functions of the program as functions of Lean, and the walks that show them. Printed by gen.py. -/
set_option linter.unusedSimpArgs false
set_option linter.unusedVariables false
set_option maxRecDepth 20000
namespace Go.Proofs.YtdlohnchnneaeaaGreat
open Go.Abs
open Nat renaming reduceEqDiff → uA, reduceLT → uB, reduceLeDiff → uC, reduceMul → uD, reduceAdd → uE, reduceBEq → uF, reduceSub → uG
open Int renaming reduceToNat → uH

attribute [local go_sem] encAttr encEdge encEdgeT encI encInts encL_encRow encNode encPair encRow encS encStrs enc_T_A2_Int enc_T_A3_Int
noncomputable section
def f_scarfjointlaw52_TripleSides (a0 : T_scarfjointref15_Draft) (a1 : T_scarfjointref15_Draft) : Option Bool :=
  thn (f_scarfjointlaw52_awake) fun r2875 =>
  cond r2875 (
    thn (f_scarfjointref52_Example) fun r2877 =>
    thn (f_scarfjointref15_Made r2877.1 a0) fun r2878 =>
    thn (f_scarfjointref52_Only r2877.1 r2877.2 r2878 1) fun r2883 =>
    thn (f_scarfjointref15_Made r2877.1 (⟨a1.nodes, a1.edges⟩ : T_scarfjointref15_Draft)) fun r2884 =>
    thn (f_scarfjointref52_Only r2877.1 r2877.2 r2884 3) fun r2885 =>
    thn (f_triple_Pair r2877.1 r2877.2 r2883 r2885) fun r2886 =>
    thn (f_triple_Side r2877.1 r2877.2 r2886.1 1) fun r2887 =>
    thn (f_triple_Side r2877.1 r2877.2 r2886.1 3) fun r2888 =>
    thn (f_triple_Links r2877.1 r2877.2 r2886.1) fun r2889 =>
    cond (decide (r2886.2 = 0)) (
      cond (decide (r2887.2.2 = 0)) (
        cond (decide (r2888.2.2 = 0)) (
          cond (decide (r2889.2 = 0)) (
            thn (f_scarfjointref15_Same r2887.1 r2883) fun r2894 =>
            cond r2894 (
              thn (f_scarfjointref15_Same r2888.1 r2885) fun r2896 =>
              cond r2896 (
                some (decide (((r2889.1.length : Nat) : Int) = 0))) <|
              some false) <|
            some false) <|
          some false) <|
        some false) <|
      some false) <|
    some false) <|
  some false
set_option maxHeartbeats 4000000 in
theorem w_scarfjointlaw52_TripleSides (a0 : T_scarfjointref15_Draft) (a1 : T_scarfjointref15_Draft) (r : Bool) (h : f_scarfjointlaw52_TripleSides a0 a1 = some r) : CallV Go.Proofs.Tryz.prog 8 [.agg [.lst (a0.nodes.map enc_T_A2_Int), .lst (a0.edges.map enc_T_A3_Int)], .agg [.lst (a1.nodes.map enc_T_A2_Int), .lst (a1.edges.map enc_T_A3_Int)]] (fun v => v = .val (.bool r)) := by
  refine CallV.ple ?_
  refine callV_of_cw [] Ty.mixed Go.Proofs.Tryz.func8 rfl (by kernel_rfl) (by simp [Go.Proofs.Tryz.ntmps8]) ?_; rw [Go.Proofs.Tryz.ntmps8, Go.Proofs.Tryz.results8]
  unfold f_scarfjointlaw52_TripleSides at h
  obtain ⟨r2875, hr2875, h⟩ := thn_s h
  try simp -implicitDefEqProofs only [go_sem, uA, uB, uC, uD, uE, reduceIte, reduceCtorEq, uF, uG, uH]
  refine callG (w_scarfjointlaw52_awake r2875 hr2875) (by simp -implicitDefEqProofs only [go_sem, uA, uB, uC, uD, uE, reduceIte, reduceCtorEq, uF, uG, uH] <;> rfl) (pleL_refl _) (by first | exact pers | exact scal rfl) ?_
  try simp -implicitDefEqProofs only [go_sem, uA, uB, uC, uD, uE, reduceIte, reduceCtorEq, uF, uG, uH]
  refine condC_splitN (fun b2876 => ?_) (fun b2876 => ?_)
  · replace h := cond_t h b2876
    obtain ⟨r2877, hr2877, h⟩ := thn_s h
    try simp -implicitDefEqProofs only [go_sem, uA, uB, uC, uD, uE, reduceIte, reduceCtorEq, uF, uG, uH, b2876]
    refine callG (w_scarfjointref52_Example r2877 hr2877) (by simp -implicitDefEqProofs only [go_sem, uA, uB, uC, uD, uE, reduceIte, reduceCtorEq, uF, uG, uH, b2876] <;> rfl) (pleL_refl _) (by first | exact pers | exact scal rfl) ?_
    try simp -implicitDefEqProofs only [go_sem, uA, uB, uC, uD, uE, reduceIte, reduceCtorEq, uF, uG, uH, b2876]
    refine draw_txt [.q, .q, .q, .q, .q, .q, .q, .q, .q, .q, .q, .q, .w, .w, .s, .s] (by kernel_rfl) ?_
    obtain ⟨r2878, hr2878, h⟩ := thn_s h
    try simp -implicitDefEqProofs only [go_sem, uA, uB, uC, uD, uE, reduceIte, reduceCtorEq, uF, uG, uH, b2876]
    refine calldG (show CallV _ _ _ (fun v => v = .agg [.lst (r2878.graph.nodes.map encI), .lst (r2878.graph.edges.map encEdge), .lst (r2878.values.map encRow)]) from (w_scarfjointref15_Made r2877.1 a0 r2878 hr2878).toV1) (by simp -implicitDefEqProofs only [go_sem, uA, uB, uC, uD, uE, reduceIte, reduceCtorEq, uF, uG, uH, b2876] <;> rfl) (pleL_refl _) (by first | exact pers | exact scal rfl) ?_
    obtain ⟨r2883, hr2883, h⟩ := thn_s h
    try simp -implicitDefEqProofs only [go_sem, uA, uB, uC, uD, uE, reduceIte, reduceCtorEq, uF, uG, uH, b2876]
    refine calldG (show CallV _ _ _ (fun v => v = .agg [.lst (r2883.graph.nodes.map encI), .lst (r2883.graph.edges.map encEdge), .lst (r2883.values.map encRow)]) from (w_scarfjointref52_Only r2877.1 r2877.2 r2878 1 r2883 hr2883).toV1) (by simp -implicitDefEqProofs only [go_sem, uA, uB, uC, uD, uE, reduceIte, reduceCtorEq, uF, uG, uH, b2876] <;> rfl) (pleL_refl _) (by first | exact pers | exact scal rfl) ?_
    obtain ⟨r2884, hr2884, h⟩ := thn_s h
    try simp -implicitDefEqProofs only [go_sem, uA, uB, uC, uD, uE, reduceIte, reduceCtorEq, uF, uG, uH, b2876]
    refine calldG (show CallV _ _ _ (fun v => v = .agg [.lst (r2884.graph.nodes.map encI), .lst (r2884.graph.edges.map encEdge), .lst (r2884.values.map encRow)]) from (w_scarfjointref15_Made r2877.1 (⟨a1.nodes, a1.edges⟩ : T_scarfjointref15_Draft) r2884 hr2884).toV1) (by simp -implicitDefEqProofs only [go_sem, uA, uB, uC, uD, uE, reduceIte, reduceCtorEq, uF, uG, uH, b2876] <;> rfl) (pleL_refl _) (by first | exact pers | exact scal rfl) ?_
    obtain ⟨r2885, hr2885, h⟩ := thn_s h
    try simp -implicitDefEqProofs only [go_sem, uA, uB, uC, uD, uE, reduceIte, reduceCtorEq, uF, uG, uH, b2876]
    refine calldG (show CallV _ _ _ (fun v => v = .agg [.lst (r2885.graph.nodes.map encI), .lst (r2885.graph.edges.map encEdge), .lst (r2885.values.map encRow)]) from (w_scarfjointref52_Only r2877.1 r2877.2 r2884 3 r2885 hr2885).toV1) (by simp -implicitDefEqProofs only [go_sem, uA, uB, uC, uD, uE, reduceIte, reduceCtorEq, uF, uG, uH, b2876] <;> rfl) (pleL_refl _) (by first | exact pers | exact scal rfl) ?_
    obtain ⟨r2886, hr2886, h⟩ := thn_s h
    try simp -implicitDefEqProofs only [go_sem, uA, uB, uC, uD, uE, reduceIte, reduceCtorEq, uF, uG, uH, b2876]
    refine callfG 1672 (w_triple_Pair r2877.1 r2877.2 r2883 r2885 r2886 hr2886) (by simp -implicitDefEqProofs only [go_sem, uA, uB, uC, uD, uE, reduceIte, reduceCtorEq, uF, uG, uH, b2876] <;> rfl) (pleL_refl _) (by first | exact persF | exact flatF rfl | exact flatF (by simp [RV.flat, RV.flatL, PV.scalar, isVal, encI, encEdge, encRow])) (by simp -implicitDefEqProofs only [go_sem, uA, uB, uC, uD, uE, reduceIte, reduceCtorEq, uF, uG, uH, b2876]) ?_
    obtain ⟨r2887, hr2887, h⟩ := thn_s h
    try simp -implicitDefEqProofs only [go_sem, uA, uB, uC, uD, uE, reduceIte, reduceCtorEq, uF, uG, uH, b2876]
    refine callfGs [1672, 1673, 1674] 1784 (w_triple_Side r2877.1 r2877.2 r2886.1 1 r2887 hr2887) (by simp -implicitDefEqProofs only [go_sem, uA, uB, uC, uD, uE, reduceIte, reduceCtorEq, uF, uG, uH, b2876] <;> rfl) (pleL_refl _) (by first | exact persF | exact flatF rfl | exact flatF (by simp [RV.flat, RV.flatL, PV.scalar, isVal, encI, encEdge, encRow])) (by simp -implicitDefEqProofs only [go_sem, uA, uB, uC, uD, uE, reduceIte, reduceCtorEq, uF, uG, uH, b2876]) ?_
    obtain ⟨r2888, hr2888, h⟩ := thn_s h
    try simp -implicitDefEqProofs only [go_sem, uA, uB, uC, uD, uE, reduceIte, reduceCtorEq, uF, uG, uH, b2876]
    refine callfG 1912 (w_triple_Side r2877.1 r2877.2 r2886.1 3 r2888 hr2888) (by simp -implicitDefEqProofs only [go_sem, uA, uB, uC, uD, uE, reduceIte, reduceCtorEq, uF, uG, uH, b2876] <;> rfl) (pleL_refl _) (by first | exact persF | exact flatF rfl | exact flatF (by simp [RV.flat, RV.flatL, PV.scalar, isVal, encI, encEdge, encRow])) (by simp -implicitDefEqProofs only [go_sem, uA, uB, uC, uD, uE, reduceIte, reduceCtorEq, uF, uG, uH, b2876]) ?_
    obtain ⟨r2889, hr2889, h⟩ := thn_s h
    try simp -implicitDefEqProofs only [go_sem, uA, uB, uC, uD, uE, reduceIte, reduceCtorEq, uF, uG, uH, b2876]
    refine callG (w_triple_Links r2877.1 r2877.2 r2886.1 r2889 hr2889) (by simp -implicitDefEqProofs only [go_sem, uA, uB, uC, uD, uE, reduceIte, reduceCtorEq, uF, uG, uH, b2876] <;> rfl) (pleL_refl _) (by first | exact pers | exact scal rfl) ?_
    try simp -implicitDefEqProofs only [go_sem, uA, uB, uC, uD, uE, reduceIte, reduceCtorEq, uF, uG, uH, b2876]
    refine walkG_split (fun b2890 => ?_) (fun b2890 => ?_)
    · replace h := cond_t h b2890
      try simp -implicitDefEqProofs only [go_sem, uA, uB, uC, uD, uE, reduceIte, reduceCtorEq, uF, uG, uH, b2876, b2890]
      refine walkG_split (fun b2891 => ?_) (fun b2891 => ?_)
      · replace h := cond_t h b2891
        try simp -implicitDefEqProofs only [go_sem, uA, uB, uC, uD, uE, reduceIte, reduceCtorEq, uF, uG, uH, b2876, b2890, b2891]
        refine walkG_split (fun b2892 => ?_) (fun b2892 => ?_)
        · replace h := cond_t h b2892
          try simp -implicitDefEqProofs only [go_sem, uA, uB, uC, uD, uE, reduceIte, reduceCtorEq, uF, uG, uH, b2876, b2890, b2891, b2892]
          refine walkG_split (fun b2893 => ?_) (fun b2893 => ?_)
          · replace h := cond_t h b2893
            obtain ⟨r2894, hr2894, h⟩ := thn_s h
            try simp -implicitDefEqProofs only [go_sem, uA, uB, uC, uD, uE, reduceIte, reduceCtorEq, uF, uG, uH, b2876, b2890, b2891, b2892, b2893]
            refine callG (w_scarfjointref15_Same r2887.1 r2883 r2894 hr2894) (by simp -implicitDefEqProofs only [go_sem, uA, uB, uC, uD, uE, reduceIte, reduceCtorEq, uF, uG, uH, b2876, b2890, b2891, b2892, b2893] <;> rfl) (pleL_refl _) (by first | exact pers | exact scal rfl) ?_
            try simp -implicitDefEqProofs only [go_sem, uA, uB, uC, uD, uE, reduceIte, reduceCtorEq, uF, uG, uH, b2876, b2890, b2891, b2892, b2893]
            refine walkG_split (fun b2895 => ?_) (fun b2895 => ?_)
            · replace h := cond_t h b2895
              obtain ⟨r2896, hr2896, h⟩ := thn_s h
              try simp -implicitDefEqProofs only [go_sem, uA, uB, uC, uD, uE, reduceIte, reduceCtorEq, uF, uG, uH, b2876, b2890, b2891, b2892, b2893, b2895]
              refine callG (w_scarfjointref15_Same r2888.1 r2885 r2896 hr2896) (by simp -implicitDefEqProofs only [go_sem, uA, uB, uC, uD, uE, reduceIte, reduceCtorEq, uF, uG, uH, b2876, b2890, b2891, b2892, b2893, b2895] <;> rfl) (pleL_refl _) (by first | exact pers | exact scal rfl) ?_
              try simp -implicitDefEqProofs only [go_sem, uA, uB, uC, uD, uE, reduceIte, reduceCtorEq, uF, uG, uH, b2876, b2890, b2891, b2892, b2893, b2895]
              refine walkG_split (fun b2897 => ?_) (fun b2897 => ?_)
              · replace h := cond_t h b2897
                cases h
                try simp -implicitDefEqProofs only [go_sem, uA, uB, uC, uD, uE, reduceIte, reduceCtorEq, uF, uG, uH, b2876, b2890, b2891, b2892, b2893, b2895, b2897]
                all_goals ((repeat' apply And.intro) <;> rfl)
              · replace h := cond_f h b2897
                cases h
                try simp -implicitDefEqProofs only [go_sem, uA, uB, uC, uD, uE, reduceIte, reduceCtorEq, uF, uG, uH, b2876, b2890, b2891, b2892, b2893, b2895, b2897]
                all_goals ((repeat' apply And.intro) <;> rfl)
            · replace h := cond_f h b2895
              cases h
              try simp -implicitDefEqProofs only [go_sem, uA, uB, uC, uD, uE, reduceIte, reduceCtorEq, uF, uG, uH, b2876, b2890, b2891, b2892, b2893, b2895]
              all_goals ((repeat' apply And.intro) <;> rfl)
          · replace h := cond_f h b2893
            cases h
            try simp -implicitDefEqProofs only [go_sem, uA, uB, uC, uD, uE, reduceIte, reduceCtorEq, uF, uG, uH, b2876, b2890, b2891, b2892, b2893]
            all_goals ((repeat' apply And.intro) <;> rfl)
        · replace h := cond_f h b2892
          cases h
          try simp -implicitDefEqProofs only [go_sem, uA, uB, uC, uD, uE, reduceIte, reduceCtorEq, uF, uG, uH, b2876, b2890, b2891, b2892]
          all_goals ((repeat' apply And.intro) <;> rfl)
      · replace h := cond_f h b2891
        cases h
        try simp -implicitDefEqProofs only [go_sem, uA, uB, uC, uD, uE, reduceIte, reduceCtorEq, uF, uG, uH, b2876, b2890, b2891]
        all_goals ((repeat' apply And.intro) <;> rfl)
    · replace h := cond_f h b2890
      cases h
      try simp -implicitDefEqProofs only [go_sem, uA, uB, uC, uD, uE, reduceIte, reduceCtorEq, uF, uG, uH, b2876, b2890]
      all_goals ((repeat' apply And.intro) <;> rfl)
  · replace h := cond_f h b2876
    cases h
    try simp -implicitDefEqProofs only [go_sem, uA, uB, uC, uD, uE, reduceIte, reduceCtorEq, uF, uG, uH, b2876]
    all_goals ((repeat' apply And.intro) <;> rfl)
end
end Go.Proofs.YtdlohnchnneaeaaGreat
/- Functions of the program as functions of Lean, and the walks that show them. Printed by gen.py. -/
set_option linter.unusedSimpArgs false
set_option linter.unusedVariables false
set_option maxRecDepth 20000
namespace Go.Proofs.YtdlohnchnneaeaaGreat
open Go.Abs
open Nat renaming reduceEqDiff → uA, reduceLT → uB, reduceLeDiff → uC, reduceMul → uD, reduceAdd → uE, reduceBEq → uF, reduceSub → uG
open Int renaming reduceToNat → uH

attribute [local go_sem] encAttr encEdge encEdgeT encI encInts encL_encRow encNode encPair encRow encS encStrs enc_T_A2_Int enc_T_A3_Int
noncomputable section
end
end Go.Proofs.YtdlohnchnneaeaaGreat
/- Functions of the program as functions of Lean, and the walks that show them. Printed by gen.py. -/
namespace Go.Proofs.YtdlohnchnneaeaaGreat
open Go.Abs
open Nat renaming reduceEqDiff → uA, reduceLT → uB, reduceLeDiff → uC, reduceMul → uD, reduceAdd → uE, reduceBEq → uF, reduceSub → uG
open Int renaming reduceToNat → uH

attribute [local go_sem] encAttr encEdge encEdgeT encI encInts encL_encRow encNode encPair encRow encS encStrs enc_T_A2_Int enc_T_A3_Int
end Go.Proofs.YtdlohnchnneaeaaGreat
/- Parts of triples: plain law. -/
namespace Go.Proofs.YtdlohnchnneaeaaGreat
open Go.Abs

theorem sort_up {t : Types} {s : Sorts} (ht : OkT t) (hs : ∀ i, i < t.nodes.length → sortNE t s i = 0) (b : Int) : ∀ a : Nat, a < t.nodes.length → isB t a b = true → s.nodes.getD b.toNat default = s.nodes.getD a default := by
  intro a
  induction a using Nat.strongRecOn with
  | _ a ih =>
    intro ha hb
    rw [isB_succ (ht.par' ha), Bool.or_eq_true] at hb
    rcases hb with h | h
    · have : (a : Int) = b := of_decide_eq_true h
      subst this
      rw [Int.toNat_natCast]
    · have hq := ht.par a ha
      by_cases h0 : (t.nodes.getD a default).parent < 0
      · rw [isB_neg h0] at h; cases h
      obtain ⟨q, hqq⟩ : ∃ q : Nat, (t.nodes.getD a default).parent = q := ⟨_, (Int.toNat_of_nonneg (by omega)).symm⟩
      rw [hqq] at h hq
      rw [ih q (by omega) (by omega) h]
      have h1 := hs a ha
      unfold sortNE at h1
      split at h1
      · cases h1
      · split at h1
        · cases h1
        · rename_i h2
          rw [hqq, Int.toNat_natCast] at h2
          by_cases h3 : s.nodes.getD q default = s.nodes.getD a default
          · exact h3
          · exact absurd ⟨by omega, h3⟩ h2

structure VTr (s : Sorts) (h : Host) : Prop where
  ok : OkTr s h.graph
  vals : h.values.length = h.graph.nodes.length
  ends : ∀ i, i < h.graph.edges.length → ∀ k, k ≠ 2 → edgeS s h.graph i = k → nodeI s h.graph (h.graph.edges.getD i default).src = k ∧ nodeI s h.graph (h.graph.edges.getD i default).dst = k

theorem vTr {t : Types} {s : Sorts} {h : Host} (hf : FewT t) (hv : validTr t s h = 0) : VTr s h := by
  have ho := okTr hv
  unfold validTr at hv
  split at hv
  · rename_i h1; exact absurd hv h1
  rename_i h1
  have h1 : sortsE t s = 0 := by simpa using h1
  unfold sortsE at h1
  split at h1
  · rename_i h2; exact absurd h1 h2
  rename_i hvt
  have ht := okTypes hf (by simpa using hvt)
  split at h1
  · cases h1
  rename_i hl
  split at h1
  · rename_i h2; exact absurd h1 h2
  rename_i hN
  have hNs := firstE_zero (by simpa using hN : firstE (sortNE t s) 0 t.nodes.length = 0)
  have hEs := firstE_zero h1
  unfold validH at hv
  split at hv
  · rename_i h2; exact absurd hv h2
  split at hv
  · rename_i h2; exact absurd hv h2
  split at hv
  · cases hv
  rename_i hvl
  split at hv
  · rename_i k hk
    exact absurd hv (firstI_some hk)
  split at hv
  · rename_i k hk
    exact absurd hv (firstI_some hk)
  rename_i he
  refine ⟨ho, by omega, fun i hi k hk2 hk => ?_⟩
  have h3 := firstI_all he i hi
  unfold edgeH at h3
  split at h3
  · cases h3
  rename_i hty
  have hfit : fitsT t (h.graph.edges.getD i default).type (h.graph.nodes.getD (h.graph.edges.getD i default).src.toNat default) (h.graph.nodes.getD (h.graph.edges.getD i default).dst.toNat default) = true := by
    split at h3
    · assumption
    · cases h3
  unfold fitsT at hfit
  simp only [Bool.and_eq_true, decide_eq_true_eq] at hfit
  obtain ⟨hg, ⟨h4, h5⟩, h6, h7⟩ := hfit
  obtain ⟨q, hq⟩ : ∃ q : Nat, (h.graph.edges.getD i default).type = q := ⟨_, (Int.toNat_of_nonneg h4).symm⟩
  have hql : q < t.edges.length := by rw [hq] at h5; omega
  have h8 := hEs q hql
  have hkq : s.edges.getD q default = k := by
    have := hk
    unfold edgeS at this
    rw [hq, Int.toNat_natCast] at this
    exact this
  unfold sortEE at h8
  split at h8
  · cases h8
  split at h8
  · cases h8
  rename_i h9
  rw [hkq] at h9
  rw [hq, Int.toNat_natCast] at h6 h7
  have kinds : ∀ a : Int, a ∈ [h.graph.nodes.getD (h.graph.edges.getD i default).src.toNat default, h.graph.nodes.getD (h.graph.edges.getD i default).dst.toNat default] → inB t a = true := by
    unfold givenT at hg
    split at hg
    · rename_i h10; exact absurd hg h10
    split at hg
    · cases hg
    · rename_i h10
      intro a ha
      by_cases h11 : inB t a = true
      · exact h11
      · exact absurd (List.any_eq_true.2 ⟨a, ha, by simpa using h11⟩) h10
  have sorts : ∀ a b : Int, inB t a = true → isB t a b = true → s.nodes.getD a.toNat default = s.nodes.getD b.toNat default := by
    intro a b ha hb
    unfold inB at ha
    simp only [Bool.and_eq_true, decide_eq_true_eq] at ha
    obtain ⟨m, hm⟩ : ∃ m : Nat, a = m := ⟨_, (Int.toNat_of_nonneg ha.1).symm⟩
    subst hm
    rw [Int.toNat_natCast]
    exact (sort_up ht hNs b m (by omega) hb).symm
  have e1 := sorts _ _ (kinds _ (by simp)) h6
  have e2 := sorts _ _ (kinds _ (by simp)) h7
  refine ⟨?_, ?_⟩
  · unfold nodeI nodeS
    rw [e1]
    by_cases h10 : s.nodes.getD (t.edges.getD q default).src.toNat default = k
    · exact h10
    · exact absurd (.inl h10) h9
  · unfold nodeI nodeS
    rw [e2]
    by_cases h10 : s.nodes.getD (t.edges.getD q default).dst.toNat default = k
    · exact h10
    · exact absurd (.inr ⟨fun h => absurd h h10, fun h => absurd h hk2⟩) h9

structure Asc (l : List Int) (n : Nat) : Prop where
  range : ∀ i (h : i < l.length), 0 ≤ l[i] ∧ l[i] < (n : Int)
  asc : ∀ i j (h : i < j) (hj : j < l.length), l[i] < l[j]
structure PartOk (g : Graph) (p : Part) : Prop where
  nodes : Asc p.nodes g.nodes.length
  edges : Asc p.edges g.edges.length
  ends : ∀ e ∈ p.edges, (g.edges.getD e.toNat default).src ∈ p.nodes ∧ (g.edges.getD e.toNat default).dst ∈ p.nodes
  small : p.nodes.length ≤ 1000 ∧ p.edges.length ≤ 1000

theorem pick_asc (q : Nat → Bool) (n : Nat) : Asc (pick q n) n := by
  have hp : (pick q n).Pairwise (· < ·) := by
    unfold pick
    rw [List.pairwise_map]
    refine ((List.pairwise_lt_range).filter _).imp ?_
    intro a b h
    exact Int.ofNat_lt.2 h
  have hm : ∀ x ∈ pick q n, 0 ≤ x ∧ x < (n : Int) := by
    intro x hx
    unfold pick at hx
    obtain ⟨a, ha, rfl⟩ := List.mem_map.1 hx
    have := List.mem_range.1 (List.mem_filter.1 ha).1
    exact ⟨Int.natCast_nonneg _, Int.ofNat_lt.2 this⟩
  exact ⟨fun i h => hm _ (List.getElem_mem h), fun i j h hj => List.pairwise_iff_getElem.1 hp i j (by omega) hj h⟩
theorem partX_ok {s : Sorts} {h : Host} (hv : VTr s h) {k : Int} (hk : k ≠ 2) : PartOk h.graph (partX s h.graph k) := by
  refine ⟨pick_asc _ _, pick_asc _ _, fun e he => ?_, ?_⟩
  · have he' : e ∈ pick _ _ := he
    rw [mem_pick] at he'
    obtain ⟨i, hi, h1, rfl⟩ := he'
    rw [Int.toNat_natCast]
    obtain ⟨h2, h3⟩ := hv.ends i hi k hk (by simpa using h1)
    obtain ⟨h4, h5⟩ := ends_of hv.ok (getD_mem hi)
    exact ⟨mem_part.2 ⟨h4, h2⟩, mem_part.2 ⟨h5, h3⟩⟩
  · have h1 := pick_len (fun i => decide (nodeS s h.graph i = k)) h.graph.nodes.length
    have h2 := pick_len (fun i => decide (edgeS s h.graph i = k)) h.graph.edges.length
    have h3 := hv.ok.nodes
    have h4 := hv.ok.edges
    exact ⟨by show (pick _ _).length ≤ _; omega, by show (pick _ _).length ≤ _; omega⟩
theorem Asc.inj {l : List Int} {n : Nat} (h : Asc l n) {i j : Nat} (hi : i < l.length) (hj : j < l.length) (e : l[i] = l[j]) : i = j := by
  rcases Nat.lt_trichotomy i j with h1 | h1 | h1
  · have := h.asc i j h1 hj; omega
  · exact h1
  · have := h.asc j i h1 hi; omega
def posL (l : List Int) (x : Int) : Nat := l.idxOf x
theorem Asc.pos {l : List Int} {n : Nat} (h : Asc l n) {i : Nat} (hi : i < l.length) {x : Int} (e : l[i] = x) : posL l x = i := by
  have hm : x ∈ l := by rw [← e]; exact List.getElem_mem hi
  have h1 : posL l x < l.length := List.idxOf_lt_length_iff.2 hm
  exact h.inj h1 hi (by rw [e]; exact List.getElem_idxOf h1)
end Go.Proofs.YtdlohnchnneaeaaGreat
/- What the printed functions of subgraphs, parts and sides answer. -/
namespace Go.Proofs.YtdlohnchnneaeaaGreat
open Go.Abs

theorem l_subgraph_list {l : List Int} {n : Nat} (h : Asc l n) (hl : l.length ≤ 1000) : f_subgraph_list l (n : Int) = some 0 := by
  refine Ok.eq ?_
  unfold f_subgraph_list
  refine ok_chk (by unfold fuel; omega) ?_
  refine ok_forN (fun j _ => True) (Nat.zero_le _) trivial (fun j s nxt _ hj _ hn => ?_) (fun s _ => .mk rfl)
  have hr := h.range j hj
  refine ok_at hj ?_
  refine ok_f (decide_eq_false (by omega)) ?_
  refine ok_f (decide_eq_false (by omega)) ?_
  refine ok_cond (fun h0 => ?_) (fun _ => hn _ trivial)
  have h0' := of_decide_eq_true h0
  have hw : IntKind.i64.wrap ((j : Int) - 1) = ((j - 1 : Nat) : Int) := by rw [wrapI (by omega)]; omega
  rw [hw]
  refine ok_atZ (by omega) (by omega) ?_
  have := h.asc (j - 1) j (by omega) hj
  refine ok_f (decide_eq_false ?_) (hn _ trivial)
  simp only [Int.toNat_natCast]
  omega
theorem l_scarfjointref07_ascending {l : List Int} {n : Nat} (h : Asc l n) (hl : l.length ≤ 1000) : f_scarfjointref07_ascending l (n : Int) = some 0 := by
  refine Ok.eq ?_
  unfold f_scarfjointref07_ascending
  refine ok_chk (by unfold fuel; omega) ?_
  refine ok_forN (fun j _ => True) (Nat.zero_le _) trivial (fun j s nxt _ hj _ hn => ?_) (fun s _ => .mk rfl)
  have hr := h.range j hj
  refine ok_at hj ?_
  refine ok_f (decide_eq_false (by omega)) ?_
  refine ok_f (decide_eq_false (by omega)) ?_
  refine ok_cond (fun h0 => ?_) (fun _ => hn _ trivial)
  have h0' := of_decide_eq_true h0
  have hw : IntKind.i64.wrap ((j : Int) - 1) = ((j - 1 : Nat) : Int) := by rw [wrapI (by omega)]; omega
  rw [hw]
  refine ok_atZ (by omega) (by omega) ?_
  have := h.asc (j - 1) j (by omega) hj
  refine ok_f (decide_eq_false ?_) (hn _ trivial)
  simp only [Int.toNat_natCast]
  omega
theorem l_isNaN (a : Int) : f_cmp_isNaN_int a = some false := by simp [f_cmp_isNaN_int]
theorem l_less (a b : Int) : f_cmp_Less_int a b = some (decide (a < b)) := by
  refine Ok.eq ?_
  unfold f_cmp_Less_int
  refine ok_eq (l_isNaN a) ?_
  exact ok_f rfl (.mk rfl)
theorem half {m : Int} (h : 0 ≤ m ∧ m ≤ 4000000) : IntKind.i64.wrap ((IntKind.u64.wrap (IntKind.i64.wrap m)).fdiv (2 ^ 1)) = m / 2 := by
  rw [wrapI (n := m) (by omega), IntWalk.u64_in m (by omega)]
  have e : m.fdiv (2 ^ 1) = m / 2 := by
    rw [Int.fdiv_eq_ediv_of_nonneg _ (by decide)]
    rfl
  rw [e, wrapI (by omega)]
theorem l_search {l : List Int} {n : Nat} (h : Asc l n) (hl : l.length ≤ 1000) {x : Int} (hx : x ∈ l) : f_slices_BinarySearch_int l x = some ((posL l x : Int), true) := by
  refine Ok.eq ?_
  obtain ⟨q, hq, hqx⟩ := List.mem_iff_getElem.1 hx
  unfold f_slices_BinarySearch_int
  refine ok_iter (fun s : Int × Int => 0 ≤ s.1 ∧ s.1 ≤ q ∧ (q : Int) ≤ s.2 ∧ s.2 ≤ l.length) (fun s : Int × Int => (s.2 - s.1).toNat) ⟨by simp, by simp, by simp; omega, by simp⟩ (by unfold fuel; simp; omega) ?_
  rintro ⟨i, j⟩ nxt ⟨h1, h2, h3, h4⟩ hn
  simp only at h1 h2 h3 h4 hn ⊢
  refine ok_cond (fun hc => ?_) (fun hc => ?_)
  · have hc' := of_decide_eq_true hc
    rw [half (by omega)]
    have b1 : i ≤ (i + j) / 2 := by omega
    have b2 : (i + j) / 2 < j := by omega
    refine ok_atZ (by omega) (by omega) ?_
    refine ok_eq (l_less _ _) ?_
    refine ok_cond (fun hd => ?_) (fun hd => ?_)
    · have hd' := of_decide_eq_true hd
      have : ((i + j) / 2).toNat < q := by
        rcases Nat.lt_trichotomy ((i + j) / 2).toNat q with h5 | h5 | h5
        · exact h5
        · subst h5; omega
        · have := h.asc q _ h5 (by omega); omega
      rw [wrapI (by omega)]
      exact hn _ ⟨by simp only; omega, by simp only; omega, h3, h4⟩ (by simp only; omega)
    · have hd' := of_decide_eq_false hd
      have : q ≤ ((i + j) / 2).toNat := by
        rcases Nat.lt_or_ge ((i + j) / 2).toNat q with h5 | h5
        · have := h.asc _ q h5 hq; omega
        · exact h5
      exact hn _ ⟨h1, h2, by simp only; omega, by simp only; omega⟩ (by simp only; omega)
  · have hc' := of_decide_eq_false hc
    have hi : i = q := by omega
    subst hi
    refine ok_t (decide_eq_true (by omega)) ?_
    refine ok_atZ (by omega) (by simpa using hq) ?_
    refine ok_t (decide_eq_true (by simpa using hqx)) ?_
    refine .mk ?_
    rw [h.pos hq hqx]
theorem l_has {l : List Int} {n : Nat} (h : Asc l n) (hl : l.length ≤ 1000) {x : Int} (hx : x ∈ l) : f_subgraph_has l x = some true := by
  refine Ok.eq ?_
  unfold f_subgraph_has
  exact ok_eq (l_search h hl hx) (.mk rfl)
theorem l_rhas {l : List Int} {n : Nat} (h : Asc l n) (hl : l.length ≤ 1000) {x : Int} (hx : x ∈ l) : f_scarfjointref07_has l x = some true := by
  refine Ok.eq ?_
  obtain ⟨q, hq, hqx⟩ := List.mem_iff_getElem.1 hx
  unfold f_scarfjointref07_has
  refine ok_chk (by unfold fuel; omega) ?_
  refine ok_forN (fun j _ => j ≤ q) (Nat.zero_le _) (Nat.zero_le _) (fun j s nxt _ hj hjq hn => ?_) (fun s hs => by exfalso; omega)
  refine ok_at hj ?_
  refine ok_cond (fun _ => .mk rfl) (fun hc => hn _ ?_)
  have hc' := of_decide_eq_false hc
  rcases Nat.lt_or_ge j q with h1 | h1
  · exact h1
  · have : j = q := by omega
    subst this
    exact absurd hqx hc'
theorem l_index {l : List Int} {n : Nat} (h : Asc l n) (hl : l.length ≤ 1000) {x : Int} (hx : x ∈ l) : f_scarfjointref07_index l x = some (posL l x : Int) := by
  refine Ok.eq ?_
  obtain ⟨q, hq, hqx⟩ := List.mem_iff_getElem.1 hx
  unfold f_scarfjointref07_index
  refine ok_chk (by unfold fuel; omega) ?_
  refine ok_forN (fun j _ => j ≤ q) (Nat.zero_le _) (Nat.zero_le _) (fun j s nxt _ hj hjq hn => ?_) (fun s hs => by exfalso; omega)
  refine ok_at hj ?_
  refine ok_cond (fun hc => .mk ?_) (fun hc => hn _ ?_)
  · rw [h.pos hj (of_decide_eq_true hc)]
  have hc' := of_decide_eq_false hc
  rcases Nat.lt_or_ge j q with h1 | h1
  · exact h1
  · have : j = q := by omega
    subst this
    exact absurd hqx hc'

theorem edge_at {g : Graph} {p : Part} (h : PartOk g p) {j : Nat} (hj : j < p.edges.length) : ∃ hi : p.edges[j].toNat < g.edges.length, 0 ≤ p.edges[j] ∧ (g.edges[p.edges[j].toNat]).src ∈ p.nodes ∧ (g.edges[p.edges[j].toNat]).dst ∈ p.nodes := by
  have hr := h.edges.range j hj
  have hi : p.edges[j].toNat < g.edges.length := by omega
  refine ⟨hi, hr.1, ?_⟩
  have := h.ends _ (List.getElem_mem hj)
  have e : g.edges.getD p.edges[j].toNat default = g.edges[p.edges[j].toNat] := by simp [hi]
  rw [e] at this
  exact this
theorem l_subgraph_part {g : Graph} {p : Part} (h : PartOk g p) : f_subgraph_part g p = some 0 := by
  have hs := h.small
  refine Ok.eq ?_
  unfold f_subgraph_part
  refine ok_eq (l_subgraph_list h.nodes hs.1) ?_
  refine ok_t rfl ?_
  refine ok_eq (l_subgraph_list h.edges hs.2) ?_
  refine ok_t rfl ?_
  refine ok_chk (by unfold fuel; omega) ?_
  refine ok_forN (fun j _ => True) (Nat.zero_le _) trivial (fun j s nxt _ hj _ hn => ?_) (fun s _ => .mk rfl)
  obtain ⟨hi, h0, h1, h2⟩ := edge_at h hj
  refine ok_at hj ?_
  refine ok_atZ h0 hi ?_
  refine ok_eq (l_has h.nodes hs.1 h1) ?_
  refine ok_t rfl ?_
  refine ok_eq (l_has h.nodes hs.1 h2) ?_
  exact ok_t rfl (hn _ trivial)
theorem l_scarfjointref07_Right {g : Graph} {p : Part} (h : PartOk g p) : f_scarfjointref07_Right g p = some 0 := by
  have hs := h.small
  refine Ok.eq ?_
  unfold f_scarfjointref07_Right
  refine ok_eq (l_scarfjointref07_ascending h.nodes hs.1) ?_
  refine ok_t rfl ?_
  refine ok_eq (l_scarfjointref07_ascending h.edges hs.2) ?_
  refine ok_t rfl ?_
  refine ok_chk (by unfold fuel; omega) ?_
  refine ok_forN (fun j _ => True) (Nat.zero_le _) trivial (fun j s nxt _ hj _ hn => ?_) (fun s _ => .mk rfl)
  obtain ⟨hi, h0, h1, h2⟩ := edge_at h hj
  refine ok_at hj ?_
  refine ok_atZ h0 hi ?_
  refine ok_eq (l_rhas h.nodes hs.1 h1) ?_
  refine ok_t rfl ?_
  refine ok_eq (l_rhas h.nodes hs.1 h2) ?_
  exact ok_t rfl (hn _ trivial)
end Go.Proofs.YtdlohnchnneaeaaGreat
/- Sides: both functions answer alike. -/
namespace Go.Proofs.YtdlohnchnneaeaaGreat
open Go.Abs

def extG (g : Graph) (p : Part) : Graph := ⟨p.nodes.map (fun n => g.nodes.getD n.toNat default), p.edges.map (fun n => ⟨(g.edges.getD n.toNat default).type, posL p.nodes (g.edges.getD n.toNat default).src, posL p.nodes (g.edges.getD n.toNat default).dst⟩)⟩
def extH (h : Host) (p : Part) : Host := ⟨extG h.graph p, p.nodes.map (fun n => h.values.getD n.toNat default)⟩
theorem node_at {g : Graph} {p : Part} (h : PartOk g p) {j : Nat} (hj : j < p.nodes.length) : ∃ _ : p.nodes[j].toNat < g.nodes.length, 0 ≤ p.nodes[j] := by
  have hr := h.nodes.range j hj
  exact ⟨by omega, hr.1⟩

theorem l_subgraph_Valid {g : Graph} (hf : FewG g) (hv : validG g = 0) {p : Part} (h : PartOk g p) : f_subgraph_Valid g p = some 0 := by
  refine Ok.eq ?_
  unfold f_subgraph_Valid
  refine ok_eq (r := validG g) (giv_t hf) ?_
  refine ok_t (decide_eq_true hv) ?_
  exact ok_eq (l_subgraph_part h) (.mk rfl)
theorem l_ref07_Valid {g : Graph} (hf : FewG g) (hv : validG g = 0) {p : Part} (h : PartOk g p) : f_scarfjointref07_Valid g p = some 0 := by
  refine Ok.eq ?_
  unfold f_scarfjointref07_Valid
  refine ok_eq (r := validG g) (giv_t hf) ?_
  refine ok_t (decide_eq_true hv) ?_
  exact ok_eq (l_scarfjointref07_Right h) (.mk rfl)
theorem l_clone {l : List Int} (hl : l.length ≤ 1000000) : f_slices_Clone_int l = some l := giv_t hl

theorem l_subgraph_Extract {g : Graph} (hf : FewG g) (hv : validG g = 0) {p : Part} (h : PartOk g p) : f_subgraph_Extract g p = some (extG g p, ⟨p.nodes, p.edges⟩, 0) := by
  have hs := h.small
  refine Ok.eq ?_
  unfold f_subgraph_Extract
  refine ok_eq (l_subgraph_Valid hf hv h) ?_
  refine ok_t rfl ?_
  refine ok_chk (by unfold fuel; omega) ?_
  refine ok_map p.nodes (fun n => g.nodes.getD n.toNat default) (fun j s nxt hj hsl hn => ?_) ?_
  · obtain ⟨hi, h0⟩ := node_at h hj
    refine ok_at hj ?_
    refine ok_atZ h0 hi ?_
    refine ok_chk (by omega) ?_
    have e : g.nodes.getD p.nodes[j].toNat default = g.nodes[p.nodes[j].toNat] := by simp [hi]
    rw [e] at hn
    exact hn
  refine ok_chk (by unfold fuel; omega) ?_
  refine ok_map p.edges (fun n => (⟨(g.edges.getD n.toNat default).type, posL p.nodes (g.edges.getD n.toNat default).src, posL p.nodes (g.edges.getD n.toNat default).dst⟩ : Edge)) (fun j s nxt hj hsl hn => ?_) ?_
  · obtain ⟨hi, h0, h1, h2⟩ := edge_at h hj
    refine ok_at hj ?_
    refine ok_atZ h0 hi ?_
    refine ok_eq (l_search h.nodes hs.1 h1) ?_
    refine ok_eq (l_search h.nodes hs.1 h2) ?_
    refine ok_chk (by omega) ?_
    have e : g.edges.getD p.edges[j].toNat default = g.edges[p.edges[j].toNat] := by simp [hi]
    rw [e] at hn
    exact hn
  refine ok_eq (l_clone (by omega)) ?_
  refine ok_eq (l_clone (by omega)) ?_
  exact .mk rfl
theorem l_ref07_Extract {g : Graph} (hf : FewG g) (hv : validG g = 0) {p : Part} (h : PartOk g p) : f_scarfjointref07_Extract g p = some (extG g p, ⟨p.nodes, p.edges⟩, 0) := by
  have hs := h.small
  refine Ok.eq ?_
  unfold f_scarfjointref07_Extract
  refine ok_eq (l_ref07_Valid hf hv h) ?_
  refine ok_t rfl ?_
  refine ok_chk (by unfold fuel; omega) ?_
  refine ok_map p.nodes (fun n => g.nodes.getD n.toNat default) (fun j s nxt hj hsl hn => ?_) ?_
  · obtain ⟨hi, h0⟩ := node_at h hj
    refine ok_at hj ?_
    refine ok_atZ h0 hi ?_
    refine ok_chk (by omega) ?_
    have e : g.nodes.getD p.nodes[j].toNat default = g.nodes[p.nodes[j].toNat] := by simp [hi]
    rw [e] at hn
    exact hn
  refine ok_chk (by unfold fuel; omega) ?_
  refine ok_map p.edges (fun n => (⟨(g.edges.getD n.toNat default).type, posL p.nodes (g.edges.getD n.toNat default).src, posL p.nodes (g.edges.getD n.toNat default).dst⟩ : Edge)) (fun j s nxt hj hsl hn => ?_) ?_
  · obtain ⟨hi, h0, h1, h2⟩ := edge_at h hj
    refine ok_at hj ?_
    refine ok_atZ h0 hi ?_
    refine ok_eq (l_index h.nodes hs.1 h1) ?_
    refine ok_eq (l_index h.nodes hs.1 h2) ?_
    refine ok_chk (by omega) ?_
    have e : g.edges.getD p.edges[j].toNat default = g.edges[p.edges[j].toNat] := by simp [hi]
    rw [e] at hn
    exact hn
  refine ok_chk (by omega) ?_
  refine ok_chk (by omega) ?_
  exact .mk rfl

theorem validTr_parts {t : Types} {s : Sorts} {h : Host} (hv : validTr t s h = 0) : (validH t h).2 = 0 ∧ validG h.graph = 0 := by
  unfold validTr at hv
  split at hv
  · rename_i h1; exact absurd hv h1
  refine ⟨hv, ?_⟩
  unfold validH at hv
  split at hv
  · rename_i h2; exact absurd hv h2
  split at hv
  · rename_i h2; exact absurd hv h2
  · rename_i h2; simpa using h2

theorem l_host_Extract {t : Types} (hf : FewT t) {s : Sorts} {h : Host} (hh : FewH h) (hv : validTr t s h = 0) {p : Part} (hp : PartOk h.graph p) : f_host_Extract t h p = some (extH h p, 0) := by
  have hs := hp.small
  obtain ⟨h1, h2⟩ := validTr_parts hv
  have hvt := vTr hf hv
  refine Ok.eq ?_
  unfold f_host_Extract
  have hv0 : f_host_valid t h = some 0 := by
    refine Ok.eq ?_
    unfold f_host_valid
    exact ok_eq (r := validH t h) (giv_t ⟨hf, hh⟩) (.mk h1)
  refine ok_eq hv0 ?_
  refine ok_t rfl ?_
  refine ok_eq (l_subgraph_Extract hh.graph h2 hp) ?_
  refine ok_t rfl ?_
  refine ok_chk (by unfold fuel; omega) ?_
  refine ok_map p.nodes (fun n => h.values.getD n.toNat default) (fun j s nxt hj hsl hn => ?_) (.mk rfl)
  obtain ⟨hi, h0⟩ := node_at hp hj
  have hi' : p.nodes[j].toNat < h.values.length := by rw [hvt.vals]; exact hi
  refine ok_at hj ?_
  refine ok_atZ h0 hi' ?_
  refine ok_eq (l_clone (by have := hh.row _ (List.getElem_mem hi'); omega)) ?_
  refine ok_chk (by omega) ?_
  have e : h.values.getD p.nodes[j].toNat default = h.values[p.nodes[j].toNat] := by simp [hi']
  rw [e] at hn
  exact hn
theorem l_ref15_Extract {t : Types} (hf : FewT t) {s : Sorts} {h : Host} (hh : FewH h) (hv : validTr t s h = 0) {p : Part} (hp : PartOk h.graph p) : f_scarfjointref15_Extract t h p = some (extH h p, 0) := by
  have hs := hp.small
  obtain ⟨h1, h2⟩ := validTr_parts hv
  have hvt := vTr hf hv
  refine Ok.eq ?_
  unfold f_scarfjointref15_Extract
  refine ok_eq (r := validH t h) (giv_t ⟨hf, hh⟩) ?_
  refine ok_t (decide_eq_true h1) ?_
  refine ok_eq (l_ref07_Extract hh.graph h2 hp) ?_
  refine ok_t rfl ?_
  dsimp only
  refine ok_chk (by unfold fuel; omega) ?_
  refine ok_map p.nodes (fun n => h.values.getD n.toNat default) (fun j s nxt hj hsl hn => ?_) (.mk rfl)
  obtain ⟨hi, h0⟩ := node_at hp hj
  have hi' : p.nodes[j].toNat < h.values.length := by rw [hvt.vals]; exact hi
  refine ok_at hj ?_
  refine ok_atZ h0 hi' ?_
  refine ok_chk (by have := hh.row _ (List.getElem_mem hi'); omega) ?_
  refine ok_chk (by omega) ?_
  have e : h.values.getD p.nodes[j].toNat default = h.values[p.nodes[j].toNat] := by simp [hi']
  rw [e] at hn
  exact hn

theorem l_triple_part {s : Sorts} {g : Graph} (ho : OkTr s g) (k : Int) : f_triple_part s g k = some (partX s g k) := by
  have hgn := ho.nodes
  have hge := ho.edges
  refine Ok.eq ?_
  unfold f_triple_part
  refine ok_chk (by unfold fuel; omega) ?_
  refine ok_forN (fun j o => o = pick (fun i => decide (nodeS s g i = k)) j) (Nat.zero_le _) rfl (fun j o nxt _ hj e hn => ?_) (fun o e => ?_)
  · subst e
    have hP := pick_succ (fun i => decide (nodeS s g i = k)) j
    have hL := pick_len (fun i => decide (nodeS s g i = k)) j
    have hk := ho.kind j hj
    have e1 : g.nodes.getD j default = g.nodes[j] := by simp [hj]
    rw [e1] at hk
    have e2 : s.nodes[g.nodes[j].toNat]'(by have := hk.2; have := hk.1; omega) = nodeS s g j := by unfold nodeS; rw [e1]; have := hk.2; have := hk.1; simp [show g.nodes[j].toNat < s.nodes.length by omega]
    refine ok_at hj ?_
    refine ok_atZ hk.1 (by have := hk.2; have := hk.1; omega) ?_
    rw [e2]
    refine ok_cond (fun h1 => ?_) (fun h1 => ?_)
    · rw [if_pos h1] at hP
      refine ok_chk (by omega) ?_
      exact hn _ hP.symm
    · rw [if_neg (by rw [h1]; decide)] at hP
      exact hn _ hP.symm
  subst e
  refine ok_chk (by unfold fuel; omega) ?_
  refine ok_forN (fun j o => o = pick (fun i => decide (edgeS s g i = k)) j) (Nat.zero_le _) rfl (fun j o nxt _ hj e hn => ?_) (fun o e => by subst e; exact .mk rfl)
  subst e
  have hP := pick_succ (fun i => decide (edgeS s g i = k)) j
  have hL := pick_len (fun i => decide (edgeS s g i = k)) j
  have hk := ho.type j hj
  have e1 : g.edges.getD j default = g.edges[j] := by simp [hj]
  rw [e1] at hk
  have e2 : s.edges[g.edges[j].type.toNat]'(by have := hk.2; have := hk.1; omega) = edgeS s g j := by unfold edgeS; rw [e1]; have := hk.2; have := hk.1; simp [show g.edges[j].type.toNat < s.edges.length by omega]
  refine ok_at hj ?_
  refine ok_atZ hk.1 (by have := hk.2; have := hk.1; omega) ?_
  rw [e2]
  refine ok_cond (fun h1 => ?_) (fun h1 => ?_)
  · rw [if_pos h1] at hP
    refine ok_chk (by omega) ?_
    exact hn _ hP.symm
  · rw [if_neg (by rw [h1]; decide)] at hP
    exact hn _ hP.symm

def sideX (t : Types) (s : Sorts) (h : Host) (k : Int) : Host × Part × Int :=
  if validTr t s h ≠ 0 then (⟨⟨[], []⟩, []⟩, ⟨[], []⟩, validTr t s h)
  else if k = 1 ∨ k = 3 then (extH h (partX s h.graph k), partX s h.graph k, 0) else (⟨⟨[], []⟩, []⟩, ⟨[], []⟩, 6)
theorem l_triple_Side {t : Types} (hf : FewT t) {s : Sorts} (hs : FewS s) {h : Host} (hh : FewH h) (k : Int) : f_triple_Side t s h k = some (sideX t s h k) := by
  refine Ok.eq ?_
  unfold f_triple_Side sideX
  refine ok_eq (r := validTr t s h) (giv_t ⟨hf, hs, hh⟩) ?_
  refine ok_cond (fun hc => ?_) (fun hc => .mk ?_)
  · have hv := of_decide_eq_true hc
    have hvt := vTr hf hv
    rw [if_neg (by rw [hv]; decide)]
    refine ok_cond (fun h1 => ?_) (fun h1 => ok_cond (fun h3 => ?_) (fun h3 => .mk ?_))
    · have h1' := of_decide_eq_true h1
      rw [if_pos (.inl h1')]
      refine ok_eq (l_triple_part hvt.ok k) ?_
      refine ok_eq (l_host_Extract hf hh hv (partX_ok hvt (by omega))) ?_
      exact ok_t rfl (.mk rfl)
    · have h3' := of_decide_eq_true h3
      rw [if_pos (.inr h3')]
      refine ok_eq (l_triple_part hvt.ok k) ?_
      refine ok_eq (l_host_Extract hf hh hv (partX_ok hvt (by omega))) ?_
      exact ok_t rfl (.mk rfl)
    · rw [if_neg (by have := of_decide_eq_false h1; have := of_decide_eq_false h3; omega)]
  · rw [if_pos (of_decide_eq_false hc)]
end Go.Proofs.YtdlohnchnneaeaaGreat
/- Small arguments; equal values; TripleSide. -/
namespace Go.Proofs.YtdlohnchnneaeaaGreat
open Go.Abs

theorem ok_all {α O : Type} {Q : O → Prop} {f : Nat → Unit → (Unit → Option O) → (Unit → Option O) → Option O} {K : Unit → Option O} (l : List α) (p : α → Prop)
    (hr : ∀ j (nxt : Unit → Option O) (hj : j < l.length), (p l[j] → Ok (nxt ()) Q) → Ok (f j () nxt K) Q) (he : (∀ x ∈ l, p x) → Ok (K ()) Q) : Ok (forN f (l.length - 0) 0 () K) Q := by
  refine ok_forN (fun j _ => ∀ i (h : i < l.length), i < j → p l[i]) (Nat.zero_le _) (fun i _ h => absurd h (Nat.not_lt_zero i)) (fun j s nxt _ hj hq hn => ?_) (fun s hq => ?_)
  · refine hr j nxt hj fun hp => hn () fun i h hi => ?_
    rcases Nat.lt_succ_iff_lt_or_eq.1 hi with h' | h'
    · exact hq i h h'
    · subst h'; exact hp
  · refine he fun x hx => ?_
    obtain ⟨i, hi, rfl⟩ := List.mem_iff_getElem.1 hx
    exact hq i hi hi

theorem l_sameInts {a : List Int} (h : a.length ≤ 1000000) : f_scarfjointref05_SameInts a a = some true := by
  refine Ok.eq ?_
  unfold f_scarfjointref05_SameInts
  refine ok_t (decide_eq_true rfl) ?_
  refine ok_chk (by unfold fuel; omega) ?_
  refine ok_all a (fun _ => True) (fun i nxt hi hn => ?_) (fun _ => .mk rfl)
  refine ok_at hi ?_
  refine ok_at hi ?_
  exact ok_t (decide_eq_true rfl) (hn trivial)
theorem l_sameG {g : Graph} (h : g.nodes.length ≤ 1000000 ∧ g.edges.length ≤ 1000000) : f_scarfjointref05_Same g g = some true := by
  refine Ok.eq ?_
  unfold f_scarfjointref05_Same
  refine ok_eq (l_sameInts h.1) ?_
  refine ok_t rfl ?_
  refine ok_t (decide_eq_true rfl) ?_
  refine ok_chk (by unfold fuel; omega) ?_
  refine ok_all g.edges (fun _ => True) (fun i nxt hi hn => ?_) (fun _ => .mk rfl)
  refine ok_at hi ?_
  refine ok_at hi ?_
  exact ok_t (by simp) (hn trivial)
theorem l_compare {a : List Int} (h : a.length ≤ 1000000) : f_scarfjointref15_compare a a = some 0 := by
  refine Ok.eq ?_
  unfold f_scarfjointref15_compare
  refine ok_iter (fun s : Int => 0 ≤ s ∧ s ≤ a.length) (fun s : Int => ((a.length : Int) - s).toNat) ⟨by simp, by simp⟩ (by unfold fuel; simp; omega) (fun s nxt hs hn => ?_)
  refine ok_cond (fun h1 => ?_) (fun h1 => .mk ?_)
  · have h1' := of_decide_eq_true h1
    refine ok_t h1 ?_
    refine ok_atZ hs.1 (by omega) ?_
    refine ok_atZ hs.1 (by omega) ?_
    refine ok_t (decide_eq_true rfl) ?_
    rw [wrapI (by omega)]
    exact hn _ ⟨by omega, by omega⟩ (by omega)
  · rw [Int.sub_self]; rfl
theorem l_sameH {h : Host} (h1 : h.graph.nodes.length ≤ 1000000 ∧ h.graph.edges.length ≤ 1000000) (h2 : h.values.length ≤ 1000000) (h3 : ∀ l ∈ h.values, l.length ≤ 1000000) : f_scarfjointref15_Same h h = some true := by
  refine Ok.eq ?_
  unfold f_scarfjointref15_Same
  refine ok_eq (l_sameG h1) ?_
  refine ok_t rfl ?_
  refine ok_t (decide_eq_true rfl) ?_
  refine ok_chk (by unfold fuel; omega) ?_
  refine ok_all h.values (fun _ => True) (fun i nxt hi hn => ?_) (fun _ => .mk rfl)
  refine ok_at hi ?_
  refine ok_at hi ?_
  refine ok_eq (l_compare (h3 _ (List.getElem_mem hi))) ?_
  exact ok_t rfl (hn trivial)
theorem l_sameP {p : Part} (h : p.nodes.length ≤ 1000000 ∧ p.edges.length ≤ 1000000) : f_scarfjointref07_Same p p = some true := by
  refine Ok.eq ?_
  unfold f_scarfjointref07_Same
  refine ok_eq (l_sameInts h.1) ?_
  refine ok_t rfl ?_
  exact ok_eq (l_sameInts h.2) (.mk rfl)

theorem sideX_small {t : Types} (hf : FewT t) {s : Sorts} {h : Host} (hh : FewH h) (k : Int) :
    ((sideX t s h k).1.graph.nodes.length ≤ 1000000 ∧ (sideX t s h k).1.graph.edges.length ≤ 1000000) ∧ (sideX t s h k).1.values.length ≤ 1000000 ∧ (∀ l ∈ (sideX t s h k).1.values, l.length ≤ 1000000) ∧
    ((sideX t s h k).2.1.nodes.length ≤ 1000000 ∧ (sideX t s h k).2.1.edges.length ≤ 1000000) := by
  unfold sideX
  split
  · simp
  rename_i hv
  split
  · have hvt := vTr hf (by simpa using hv)
    rename_i hk
    have hp := (partX_ok hvt (k := k) (by omega)).small
    refine ⟨⟨?_, ?_⟩, ?_, ?_, by dsimp only; omega, by dsimp only; omega⟩
    · show (List.map _ _).length ≤ _; rw [List.length_map]; omega
    · show (List.map _ _).length ≤ _; rw [List.length_map]; omega
    · show (List.map _ _).length ≤ _; rw [List.length_map]; omega
    · intro l hl
      have hl' : l ∈ List.map _ _ := hl
      obtain ⟨n, hn, rfl⟩ := List.mem_map.1 hl'
      by_cases h0 : n.toNat < h.values.length
      · have := hh.row _ (getD_mem (a := n.toNat) h0)
        omega
      · have : h.values.getD n.toNat default = [] := by simp [Nat.le_of_not_lt h0]; rfl
        rw [this]; simp
  · simp

end Go.Proofs.YtdlohnchnneaeaaGreat
/- Loops with an end of their own. Program-independent. -/
namespace Go.Abs
section
variable {σ O α : Type} {Q : O → Prop}
theorem ok_iterB {f : σ → (σ → Option O) → (σ → Option O) → Option O} {K : σ → Option O} (φ ψ : σ → Prop) (μ : σ → Nat) {n : Nat} {s : σ} (h0 : φ s) (hm : μ s < n)
    (hr : ∀ s (nxt brk : σ → Option O), φ s → (∀ s', φ s' → μ s' < μ s → Ok (nxt s') Q) → (∀ s', ψ s' → Ok (brk s') Q) → Ok (f s nxt brk) Q) (he : ∀ s, ψ s → Ok (K s) Q) : Ok (iter f n s K) Q :=
  ok_iter φ μ h0 hm fun s nxt hs hn => hr s nxt K hs hn he
end
end Go.Abs
/- Drafts over the example's types: what they make. -/
namespace Go.Proofs.YtdlohnchnneaeaaGreat
open Go.Abs

theorem ex_concrete : f_scarfjointref15_concrete exT = some [0, 1, 2, 3, 4] := by kernel_rfl
theorem ex_validT : (validT exT).2 = 0 := by kernel_rfl
theorem ex_given {a b : Int} (ha : 0 ≤ a ∧ a < 5) (hb : 0 ≤ b ∧ b < 5) : f_scarfjointref04_given exT a b = some 0 := by
  have e5 : IntKind.i64.wrap (((exT.nodes.length : Nat) : Int) - 1) = 4 := by decide
  have hin : ∀ c : Int, 0 ≤ c ∧ c < 5 → f_scarfjointref04_in c 0 4 = some true := fun c hc => by
    unfold f_scarfjointref04_in
    rw [decide_eq_true hc.1, decide_eq_true (by omega : c ≤ 4)]
    rfl
  refine Ok.eq ?_
  unfold f_scarfjointref04_given
  refine ok_eq (r := validT exT) (giv_t exFew.1) ?_
  refine ok_t (decide_eq_true ex_validT) ?_
  rw [e5]
  refine ok_eq (hin a ha) ?_
  refine ok_t rfl ?_
  refine ok_eq (hin b hb) ?_
  exact ok_t rfl (.mk rfl)
theorem ex_attrs0 : f_scarfjointref04_attrs fuel exT 0 = some [] := by kernel_rfl
theorem ex_attrs1 : f_scarfjointref04_attrs fuel exT 1 = some [] := by kernel_rfl
theorem ex_attrs2 : f_scarfjointref04_attrs fuel exT 2 = some [] := by kernel_rfl
theorem ex_attrs3 : f_scarfjointref04_attrs fuel exT 3 = some [] := by kernel_rfl
theorem ex_attrs4 : f_scarfjointref04_attrs fuel exT 4 = some [] := by kernel_rfl
theorem five {a : Int} (h : 0 ≤ a ∧ a < 5) : a = 0 ∨ a = 1 ∨ a = 2 ∨ a = 3 ∨ a = 4 := by omega
theorem six {a : Int} (h : 0 ≤ a ∧ a < 6) : a = 0 ∨ a = 1 ∨ a = 2 ∨ a = 3 ∨ a = 4 ∨ a = 5 := by omega
theorem ex_attrs {a : Int} (h : 0 ≤ a ∧ a < 5) : f_scarfjointref04_attrs fuel exT a = some [] := by
  rcases five h with rfl | rfl | rfl | rfl | rfl
  · exact ex_attrs0
  · exact ex_attrs1
  · exact ex_attrs2
  · exact ex_attrs3
  · exact ex_attrs4
theorem ex_Attrs {a : Int} (h : 0 ≤ a ∧ a < 5) : f_scarfjointref04_Attrs exT a = some ([], 0) := by
  refine Ok.eq ?_
  unfold f_scarfjointref04_Attrs
  refine ok_eq (ex_given h h) ?_
  refine ok_t rfl ?_
  refine ok_eq (ex_attrs h) ?_
  refine ok_chk (Nat.zero_le _) ?_
  exact .mk rfl
theorem ex_node {a : Int} (h : 0 ≤ a ∧ a < 5) : ∃ x, atZ exT.nodes a = some x ∧ x.parent = -1 ∧ x.attrs = [] ∧ x.abs = false := by
  rcases five h with rfl | rfl | rfl | rfl | rfl <;> exact ⟨_, rfl, rfl, rfl, rfl⟩
theorem ex_below (n : Nat) {a c : Int} (ha : 0 ≤ a ∧ a < 5) (hc : 0 ≤ c) : f_scarfjointref04_Below1 (n + 2) exT a c = some (decide (a = c)) := by
  obtain ⟨x, h1, h2, _⟩ := ex_node ha
  refine Ok.eq ?_
  unfold f_scarfjointref04_Below1
  refine ok_cond (fun h => .mk (by rw [h])) (fun h => ?_)
  refine ok_t (decide_eq_true ha.1) ?_
  refine ok_eq h1 ?_
  rw [h2]
  refine ok_eq (r := false) ?_ (.mk h.symm)
  unfold f_scarfjointref04_Below1
  rw [decide_eq_false (by omega : ¬ (-1 : Int) = c)]
  rfl
def exSrc (e : Int) : Int := (exT.edges.getD e.toNat default).src
def exDst (e : Int) : Int := (exT.edges.getD e.toNat default).dst
theorem ex_edge {e : Int} (h : 0 ≤ e ∧ e < 6) : ∃ x, atZ exT.edges e = some x ∧ x.src = exSrc e ∧ x.dst = exDst e ∧ 0 ≤ exSrc e ∧ 0 ≤ exDst e := by
  rcases six h with rfl | rfl | rfl | rfl | rfl | rfl <;> exact ⟨_, rfl, rfl, rfl, by decide, by decide⟩
theorem ex_fits {e a b : Int} (he : 0 ≤ e ∧ e < 6) (ha : 0 ≤ a ∧ a < 5) (hb : 0 ≤ b ∧ b < 5) : f_scarfjointref04_Fits exT e a b = some (decide (a = exSrc e) && decide (b = exDst e)) := by
  have e5 : IntKind.i64.wrap (((exT.edges.length : Nat) : Int) - 1) = 5 := by decide
  obtain ⟨x, h1, h2, h3, h4, h5⟩ := ex_edge he
  refine Ok.eq ?_
  unfold f_scarfjointref04_Fits
  refine ok_eq (ex_given ha hb) ?_
  refine ok_t rfl ?_
  rw [e5]
  refine ok_eq (r := true) ?_ ?_
  · unfold f_scarfjointref04_in
    rw [decide_eq_true he.1, decide_eq_true (by omega : e ≤ 5)]
    rfl
  refine ok_t rfl ?_
  refine ok_eq h1 ?_
  refine ok_eq (r := decide (a = exSrc e)) (by rw [h2]; exact ex_below _ ha h4) ?_
  refine ok_cond (fun k1 => ?_) (fun k1 => .mk (by rw [k1]; rfl))
  refine ok_eq (r := decide (b = exDst e)) (by rw [h3]; exact ex_below _ hb h5) (.mk ?_)
  rw [k1]
  rfl

structure ExH (h : Host) : Prop where
  nodes : h.graph.nodes.length ≤ 20
  edges : h.graph.edges.length ≤ 20
  kind : ∀ n ∈ h.graph.nodes, 0 ≤ n ∧ n < 5
  vals : h.values = h.graph.nodes.map fun _ => []
  edge : ∀ x ∈ h.graph.edges, (0 ≤ x.type ∧ x.type < 6) ∧ (0 ≤ x.src ∧ x.src < h.graph.nodes.length) ∧ (0 ≤ x.dst ∧ x.dst < h.graph.nodes.length) ∧ h.graph.nodes.getD x.src.toNat default = exSrc x.type ∧ h.graph.nodes.getD x.dst.toNat default = exDst x.type
def OkDraft (d : T_scarfjointref15_Draft) : Prop := (∀ x ∈ d.nodes, (0 ≤ x.x0 ∧ x.x0 ≤ 255) ∧ (0 ≤ x.x1 ∧ x.x1 ≤ 255)) ∧ (∀ x ∈ d.edges, (0 ≤ x.x0 ∧ x.x0 ≤ 255) ∧ (0 ≤ x.x1 ∧ x.x1 ≤ 255) ∧ (0 ≤ x.x2 ∧ x.x2 ≤ 255))
theorem tmodB {a b : Int} (ha : 0 ≤ a) (hb : 0 < b) : 0 ≤ a.tmod b ∧ a.tmod b < b := ⟨Int.tmod_nonneg _ ha, Int.tmod_lt_of_pos _ hb⟩

theorem made_ok (d : T_scarfjointref15_Draft) (hd : OkDraft d) : Ok (f_scarfjointref15_Made exT d) (fun h => ExH h ∧ h.graph.nodes.length ≤ 8 ∧ h.graph.edges.length ≤ 10) := by
  unfold f_scarfjointref15_Made
  refine ok_eq ex_concrete ?_
  refine ok_iterB (fun s : Int × List Int × List (List Int) => s.1 = s.2.1.length ∧ s.2.1.length ≤ 8 ∧ s.2.2 = s.2.1.map (fun _ => []) ∧ ∀ n ∈ s.2.1, 0 ≤ n ∧ n < 5)
    (fun s => s.2.1.length ≤ 8 ∧ s.2.2 = s.2.1.map (fun _ => []) ∧ ∀ n ∈ s.2.1, 0 ≤ n ∧ n < 5) (fun s => 8 - s.2.1.length) ⟨rfl, by decide, rfl, by simp⟩ (by unfold fuel; simp) ?_ ?_
  · rintro ⟨i, ns, vs⟩ nxt brk ⟨h1, h2, h3, h4⟩ hn hb
    dsimp only at h1 h2 h3 h4 hn hb ⊢
    refine ok_cond (fun c1 => ?_) (fun _ => hb _ ⟨h2, h3, h4⟩)
    refine ok_cond (fun c2 => ?_) (fun _ => hb _ ⟨h2, h3, h4⟩)
    refine ok_t rfl ?_
    have c1 := of_decide_eq_true c1
    have c2 := of_decide_eq_true c2
    have hi : i.toNat < d.nodes.length := by omega
    refine ok_atZ (by omega) hi ?_
    obtain ⟨k1, _⟩ := hd.1 _ (List.getElem_mem hi)
    refine ok_chk (by decide) ?_
    rw [wrapI (by omega)]
    have hm := tmodB (b := 5) k1.1 (by decide)
    have hm2 : (0 ≤ (d.nodes[i.toNat].x0).tmod 5 ∧ (d.nodes[i.toNat].x0).tmod 5 < 5) := hm
    obtain ⟨kind, hk1, hk2⟩ : ∃ kind : Int, atZ ([0, 1, 2, 3, 4] : List Int) ((d.nodes[i.toNat].x0).tmod 5) = some kind ∧ 0 ≤ kind ∧ kind < 5 := by
      rcases five hm2 with e | e | e | e | e <;> rw [e] <;> exact ⟨_, rfl, by decide, by decide⟩
    refine ok_eq (r := kind) hk1 ?_
    refine ok_eq (ex_Attrs hk2) ?_
    refine ok_chk (Nat.zero_le _) ?_
    show Ok (chk (ns.length + 1 ≤ 68719476736) _) _
    refine ok_chk (by omega) ?_
    have hl : vs.length = ns.length := by rw [h3, List.length_map]
    refine ok_chk (by rw [hl]; omega) ?_
    rw [wrapI (by omega)]
    refine hn _ ⟨by simp [h1], by simp; omega, by simp [h3], fun n hn' => ?_⟩ (by simp; omega)
    rcases List.mem_append.1 hn' with h | h
    · exact h4 n h
    · simp at h; subst h; exact hk2
  · rintro ⟨i, ns, vs⟩ ⟨h2, h3, h4⟩
    dsimp only at h2 h3 h4 ⊢
    refine ok_iterB (fun s : Int × List Edge => (0 ≤ s.1 ∧ s.1 ≤ 10 ∧ s.2.length ≤ s.1) ∧ ∀ x ∈ s.2, (0 ≤ x.type ∧ x.type < 6) ∧ (0 ≤ x.src ∧ x.src < ns.length) ∧ (0 ≤ x.dst ∧ x.dst < ns.length) ∧ ns.getD x.src.toNat default = exSrc x.type ∧ ns.getD x.dst.toNat default = exDst x.type)
      (fun s => s.2.length ≤ 10 ∧ ∀ x ∈ s.2, (0 ≤ x.type ∧ x.type < 6) ∧ (0 ≤ x.src ∧ x.src < ns.length) ∧ (0 ≤ x.dst ∧ x.dst < ns.length) ∧ ns.getD x.src.toNat default = exSrc x.type ∧ ns.getD x.dst.toNat default = exDst x.type)
      (fun s => (10 - s.1).toNat) ⟨by simp, by simp⟩ (by unfold fuel; simp) ?_ ?_
    · rintro ⟨j, es⟩ nxt brk ⟨g1, g2⟩ hn hb
      dsimp only at g1 g2 hn hb ⊢
      refine ok_cond (fun c1 => ?_) (fun _ => hb _ ⟨by simp only; omega, g2⟩)
      refine ok_cond (fun c2 => ?_) (fun _ => hb _ ⟨by simp only; omega, g2⟩)
      refine ok_cond (fun c3 => ?_) (fun _ => hb _ ⟨by simp only; omega, g2⟩)
      refine ok_t rfl ?_
      have c1 := of_decide_eq_true c1
      have c2 := of_decide_eq_true c2
      have c3 := of_decide_eq_true c3
      have hj : j.toNat < d.edges.length := by omega
      refine ok_atZ g1.1 hj ?_
      obtain ⟨q0, q1, q2⟩ := hd.2 _ (List.getElem_mem hj)
      refine ok_chk (by decide) ?_
      refine ok_chk (by omega) ?_
      refine ok_chk (by omega) ?_
      rw [wrapI (by omega), wrapI (by omega), wrapI (by omega)]
      have m0 := tmodB (b := 6) q0.1 (by decide)
      have m1 := tmodB (b := (ns.length : Int)) q1.1 c3
      have m2 := tmodB (b := (ns.length : Int)) q2.1 c3
      refine ok_atZ m1.1 (by omega) ?_
      refine ok_atZ m2.1 (by omega) ?_
      refine ok_eq (ex_fits m0 (h4 _ (List.getElem_mem _)) (h4 _ (List.getElem_mem _))) ?_
      rw [wrapI (by omega)]
      refine ok_cond (fun f1 => ?_) (fun _ => hn _ ⟨by simp only; omega, g2⟩ (by simp only; omega))
      refine ok_chk (by omega) ?_
      refine hn _ ⟨by simp only [List.length_append, List.length_cons, List.length_nil]; omega, fun x hx => ?_⟩ (by simp only; omega)
      rcases List.mem_append.1 hx with h | h
      · exact g2 x h
      · simp only [List.mem_cons, List.not_mem_nil, or_false] at h
        subst h
        simp only [Bool.and_eq_true, decide_eq_true_eq] at f1
        refine ⟨m0, m1, m2, ?_, ?_⟩
        · rw [← f1.1]; simp [List.getD_eq_getElem?_getD]; rw [List.getElem?_eq_getElem (by omega)]; rfl
        · rw [← f1.2]; simp [List.getD_eq_getElem?_getD]; rw [List.getElem?_eq_getElem (by omega)]; rfl
    · rintro ⟨j, es⟩ ⟨g1, g2⟩
      have g1 : es.length ≤ 10 := g1
      exact .mk ⟨⟨by dsimp only; omega, by dsimp only; omega, h4, h3, g2⟩, h2, g1⟩
end Go.Proofs.YtdlohnchnneaeaaGreat
/- What a reading of the arguments says of them: immutable data. Program-independent. -/
namespace Go.Abs
open Go.RowKit

variable {P : Program} {w : World} {H : Type} {enc : TypeId × Value → H}

def CellsR (w : World) (cs : List Value) (ps : List PV) : Prop := cs.length = ps.length ∧ (∀ (j : Nat) u c, cs[j]? = some u → ps[j]? = some c → VR (snap w) u c) ∧ ∀ u ∈ cs, u.oneCell' = true
def Light (P : Program) (t : TypeId) (d : DataW H) : Prop := ∀ n ∈ d.weights P t, n ≤ reachBytes

structure Dec (P : Program) (w : World) {H : Type} (enc : TypeId × Value → H) {α : Type} (t : TypeId) (sz : Nat) (e : α → List PV) (G : α → Prop) : Prop where
  len : ∀ a, (e a).length = sz
  dec : ∀ (sp : Nat → Bool) (hd : Bool) (fuel : Nat) (cs : List Value) (x : DataW H × List MemPlace), DataW.trod enc P w 0 sp hd fuel t cs = some x → Light P t x.1 → ∃ a, G a ∧ CellsR w cs (e a)

theorem CellsR.one {u : Value} {p : PV} (h : VR (snap w) u p) (h1 : u.oneCell' = true) : CellsR w [u] [p] :=
  ⟨rfl, fun j u' c hu hc => by
    cases j with
    | zero => simp at hu hc; subst hu hc; exact h
    | succ j => simp at hu, fun u' hu => by simp at hu; subst hu; exact h1⟩

theorem Dec.int {t : TypeId} (ht : P.underlying t = some (.int .i64)) : Dec P w enc t 1 (fun n : Int => [.val (.int .i64 n)]) (fun _ => True) :=
  ⟨fun _ => rfl, fun sp hd fuel cs x h _ => by
    obtain ⟨n, rfl, _⟩ := DataW.trod_int ht h
    exact ⟨n, trivial, .one (.val _ rfl) rfl⟩⟩
theorem Dec.bool {t : TypeId} (ht : P.underlying t = some .bool) : Dec P w enc t 1 (fun b : Bool => [.val (.bool b)]) (fun _ => True) :=
  ⟨fun _ => rfl, fun sp hd fuel cs x h _ => by
    obtain ⟨n, rfl, _⟩ := DataW.trod_bool ht h
    exact ⟨n, trivial, .one (.val _ rfl) rfl⟩⟩

theorem Dec.map {α β : Type} {t : TypeId} {sz : Nat} {e : α → List PV} {G : α → Prop} {e' : β → List PV} {G' : β → Prop} (g : α → β) (f : β → α) (hgf : ∀ b, e (f b) = e' b) (hg : ∀ a, e' (g a) = e a) (hG : ∀ a, G a → G' (g a)) (h : Dec P w enc t sz e G) : Dec P w enc t sz e' G' :=
  ⟨fun b => by rw [← hgf]; exact h.len _, fun sp hd fuel cs x hx hw => by
    obtain ⟨a, h1, h2⟩ := h.dec sp hd fuel cs x hx hw
    exact ⟨g a, hG a h1, by rw [hg]; exact h2⟩⟩

theorem weightsAll_mem {e : TypeId} : ∀ {ds : List (DataW H)} {d : DataW H}, d ∈ ds → ∀ n ∈ d.weights P e, n ∈ DataW.weightsAll P e ds
  | d0 :: r, d, hd, n, hn => by
    rw [DataW.weightsAll, List.mem_append]
    rcases List.mem_cons.1 hd with rfl | h
    · exact .inl hn
    · exact .inr (weightsAll_mem h n hn)

theorem mapM_some {α β : Type} {f : α → Option β} : ∀ {l : List α} {r : List β}, l.mapM f = some r → r.length = l.length ∧ ∀ (i : Nat) a, l[i]? = some a → r[i]? = f a := by
  intro l
  induction l with
  | nil => intro r h; simp at h; subst h; exact ⟨rfl, by simp⟩
  | cons a l ih =>
    intro r h
    rw [List.mapM_cons] at h
    cases ha : f a with
    | none => rw [ha] at h; cases h
    | some b =>
      rw [ha] at h
      cases hl : l.mapM f with
      | none => rw [hl] at h; cases h
      | some r' =>
        rw [hl] at h
        have : r = b :: r' := by simpa using h.symm
        subst this
        obtain ⟨h1, h2⟩ := ih hl
        refine ⟨by simp [h1], fun i x hx => ?_⟩
        cases i with
        | zero => simp at hx; subst hx; simp [ha]
        | succ i => simpa using h2 i x (by simpa using hx)

theorem cells_snap {a : Addr} {n : Nat} {cs : List Value} (h : w.cells? 0 a n = some cs) : cs.length = n ∧ (∀ (i : Nat) u, cs[i]? = some u → w.cell? (a.add i) = some u) := by
  unfold World.cells? at h
  rw [if_pos (Nat.zero_le _)] at h
  obtain ⟨h1, h2⟩ := mapM_some h
  refine ⟨by simpa using h1, fun i u hu => ?_⟩
  have hi : i < n := by
    have := (List.getElem?_eq_some_iff.1 hu).1
    simpa [h1] using this
  rw [← h2 i i (by simp [hi]), hu]
theorem spot_none {a : Addr} {u : Value} (h : w.cell? a = some u) : a.spot = none := by
  unfold World.cell? at h
  split at h
  · split at h
    · cases h
    · rename_i hs
      cases hsp : a.spot with
      | none => rfl
      | some _ => simp [hsp] at hs
  · cases h

theorem exists_list {α : Type} {n : Nat} {Q : Nat → α → Prop} (h : ∀ i, i < n → ∃ a, Q i a) : ∃ l : List α, l.length = n ∧ ∀ (i : Nat) a, l[i]? = some a → Q i a := by
  induction n with
  | zero => exact ⟨[], rfl, by simp⟩
  | succ n ih =>
    obtain ⟨l, h1, h2⟩ := ih fun i hi => h i (by omega)
    obtain ⟨a, ha⟩ := h n (by omega)
    refine ⟨l ++ [a], by simp [h1], fun i b hb => ?_⟩
    rcases Nat.lt_or_ge i l.length with hi | hi
    · rw [List.getElem?_append_left hi] at hb
      exact h2 i b hb
    · rw [List.getElem?_append_right hi] at hb
      have : i - l.length = 0 := by
        have := (List.getElem?_eq_some_iff.1 hb).1
        simp at this
        omega
      rw [this] at hb
      simp at hb
      subst hb
      have : i = n := by omega
      subst this
      exact ha
end Go.Abs
/- Slices and structures that were read. Program-independent. -/
namespace Go.Abs
open Go.RowKit

variable {P : Program} {w : World} {H : Type} {enc : TypeId × Value → H}

theorem addr_add {a : Addr} (h : a.spot = none) (n : Nat) : a.add n = ⟨a.block, a.off + n, none⟩ := by
  obtain ⟨b, o, s⟩ := a
  simp only at h
  subst h
  unfold Addr.add
  split
  · rename_i hn; simp [hn]
  · rfl

theorem vr_slice {α : Type} {ec : α → List PV} {sz : Nat} (h0 : 0 < sz) (hlen : ∀ a, (ec a).length = sz) {a : Addr} {len cap : Nat} (hcap : len ≤ cap) {l : List (α × List Value)} (hl : l.length = len)
    (h : ∀ (i : Nat) (x : α × List Value), l[i]? = some x → w.cells? 0 (a.add (i * sz)) sz = some x.2 ∧ CellsR w x.2 (ec x.1)) : VR (snap w) (.slice (some a) len cap) (.lst ((l.map (·.1)).map ec)) := by
  have hall : ∀ e ∈ (l.map (·.1)).map ec, e.length = sz := fun e he => by
    obtain ⟨x, _, rfl⟩ := List.mem_map.1 he
    exact hlen x
  have hcs : ∀ c ∈ l.map (·.2), c.length = sz := fun c hc => by
    obtain ⟨x, hx, rfl⟩ := List.mem_map.1 hc
    obtain ⟨i, hi⟩ := List.mem_iff_getElem?.1 hx
    exact (cells_snap (h i x hi).1).1
  have at' : ∀ (j : Nat) u, (l.map (·.2)).flatten[j]? = some u → ∃ x, l[j / sz]? = some x ∧ x.2[j % sz]? = some u := fun j u hu => by
    have hj : j < (l.map (·.2)).flatten.length := (List.getElem?_eq_some_iff.1 hu).1
    rw [flatten_len hcs, List.length_map] at hj
    have hd : j / sz < l.length := (Nat.div_lt_iff_lt_mul h0).2 hj
    have e2 := flatten_get hcs (j / sz) (j % sz) (by simpa using hd) (Nat.mod_lt _ h0)
    rw [Nat.div_add_mod' j sz, hu] at e2
    refine ⟨l[j / sz], List.getElem?_eq_getElem hd, ?_⟩
    rw [e2]
    simp [hd]
  refine .lst (some a) len cap _ (l.map (·.2)).flatten sz (by simp [hl]) hall ?_ (fun j u c hu hc => ?_) (fun u hu => ?_) ?_ (by simp) hcap
  · rw [flatten_len hcs, flatten_len hall]
    simp
  · obtain ⟨x, hx, hxu⟩ := at' j u hu
    have hd : j / sz < l.length := (List.getElem?_eq_some_iff.1 hx).1
    have e2 := flatten_get hall (j / sz) (j % sz) (by simpa using hd) (Nat.mod_lt _ h0)
    rw [Nat.div_add_mod' j sz, hc] at e2
    have e3 : ((l.map (·.1)).map ec).getD (j / sz) [] = ec x.1 := by
      have : l[j / sz] = x := by
        have := List.getElem?_eq_getElem hd
        rw [hx] at this
        exact (Option.some.inj this).symm
      simp [hd, this]
    rw [e3] at e2
    exact (h _ x hx).2.2.1 _ u c hxu e2.symm
  · obtain ⟨c, hc, huc⟩ := List.mem_flatten.1 hu
    obtain ⟨x, hx, rfl⟩ := List.mem_map.1 hc
    obtain ⟨i, hi⟩ := List.mem_iff_getElem?.1 hx
    exact (h i x hi).2.2.2 u huc
  · by_cases hn : (l.map (·.2)).flatten = []
    · exact .inl hn
    · right
      have hpos : 0 < l.length := by
        rcases Nat.eq_zero_or_pos l.length with h' | h'
        · exact absurd (by rw [List.length_eq_zero_iff.1 h']; rfl) hn
        · exact h'
      have hsp : a.spot = none := by
        have hx := h 0 l[0] (List.getElem?_eq_getElem hpos)
        obtain ⟨k1, k2⟩ := cells_snap hx.1
        have h00 : 0 < l[0].2.length := by rw [k1]; exact h0
        have := k2 0 l[0].2[0] (List.getElem?_eq_getElem h00)
        have := spot_none this
        simpa [Addr.add] using this
      refine ⟨a.block, a.off, ?_, fun j u hu => ?_⟩
      · obtain ⟨b, o, s⟩ := a
        simp only at hsp
        subst hsp
        rfl
      · obtain ⟨x, hx, hxu⟩ := at' j u hu
        have := (cells_snap (h _ x hx).1).2 _ u hxu
        rw [addr_add hsp, addr_add rfl] at this
        simp only at this
        rw [Nat.add_assoc, Nat.div_add_mod' j sz] at this
        exact this

theorem Dec.slice {α : Type} {t e : TypeId} {sz : Nat} {ec : α → List PV} {G : α → Prop} (ht : P.underlying t = some (.slice e)) (hc : P.cellsOf e = sz) (h0 : 0 < sz) (hb : 0 < P.bytesOf e) (he : Dec P w enc e sz ec G) :
    Dec P w enc t 1 (fun l : List α => [.lst (l.map ec)]) (fun l => (∀ a ∈ l, G a) ∧ l.length ≤ reachBytes) :=
  ⟨fun _ => rfl, fun sp hd fuel cs x h hw => by
    rcases DataW.trod_slice ht h with ⟨rfl, rfl⟩ | ⟨a, len, cap, elems, rest, n, _, rfl, rfl, _, hle, _, hlen, hel, _, _⟩
    · exact ⟨[], ⟨by simp, by simp⟩, .one (.lst none 0 0 [] [] 1 rfl (by simp) rfl (by simp) (by simp) (.inl rfl) (fun _ => ⟨rfl, rfl⟩) (Nat.le_refl _)) rfl⟩
    · have hwt : ∀ k, k ∈ ((elems.map (·.1)).length + (rest.map (·.1)).length) * P.bytesOf e :: (DataW.weightsAll P e (elems.map (·.1)) ++ DataW.weightsAll P e (rest.map (·.1))) → k ≤ reachBytes := fun k hk => by
        refine hw k ?_
        simp only [DataW.weights, ht]
        exact hk
      obtain ⟨l, l1, l2⟩ := exists_list (n := len) (Q := fun i (x : α × List Value) => G x.1 ∧ w.cells? 0 (a.add (i * sz)) sz = some x.2 ∧ CellsR w x.2 (ec x.1)) fun i hi => by
        have h1 := hel i hi
        have hi' : i < elems.length := by omega
        rw [List.getElem?_eq_getElem hi', hc] at h1
        obtain ⟨cs', h2, h3⟩ := Option.bind_eq_some_iff.1 h1
        obtain ⟨b, h4, h5⟩ := he.dec sp hd n cs' _ h3 fun k hk => hwt k (List.mem_cons_of_mem _ (List.mem_append_left _ (weightsAll_mem (List.mem_map.2 ⟨elems[i], List.getElem_mem hi', rfl⟩) k hk)))
        exact ⟨(b, cs'), h4, h2, h5⟩
      refine ⟨l.map (·.1), ⟨fun b hb' => ?_, ?_⟩, .one (vr_slice h0 he.len hle l1 fun i x hx => (l2 i x hx).2) rfl⟩
      · obtain ⟨x, hx, rfl⟩ := List.mem_map.1 hb'
        obtain ⟨i, hi⟩ := List.mem_iff_getElem?.1 hx
        exact (l2 i x hi).1
      · have := hwt _ (List.mem_cons_self ..)
        rw [List.length_map, List.length_map, hlen] at this
        rw [List.length_map, l1]
        exact Nat.le_trans (Nat.le_trans (Nat.le_add_right len rest.length) (Nat.le_mul_of_pos_right _ hb)) this⟩

structure DecFs (P : Program) (w : World) {H : Type} (enc : TypeId × Value → H) {α : Type} (fs : List Field) (off sz : Nat) (e : α → List PV) (G : α → Prop) : Prop where
  len : ∀ a, (e a).length = sz
  dec : ∀ (sp : Nat → Bool) (hd : Bool) (n : Nat) (cs : List Value) (ds : List (DataW H)), ds.length = fs.length → cs.length = off + sz → (∀ (i : Nat) f, fs[i]? = some f → ∃ ps, DataW.trod enc P w 0 sp hd n f.type ((cs.drop f.offset).take (P.cellsOf f.type)) = (ds[i]?).map fun d => (d, ps)) →
    (∀ k ∈ DataW.weightsEach P (fs.map (·.type)) ds, k ≤ reachBytes) → ∃ a, G a ∧ CellsR w (cs.drop off) (e a)

theorem DecFs.nil (off : Nat) : DecFs P w enc [] off 0 (fun _ : Unit => []) (fun _ => True) :=
  ⟨fun _ => rfl, fun sp hd n cs ds _ hl _ _ => ⟨(), trivial, by
    have : cs.drop off = [] := List.drop_eq_nil_of_le (by omega)
    rw [this]
    exact ⟨rfl, by simp, by simp⟩⟩⟩
theorem CellsR.append {cs ds : List Value} {ps qs : List PV} (h : CellsR w cs ps) (k : CellsR w ds qs) : CellsR w (cs ++ ds) (ps ++ qs) := by
  refine ⟨by simp [h.1, k.1], fun j u c hu hc => ?_, fun u hu => ?_⟩
  · rcases Nat.lt_or_ge j cs.length with hj | hj
    · rw [List.getElem?_append_left hj] at hu
      rw [List.getElem?_append_left (by rw [← h.1]; exact hj)] at hc
      exact h.2.1 j u c hu hc
    · rw [List.getElem?_append_right hj] at hu
      rw [List.getElem?_append_right (by rw [← h.1]; exact hj), ← h.1] at hc
      exact k.2.1 _ u c hu hc
  · rcases List.mem_append.1 hu with hu | hu
    · exact h.2.2 u hu
    · exact k.2.2 u hu
theorem DecFs.cons {α β : Type} {f : Field} {fs : List Field} {off sz sz' : Nat} {e : α → List PV} {G : α → Prop} {e' : β → List PV} {G' : β → Prop} (ho : f.offset = off) (hc : P.cellsOf f.type = sz) (h : Dec P w enc f.type sz e G) (hr : DecFs P w enc fs (off + sz) sz' e' G') :
    DecFs P w enc (f :: fs) off (sz + sz') (fun x : α × β => e x.1 ++ e' x.2) (fun x => G x.1 ∧ G' x.2) :=
  ⟨fun x => by rw [List.length_append, h.len, hr.len], fun sp hd n cs ds hl hcs hall hw => by
    match ds, hl with
    | [], hl => simp at hl
    | d :: ds, hl =>
      rw [List.map_cons, DataW.weightsEach] at hw
      obtain ⟨ps, h0⟩ := hall 0 f rfl
      simp only [List.getElem?_cons_zero, Option.map_some] at h0
      obtain ⟨a, a1, a2⟩ := h.dec sp hd n _ _ h0 fun k hk => hw k (List.mem_append_left _ hk)
      obtain ⟨b, b1, b2⟩ := hr.dec sp hd n cs ds (by simpa using hl) (by omega) (fun i g hg => by simpa using hall (i + 1) g (by simpa using hg)) fun k hk => hw k (List.mem_append_right _ hk)
      refine ⟨(a, b), ⟨a1, b1⟩, ?_⟩
      have e1 : cs.drop off = (cs.drop off).take sz ++ cs.drop (off + sz) := by
        rw [← List.drop_drop, List.take_append_drop]
      rw [e1]
      rw [ho, hc] at a2
      exact a2.append b2⟩
theorem Dec.struct {α : Type} {t : TypeId} {fs : Array Field} {sz : Nat} {e : α → List PV} {G : α → Prop} (ht : P.underlying t = some (.struct fs)) (hc : P.cellsOf t = sz) (h : DecFs P w enc fs.toList 0 sz e G) : Dec P w enc t sz e G :=
  ⟨h.len, fun sp hd fuel cs x hx hw => by
    obtain ⟨xs, n, _, rfl, hl, hxs, hf⟩ := DataW.trod_struct ht hx
    obtain ⟨a, a1, a2⟩ := h.dec sp hd n cs (xs.map (·.1)) (by simp [hxs]) (by rw [hl, hc, Nat.zero_add]) (fun i f hi => by
      have h1 := hf i f (by simpa using hi)
      have hlt : i < xs.length := by
        have := (List.getElem?_eq_some_iff.1 hi).1
        rw [hxs]; simpa using this
      refine ⟨xs[i].2, ?_⟩
      rw [h1]
      simp [hlt]) fun k hk => hw k (by
        simp only [DataW.weights, ht]
        exact hk)
    exact ⟨a, a1, by simpa using a2⟩⟩
end Go.Abs
/- Arrays and the narrow ints, read as plain data. Program-independent. -/
namespace Go.Abs
open Go.RowKit

variable {P : Program} {w : World} {H : Type} {enc : TypeId × Value → H}

theorem Dec.intk {t : TypeId} (k : IntKind) (ht : P.underlying t = some (.int k)) : Dec P w enc t 1 (fun n : Int => [.val (.int k n)]) (fun n => k.min ≤ n ∧ n ≤ k.max) :=
  ⟨fun _ => rfl, fun sp hd fuel cs x h _ => by
    obtain ⟨n, rfl, _, hw⟩ := DataW.trod_int ht h
    refine ⟨n, ?_, .one (.val _ rfl) rfl⟩
    simpa [Lit.wf] using hw⟩
def arrF (e : TypeId) (off : Nat) : Field := { name := "", type := e, offset := off, embedded := false, tag := "", pkgPath := "", byteOffset := 0 }
def arrFs (n : Nat) (e : TypeId) (sz : Nat) : List Field := (List.range n).map fun i => arrF e (i * sz)
theorem weightsAll_each {e : TypeId} : ∀ (n : Nat) (ds : List (DataW H)), ds.length = n → DataW.weightsEach P (List.replicate n e) ds = DataW.weightsAll P e ds
  | 0, [], _ => rfl
  | n + 1, d :: r, h => by
    rw [List.replicate_succ, DataW.weightsEach, DataW.weightsAll, weightsAll_each n r (by simpa using h)]
  | n + 1, [], h => by simp at h
  | 0, d :: r, h => by simp at h
theorem Dec.array {α : Type} {t e : TypeId} {n sz sz0 : Nat} {ec : α → List PV} {G : α → Prop} (ht : P.underlying t = some (.array n e)) (hc : P.cellsOf t = sz) (h0 : P.cellsOf e = sz0) (h : DecFs P w enc (arrFs n e sz0) 0 sz ec G) : Dec P w enc t sz ec G :=
  ⟨h.len, fun sp hd fuel cs x hx hw => by
    obtain ⟨xs, m, _, rfl, hl, hxs, hf⟩ := DataW.trod_array ht hx
    obtain ⟨a, a1, a2⟩ := h.dec sp hd m cs (xs.map (·.1)) (by simp [hxs, arrFs]) (by rw [hl, hc, Nat.zero_add]) (fun i f hi => by
      have hlt : i < n := by
        have := (List.getElem?_eq_some_iff.1 hi).1
        simpa [arrFs] using this
      have hfe : f = arrF e (i * sz0) := by
        simpa [arrFs, hlt] using hi.symm
      subst hfe
      have h1 := hf i hlt
      refine ⟨(xs[i]'(by omega)).2, ?_⟩
      subst h0
      show DataW.trod enc P w 0 sp hd m e (List.take (P.cellsOf e) (List.drop (i * P.cellsOf e) cs)) = _
      rw [h1]
      simp [hxs, hlt]) fun k hk => hw k (by
        simp only [DataW.weights, ht]
        have e1 : (arrFs n e sz0).map (·.type) = List.replicate n e := by
          unfold arrFs
          rw [List.map_map]
          exact (List.map_const' ..).trans (by rw [List.length_range])
        rw [e1, weightsAll_each n _ (by simp [hxs])] at hk
        exact hk)
    exact ⟨a, a1, by simpa using a2⟩⟩
end Go.Abs
/- A statement 'it returns true, and its arguments read as they did', from a contract on plain data. Program-independent. -/
namespace Go.Abs
open Go.ChangeShapes Go.WideShapes Go.ChangeAt Go.RowKit

variable {P : Program} {W : World} {H : Type} {enc : TypeId × Value → H} {α β : Type}

structure DecV (P : Program) (W : World) {H : Type} (enc : TypeId × Value → H) {α : Type} (t : TypeId) (e : α → PV) (G : α → Prop) : Prop where
  dec : ∀ b0 v d ps, Value.okWide P W .any b0 t v → DataW.Trod enc P W 0 (fun _ => true) true t v d ps → Light P t d → ∃ a, G a ∧ VR (snap W) v (e a)
  read : P.readableRec t = true
  size : t < P.types.size

theorem DecV.struct {t : TypeId} {fs : Array Field} {sz : Nat} {e : α → List PV} {G : α → Prop} (ht : P.underlying t = some (.struct fs)) (hdec : Dec P W enc t sz e G) (hr : P.readableRec t = true) (hs : t < P.types.size) : DecV P W enc t (fun a => .agg (e a)) G :=
  ⟨fun b0 v d ps hval h hw => by
    unfold Value.okWide at hval
    rw [ht] at hval
    obtain ⟨cs, rfl, _⟩ := hval
    obtain ⟨fuel, hf⟩ := h
    obtain ⟨a, h1, h2⟩ := hdec.dec _ _ fuel _ _ hf hw
    refine ⟨a, h1, ?_⟩
    have : VR (snap W) (.agg (cs.toList).toArray) (.agg (e a)) := .agg cs.toList (e a) h2.1 h2.2.1 h2.2.2
    simpa using this, hr, hs⟩
theorem DecV.array {t e' : TypeId} {n sz : Nat} {e : α → List PV} {G : α → Prop} (ht : P.underlying t = some (.array n e')) (hdec : Dec P W enc t sz e G) (hr : P.readableRec t = true) (hs : t < P.types.size) : DecV P W enc t (fun a => .agg (e a)) G :=
  ⟨fun b0 v d ps hval h hw => by
    unfold Value.okWide at hval
    rw [ht] at hval
    obtain ⟨cs, rfl, _⟩ := hval
    obtain ⟨fuel, hf⟩ := h
    obtain ⟨a, h1, h2⟩ := hdec.dec _ _ fuel _ _ hf hw
    refine ⟨a, h1, ?_⟩
    have : VR (snap W) (.agg (cs.toList).toArray) (.agg (e a)) := .agg cs.toList (e a) h2.1 h2.2.1 h2.2.2
    simpa using this, hr, hs⟩
theorem DecV.one {t : TypeId} {e : α → PV} {G : α → Prop} (ht : ∀ b0 v, Value.okWide P W .any b0 t v → v.cells.toList = [v]) (hdec : Dec P W enc t 1 (fun a => [e a]) G) (hr : P.readableRec t = true) (hs : t < P.types.size) : DecV P W enc t e G :=
  ⟨fun b0 v d ps hval h hw => by
    obtain ⟨fuel, hf⟩ := h
    rw [ht b0 v hval] at hf
    obtain ⟨a, h1, h2⟩ := hdec.dec _ _ fuel _ _ hf hw
    exact ⟨a, h1, h2.2.1 0 v (e a) rfl rfl⟩, hr, hs⟩
theorem trodAll_len : ∀ {ts : List TypeId} {vs : List Value} {ds : List (DataW H)} {ps : List MemPlace}, DataW.TrodAll enc P W 0 (fun _ => true) true ts vs ds ps → ds.length = ts.length
  | [], vs, ds, ps, h => by obtain ⟨rfl, rfl, rfl⟩ := trodAll_nil h; rfl
  | t :: ts, vs, ds, ps, h => by
    obtain ⟨v, vs', d, ds', p, q, rfl, rfl, rfl, h1, h2⟩ := trodAll_cons h
    rw [List.length_cons, List.length_cons, trodAll_len h2]
structure DecVs (P : Program) (W : World) {H : Type} (enc : TypeId × Value → H) {α : Type} (ts : List TypeId) (e : α → List PV) (G : α → Prop) : Prop where
  dec : ∀ b0 vs ds ps, (∀ (j : Nat) t v, ts[j]? = some t → vs[j]? = some v → Value.okWide P W .any b0 t v) → DataW.TrodAll enc P W 0 (fun _ => true) true ts vs ds ps → (∀ n ∈ DataW.weightsEach P ts ds, n ≤ reachBytes) →
    ∃ a, G a ∧ vs.length = (e a).length ∧ ∀ (j : Nat) u x, vs[j]? = some u → (e a)[j]? = some x → VR (snap W) u x
  stay : laidOutB P = true → ∀ vs ds ps W', DataW.TrodAll enc P W 0 (fun _ => true) true ts vs ds ps → Below W.heap.size W W' → (∀ x ∈ ps, x.block < W.heap.size) → DataW.TrodAll enc P W' 0 (fun b => decide (b < W.heap.size)) true ts vs ds ps
theorem DecVs.nil : DecVs P W enc [] (fun _ : Unit => []) (fun _ => True) :=
  ⟨fun b0 vs ds ps _ h _ => by
    obtain ⟨rfl, rfl, rfl⟩ := trodAll_nil h
    exact ⟨(), trivial, rfl, fun j u x hu => by simp at hu⟩, fun _ vs ds ps W' h _ _ => by
    obtain ⟨rfl, rfl, rfl⟩ := trodAll_nil h
    exact trodAll_mk0⟩
theorem DecVs.cons {t : TypeId} {ts : List TypeId} {e : α → PV} {G : α → Prop} {e' : β → List PV} {G' : β → Prop} (h : DecV P W enc t e G) (hr : DecVs P W enc ts e' G') :
    DecVs P W enc (t :: ts) (fun x : α × β => e x.1 :: e' x.2) (fun x => G x.1 ∧ G' x.2) :=
  ⟨fun b0 vs ds ps hv ht hw => by
    obtain ⟨v, vs', d, ds', p, q, rfl, rfl, rfl, h1, h2⟩ := trodAll_cons ht
    rw [DataW.weightsEach] at hw
    obtain ⟨a, a1, a2⟩ := h.dec b0 v d p (hv 0 t v rfl rfl) h1 fun n hn => hw n (List.mem_append_left _ hn)
    obtain ⟨b, b1, b2, b3⟩ := hr.dec b0 vs' ds' q (fun j t v ht hv' => hv (j + 1) t v (by simpa using ht) (by simpa using hv')) h2 fun n hn => hw n (List.mem_append_right _ hn)
    refine ⟨(a, b), ⟨a1, b1⟩, by simp [b2], fun j u x hu hx => ?_⟩
    cases j with
    | zero => simp at hu hx; subst hu hx; exact a2
    | succ j => exact b3 j u x (by simpa using hu) (by simpa using hx), fun hl vs ds ps W' ht hb hlt => by
    obtain ⟨v, vs', d, ds', p, q, rfl, rfl, rfl, h1, h2⟩ := trodAll_cons ht
    exact ⟨p, q, Below.trod hl h.read h.size h1 hb fun x hx => hlt x (List.mem_append_left _ hx), hr.stay hl vs' ds' q W' h2 hb fun x hx => hlt x (List.mem_append_right _ hx), rfl⟩⟩

theorem law_true {C : Checked} {os : Os} {f : FuncId} {fn : Func} {s : ChangeSpec} {conds : List PathCond} {apart fresh handsOn : Bool} {e : α → List PV} {G : α → Prop} {tb : TypeId}
    (own : ownKnob C.prog.godebug = none) (laid : laidOutB C.prog = true) (started : os.Started) (noInit : C.prog.inits.idxOf? f = none) (hfn : C.prog.funcs[f]? = some fn)
    (witness : ∃ (w : World) (tape : Tape) (i : Input), w.os = os ∧ (w.forCall tape i).Shaped C.prog ∧ i.vars = [] ∧ Input.okWide C.prog (w.forCall tape i) .any w.heap.size f i ∧
      s.pre6 enc C.prog fn conds apart (w.forCall tape i).memory i.args ∧ ({} : Assume).holds C.prog (lone (Frame.enter C.prog f i.args .normal) [] (w.forCall tape i)))
    (hres : fn.resultTypes = #[tb]) (hb : C.prog.underlying tb = some .bool) (hv : s.vars = []) (hs : ∀ ds : List (DataW H), ds.length = fn.params.size → (s.fn H ds).results = [.lit (.bool true)] ∧ (s.fn H ds).args = ds ∧ (s.fn H ds).vars = [])
    (hd : ∀ W, DecVs C.prog W enc fn.params.toList e G) (ok : ∀ a, G a → CallV C.prog f (e a) fun r => r = .val (.bool true)) :
    ReturnsInHanded {} C os f .any (s.pre6 enc C.prog fn conds apart) (s.post enc C.prog fn apart fresh handsOn false) := by
  refine returnsInHanded_of_change_sized (C := C) own started noInit hfn witness ?_
  intro W base args ds gs before hval hW _ hz _
  have hW' := hW
  obtain ⟨p, q, hA, hV, rfl, hfz, hnd⟩ := hW
  rw [hv] at hV
  have hg : gs = [] ∧ q = [] := by
    cases gs with
    | nil => exact ⟨rfl, hV⟩
    | cons => exact hV.elim
  obtain ⟨rfl, rfl⟩ := hg
  have hvt : s.plain.varTypes C.prog = [] := by
    have : s.plain.vars = [] := hv
    unfold DataSpec.varTypes
    rw [this]
    rfl
  rw [hvt, List.append_nil, List.append_nil] at hz
  have hw : ∀ n ∈ DataW.weightsEach C.prog fn.params.toList ds, n ≤ reachBytes := fun n hn => by
    have := List.all_eq_true.1 hz n hn
    simpa using this
  obtain ⟨a, a1, a2, a3⟩ := (hd W).dec base args.toList ds p (fun j t v ht hv' => hval j t v (by simpa using ht) (by simpa using hv')) hA hw
  have hlt : ∀ x ∈ p, x.block < W.heap.size := fun x hx => hW'.lt x (List.mem_append_left _ hx)
  obtain ⟨s1, s2, s3⟩ := hs ds (by
    have := trodAll_len hA
    simpa using this)
  refine ((ok a a1).2 (snap W) W args.toList (snap_inW W) ⟨a2, a3⟩).mono ?_
  rintro e' W' ⟨v, r, I', rfl, rfl, hv', bel, _⟩
  have hvb : v = .bool true := by cases hv'; rfl
  subst hvb
  refine ⟨_, rfl, ds, [], p ++ [], [], p, [], hW', ?_, ?_, ?_, bel.frame _, fun h => by cases h⟩
  · rw [List.append_nil, s1, hres]
    exact trodAll_mk1 (shut_bool hb true)
  · rw [List.append_nil, s2]
    exact (hd W).stay laid _ _ _ _ hA bel hlt
  · rw [List.append_nil, s3, hv]
    rfl
end Go.Abs
/- What carries a law of the program to its statement. Printed by law.py. -/
namespace Go.Proofs.YtdlohnchnneaeaaGreat
open Go.Abs
open Go.ChangeShapes Go.WideShapes Go.ChangeAt Go.RowKit
variable {w : World} {H : Type} {enc : TypeId × Value → H}

def G5 (n : Int) : Prop := IntKind.u8.min ≤ n ∧ n ≤ IntKind.u8.max
theorem d5 : Dec Go.Proofs.Tryz.prog w enc 5 1 (fun n : Int => [.val (.int .u8 n)]) G5 :=
  .intk .u8 Go.Proofs.Tryz.underlying5
def G102 (x : T_A2_Int) : Prop := G5 x.x0 ∧ G5 x.x1 ∧ True
theorem d102 : Dec Go.Proofs.Tryz.prog w enc 102 2 (fun x : T_A2_Int => [.val (.int .u8 x.x0), .val (.int .u8 x.x1)]) G102 :=
  (Dec.array Go.Proofs.Tryz.underlying102 (by kernel_rfl) (sz0 := 1) (by kernel_rfl) (.cons rfl (by kernel_rfl) d5 (.cons rfl (by kernel_rfl) d5 (.nil _)))).map (fun x => ⟨x.1, x.2.1⟩) (fun a => (a.x0, a.x1, ())) (fun _ => rfl) (fun _ => rfl) (fun _ h => h)
def G61 (l : List T_A2_Int) : Prop := (∀ x ∈ l, G102 x) ∧ l.length ≤ reachBytes
theorem d61 : Dec Go.Proofs.Tryz.prog w enc 61 1 (fun l : List T_A2_Int => [.lst (l.map enc_T_A2_Int)]) G61 :=
  (Dec.slice Go.Proofs.Tryz.underlying61 (by kernel_rfl) (by decide) (of_decide_eq_true (by kernel_rfl)) d102).map id id (fun _ => rfl) (fun _ => rfl) (fun _ h => h)
def G108 (x : T_A3_Int) : Prop := G5 x.x0 ∧ G5 x.x1 ∧ G5 x.x2 ∧ True
theorem d108 : Dec Go.Proofs.Tryz.prog w enc 108 3 (fun x : T_A3_Int => [.val (.int .u8 x.x0), .val (.int .u8 x.x1), .val (.int .u8 x.x2)]) G108 :=
  (Dec.array Go.Proofs.Tryz.underlying108 (by kernel_rfl) (sz0 := 1) (by kernel_rfl) (.cons rfl (by kernel_rfl) d5 (.cons rfl (by kernel_rfl) d5 (.cons rfl (by kernel_rfl) d5 (.nil _))))).map (fun x => ⟨x.1, x.2.1, x.2.2.1⟩) (fun a => (a.x0, a.x1, a.x2, ())) (fun _ => rfl) (fun _ => rfl) (fun _ h => h)
def G62 (l : List T_A3_Int) : Prop := (∀ x ∈ l, G108 x) ∧ l.length ≤ reachBytes
theorem d62 : Dec Go.Proofs.Tryz.prog w enc 62 1 (fun l : List T_A3_Int => [.lst (l.map enc_T_A3_Int)]) G62 :=
  (Dec.slice Go.Proofs.Tryz.underlying62 (by kernel_rfl) (by decide) (of_decide_eq_true (by kernel_rfl)) d108).map id id (fun _ => rfl) (fun _ => rfl) (fun _ h => h)
def G64 (x : T_scarfjointref15_Draft) : Prop := G61 x.nodes ∧ G62 x.edges ∧ True
theorem d64 : Dec Go.Proofs.Tryz.prog w enc 64 2 (fun x : T_scarfjointref15_Draft => [.lst (x.nodes.map enc_T_A2_Int), .lst (x.edges.map enc_T_A3_Int)]) G64 :=
  (Dec.struct Go.Proofs.Tryz.underlying64 (by kernel_rfl) (.cons rfl (by kernel_rfl) d61 (.cons rfl (by kernel_rfl) d62 (.nil _)))).map (fun x => ⟨x.1, x.2.1⟩) (fun a => (a.nodes, a.edges, ())) (fun _ => rfl) (fun _ => rfl) (fun _ h => h)
set_option maxRecDepth 100000 in
theorem lift_TripleTurned (l : ∀ (a0 : T_scarfjointref15_Draft), G64 a0 → f_scarfjointlaw52_TripleTurned a0 = some true) : Rows.TripleTurnedSaid :=
  OpenClaim.holds_of_wide 7 Go.Proofs.Tryz.f7 rfl rfl rfl rfl rfl rfl rfl ⟨rfl, rfl, rfl, rfl, rfl⟩ rfl rfl rfl rfl rfl (by kernel_rfl) Go.Proofs.Tryz.func7 (by kernel_rfl)
    (of_decide_eq_true (by kernel_rfl)) (by unfold Func.isWrapper; first | (rw [if_pos (by decide +kernel)]; kernel_rfl) | (rw [if_neg (by decide +kernel)]; exact ⟨rfl, rfl⟩))
    (fun os started H enc _ => law_true (C := Go.Proofs.Tryz.checked) (α := T_scarfjointref15_Draft × Unit) (e := fun x => [.agg [.lst (x.1.nodes.map enc_T_A2_Int), .lst (x.1.edges.map enc_T_A3_Int)]]) (G := fun x => G64 x.1 ∧ True) (s := Rows.tripleTurnedSpec) (conds := Rows.tripleTurnedRow.domain) (by kernel_rfl) (by kernel_rfl) started (by kernel_rfl) Go.Proofs.Tryz.func7
      (ChangeSpec.witness6 (enc := enc) (C := Go.Proofs.Tryz.checked) false ⟨#[], #[.agg #[.slice none 0 0, .slice none 0 0]], []⟩ 8 (by kernel_rfl) (by kernel_rfl) (by kernel_rfl) (by kernel_rfl))
      rfl Go.Proofs.Tryz.underlying4 rfl (fun ds hl => by match ds, hl with | [d0], _ => exact ⟨rfl, rfl, rfl⟩) (fun W => by
      rw [Go.Proofs.Tryz.params7]
      exact (.cons (show DecV Go.Proofs.Tryz.prog W enc 64 (fun x : T_scarfjointref15_Draft => .agg [.lst (x.nodes.map enc_T_A2_Int), .lst (x.edges.map enc_T_A3_Int)]) G64 from DecV.struct Go.Proofs.Tryz.underlying64 d64 (by kernel_rfl) (of_decide_eq_true (by kernel_rfl)))
      .nil)) (fun x h => w_scarfjointlaw52_TripleTurned x.1 true (l x.1 h.1)))
set_option maxRecDepth 100000 in
theorem lift_TripleSides (l : ∀ (a0 : T_scarfjointref15_Draft) (a1 : T_scarfjointref15_Draft), G64 a0 → G64 a1 → f_scarfjointlaw52_TripleSides a0 a1 = some true) : Rows.TripleSidesSaid :=
  OpenClaim.holds_of_wide 8 Go.Proofs.Tryz.f8 rfl rfl rfl rfl rfl rfl rfl ⟨rfl, rfl, rfl, rfl, rfl⟩ rfl rfl rfl rfl rfl (by kernel_rfl) Go.Proofs.Tryz.func8 (by kernel_rfl)
    (of_decide_eq_true (by kernel_rfl)) (by unfold Func.isWrapper; first | (rw [if_pos (by decide +kernel)]; kernel_rfl) | (rw [if_neg (by decide +kernel)]; exact ⟨rfl, rfl⟩))
    (fun os started H enc _ => law_true (C := Go.Proofs.Tryz.checked) (α := T_scarfjointref15_Draft × T_scarfjointref15_Draft × Unit) (e := fun x => [.agg [.lst (x.1.nodes.map enc_T_A2_Int), .lst (x.1.edges.map enc_T_A3_Int)], .agg [.lst (x.2.1.nodes.map enc_T_A2_Int), .lst (x.2.1.edges.map enc_T_A3_Int)]]) (G := fun x => G64 x.1 ∧ G64 x.2.1 ∧ True) (s := Rows.tripleSidesSpec) (conds := Rows.tripleSidesRow.domain) (by kernel_rfl) (by kernel_rfl) started (by kernel_rfl) Go.Proofs.Tryz.func8
      (ChangeSpec.witness6 (enc := enc) (C := Go.Proofs.Tryz.checked) false ⟨#[], #[.agg #[.slice none 0 0, .slice none 0 0], .agg #[.slice none 0 0, .slice none 0 0]], []⟩ 8 (by kernel_rfl) (by kernel_rfl) (by kernel_rfl) (by kernel_rfl))
      rfl Go.Proofs.Tryz.underlying4 rfl (fun ds hl => by match ds, hl with | [d0, d1], _ => exact ⟨rfl, rfl, rfl⟩) (fun W => by
      rw [Go.Proofs.Tryz.params8]
      exact (.cons (show DecV Go.Proofs.Tryz.prog W enc 64 (fun x : T_scarfjointref15_Draft => .agg [.lst (x.nodes.map enc_T_A2_Int), .lst (x.edges.map enc_T_A3_Int)]) G64 from DecV.struct Go.Proofs.Tryz.underlying64 d64 (by kernel_rfl) (of_decide_eq_true (by kernel_rfl)))
      (.cons (show DecV Go.Proofs.Tryz.prog W enc 64 (fun x : T_scarfjointref15_Draft => .agg [.lst (x.nodes.map enc_T_A2_Int), .lst (x.edges.map enc_T_A3_Int)]) G64 from DecV.struct Go.Proofs.Tryz.underlying64 d64 (by kernel_rfl) (of_decide_eq_true (by kernel_rfl)))
      .nil))) (fun x h => w_scarfjointlaw52_TripleSides x.1 x.2.1 true (l x.1 x.2.1 h.1 h.2.1)))
end Go.Proofs.YtdlohnchnneaeaaGreat
/- A triple over the example's types, and the sorts exchanged: the sides, the links. -/
namespace Go.Proofs.YtdlohnchnneaeaaGreat
open Go.Abs

theorem ex_sorts : sortsE exT exS = 0 := by kernel_rfl
def exS2 : Sorts := turnS exS
theorem ex_swap : swapX exT exS = (exS2, 0) := by kernel_rfl
theorem ex_sorts2 : sortsE exT exS2 = 0 := by kernel_rfl
theorem ex_few2 : FewS exS2 := by unfold FewS; decide
theorem ex_fitsT0 : fitsT exT 0 0 1 = true := by kernel_rfl
theorem ex_fitsT1 : fitsT exT 1 2 3 = true := by kernel_rfl
theorem ex_fitsT2 : fitsT exT 2 4 0 = true := by kernel_rfl
theorem ex_fitsT3 : fitsT exT 3 4 1 = true := by kernel_rfl
theorem ex_fitsT4 : fitsT exT 4 4 2 = true := by kernel_rfl
theorem ex_fitsT5 : fitsT exT 5 4 3 = true := by kernel_rfl
theorem ex_fitsT {e : Int} (h : 0 ≤ e ∧ e < 6) : fitsT exT e (exSrc e) (exDst e) = true := by
  rcases six h with rfl | rfl | rfl | rfl | rfl | rfl
  · exact ex_fitsT0
  · exact ex_fitsT1
  · exact ex_fitsT2
  · exact ex_fitsT3
  · exact ex_fitsT4
  · exact ex_fitsT5
theorem ex_nodeH0 : nodeH exT 0 [] = 0 := by kernel_rfl
theorem ex_nodeH1 : nodeH exT 1 [] = 0 := by kernel_rfl
theorem ex_nodeH2 : nodeH exT 2 [] = 0 := by kernel_rfl
theorem ex_nodeH3 : nodeH exT 3 [] = 0 := by kernel_rfl
theorem ex_nodeH4 : nodeH exT 4 [] = 0 := by kernel_rfl
theorem ex_nodeH {n : Int} (h : 0 ≤ n ∧ n < 5) : nodeH exT n [] = 0 := by
  rcases five h with rfl | rfl | rfl | rfl | rfl
  · exact ex_nodeH0
  · exact ex_nodeH1
  · exact ex_nodeH2
  · exact ex_nodeH3
  · exact ex_nodeH4

theorem ExH.few {h : Host} (hx : ExH h) : FewH h :=
  ⟨⟨by have := hx.nodes; omega, by have := hx.edges; omega⟩, by rw [hx.vals, List.length_map]; have := hx.nodes; omega, fun l hl => by
    rw [hx.vals] at hl
    obtain ⟨n, _, rfl⟩ := List.mem_map.1 hl
    simp⟩
theorem ExH.node {h : Host} (hx : ExH h) {i : Nat} (hi : i < h.graph.nodes.length) : 0 ≤ h.graph.nodes.getD i default ∧ h.graph.nodes.getD i default < 5 := hx.kind _ (getD_mem hi)
theorem ExH.edg {h : Host} (hx : ExH h) {i : Nat} (hi : i < h.graph.edges.length) : (0 ≤ (h.graph.edges.getD i default).type ∧ (h.graph.edges.getD i default).type < 6) ∧ h.graph.nodes.getD (h.graph.edges.getD i default).src.toNat default = exSrc (h.graph.edges.getD i default).type ∧ h.graph.nodes.getD (h.graph.edges.getD i default).dst.toNat default = exDst (h.graph.edges.getD i default).type := by
  obtain ⟨q1, q2, q3, q4, q5⟩ := hx.edge _ (getD_mem hi)
  exact ⟨q1, q4, q5⟩
theorem ExH.valid {h : Host} (hx : ExH h) : (validH exT h).2 = 0 := by
  have h1 : validG h.graph = 0 := by
    unfold validG
    have l1 := hx.nodes
    have l2 := hx.edges
    rw [if_neg (by omega), if_neg, if_neg]
    · simp only [List.any_eq_true, not_exists, not_and, Bool.not_eq_true', Bool.not_eq_false]
      intro x hx'
      obtain ⟨q1, q2, q3, _⟩ := hx.edge x hx'
      simp only [edgeB, kindB, Bool.and_eq_true, decide_eq_true_eq]
      omega
    · simp only [List.any_eq_true, not_exists, not_and, Bool.not_eq_true', Bool.not_eq_false]
      intro x hx'
      have := hx.kind x hx'
      simp only [kindB, Bool.and_eq_true, decide_eq_true_eq]
      omega
  unfold validH
  rw [if_neg (by rw [ex_validT]; decide), if_neg (by rw [h1]; decide), if_neg (by rw [hx.vals, List.length_map]; simp)]
  have h2 : firstI (fun i => nodeH exT (h.graph.nodes.getD i default) (h.values.getD i default)) 0 h.graph.nodes.length = none := firstI_none fun j _ hj => by
    have e : h.values.getD j default = [] := by rw [hx.vals]; simp [hj]
    rw [e]
    exact ex_nodeH (hx.node hj)
  have h3 : firstI (edgeH exT h) 0 h.graph.edges.length = none := firstI_none fun j _ hj => by
    obtain ⟨q1, q4, q5⟩ := hx.edg hj
    unfold edgeH
    have : (exT.edges.length : Int) = 6 := by decide
    rw [if_neg (by omega), if_pos]
    rw [q4, q5]
    exact ex_fitsT q1
  rw [h2, h3]
theorem ExH.validTr {h : Host} (hx : ExH h) : validTr exT exS h = 0 := by
  unfold Go.Proofs.YtdlohnchnneaeaaGreat.validTr
  rw [if_neg (by rw [ex_sorts]; decide)]
  exact hx.valid
theorem ExH.validTr2 {h : Host} (hx : ExH h) : Go.Proofs.YtdlohnchnneaeaaGreat.validTr exT exS2 h = 0 := by
  unfold Go.Proofs.YtdlohnchnneaeaaGreat.validTr
  rw [if_neg (by rw [ex_sorts2]; decide)]
  exact hx.valid
theorem ex_sortN {n : Int} (h : 0 ≤ n ∧ n < 5) : exS2.nodes.getD n.toNat default = 4 - exS.nodes.getD n.toNat default := by
  rcases five h with rfl | rfl | rfl | rfl | rfl <;> decide
theorem ex_sortE {n : Int} (h : 0 ≤ n ∧ n < 6) : exS2.edges.getD n.toNat default = 4 - exS.edges.getD n.toNat default := by
  rcases six h with rfl | rfl | rfl | rfl | rfl | rfl <;> decide
theorem pick_congr {p q : Nat → Bool} {n : Nat} (h : ∀ i, i < n → p i = q i) : pick p n = pick q n := by
  unfold pick
  rw [List.filter_congr fun i hi => h i (List.mem_range.1 hi)]
theorem ExH.part {h : Host} (hx : ExH h) (k : Int) : partX exS2 h.graph k = partX exS h.graph (4 - k) := by
  unfold partX
  rw [pick_congr (q := fun i => decide (nodeS exS h.graph i = 4 - k)), pick_congr (n := h.graph.edges.length) (q := fun i => decide (edgeS exS h.graph i = 4 - k))]
  · intro i hi
    unfold edgeS
    rw [ex_sortE (hx.edg hi).1]
    exact decide_eq_decide.2 (by omega)
  · intro i hi
    unfold nodeS
    rw [ex_sortN (hx.node hi)]
    exact decide_eq_decide.2 (by omega)

/-! ### The links, turned around -/
theorem linkB_comm (g : Graph) (M : List Int) (a b : Int) : linkB g M a b = linkB g M b a := by
  unfold linkB
  congr 1
  funext m
  unfold midB
  exact Bool.and_comm _ _
theorem mem_linksL {g : Graph} {S M T : List Int} {k : GPair} : k ∈ linksL g S M T ↔ k.a ∈ S ∧ k.b ∈ T ∧ linkB g M k.a k.b = true := by
  unfold linksL linkR
  simp only [List.mem_flatMap, List.mem_map, List.mem_filter]
  constructor
  · rintro ⟨a, ha, b, ⟨hb, hl⟩, rfl⟩
    exact ⟨ha, hb, hl⟩
  · rintro ⟨ha, hb, hl⟩
    exact ⟨k.a, ha, k.b, ⟨hb, hl⟩, rfl⟩
theorem links_cons (g : Graph) (M : List Int) (a : Int) (S : List Int) : ∀ T : List Int, (linksL g T M (a :: S)).length = (linksL g T M S).length + (T.filter (linkB g M a)).length
  | [] => rfl
  | b :: T => by
    have ih := links_cons g M a S T
    unfold linksL at ih ⊢
    simp only [List.flatMap_cons, List.length_append]
    rw [ih]
    unfold linkR
    simp only [List.filter_cons, List.length_map]
    rw [linkB_comm g M b a]
    split <;> simp <;> omega
theorem links_len (g : Graph) (M : List Int) (T : List Int) : ∀ S : List Int, (linksL g S M T).length = (linksL g T M S).length
  | [] => by
    have : ∀ T : List Int, linksL g T M [] = [] := fun T => by
      induction T with
      | nil => rfl
      | cons b T ih => unfold linksL at ih ⊢; rw [List.flatMap_cons, ih]; rfl
    rw [this]; rfl
  | a :: S => by
    rw [links_cons, ← links_len g M T S]
    unfold linksL
    simp only [List.flatMap_cons, List.length_append]
    unfold linkR
    rw [List.length_map]
    omega

theorem l_contains {l : List GPair} (hl : l.length ≤ 1000000) {v : GPair} (hv : v ∈ l) : f_slices_Contains_Pair l v = some true := by
  refine Ok.eq ?_
  unfold f_slices_Contains_Pair
  refine ok_thn (R := fun r => 0 ≤ r) ?_ fun r hr => .mk (decide_eq_true hr)
  unfold f_slices_Index_Pair
  refine ok_chk (by unfold fuel; omega) ?_
  refine ok_all l (fun x => x ≠ v) (fun i nxt hi hn => ?_) (fun hall => absurd rfl (hall v hv))
  refine ok_at hi ?_
  refine ok_cond (fun _ => .mk (Int.natCast_nonneg _)) (fun h => hn fun e => ?_)
  rw [e] at h
  simp at h

theorem ExH.links {h : Host} (hx : ExH h) : linksE exT exS h = (linksR exS h.graph, 0) ∧ linksE exT exS2 h = (linksL h.graph (partX exS h.graph 3).nodes (partX exS h.graph 2).nodes (partX exS h.graph 1).nodes, 0) := by
  constructor
  · unfold linksE
    rw [if_neg (by rw [hx.validTr]; decide)]
  · unfold linksE
    rw [if_neg (by rw [hx.validTr2]; decide)]
    unfold linksR
    rw [hx.part 1, hx.part 2, hx.part 3]
    rfl
theorem ExH.side {h : Host} (hx : ExH h) : sideX exT exS2 h 3 = sideX exT exS h 1 := by
  have e1 : sideX exT exS2 h 3 = (extH h (partX exS2 h.graph 3), partX exS2 h.graph 3, 0) := by
    unfold sideX
    rw [if_neg (by rw [hx.validTr2]; decide)]
    rfl
  have e2 : sideX exT exS h 1 = (extH h (partX exS h.graph 1), partX exS h.graph 1, 0) := by
    unfold sideX
    rw [if_neg (by rw [hx.validTr]; decide)]
    rfl
  rw [e1, e2, hx.part 3]
  rfl
theorem ExH.side1 {h : Host} (hx : ExH h) : (sideX exT exS h 1).2.2 = 0 := by
  unfold sideX
  rw [if_neg (by rw [hx.validTr]; decide)]
  rfl

theorem l_TripleTurned (d : T_scarfjointref15_Draft) (hd : G64 d) : f_scarfjointlaw52_TripleTurned d = some true := by
  have hd' : OkDraft d := ⟨fun x hx => by have := hd.1.1 x hx; exact ⟨this.1, this.2.1⟩, fun x hx => by have := hd.2.1.1 x hx; exact ⟨this.1, this.2.1, this.2.2.1⟩⟩
  refine Ok.eq ?_
  unfold f_scarfjointlaw52_TripleTurned
  refine ok_eq (r := true) rfl ?_
  refine ok_t rfl ?_
  refine ok_eq (r := (exT, exS)) rfl ?_
  refine ok_thn (made_ok d hd') fun h hx => ?_
  replace hx := hx.1
  have hf := exFew.1
  have hs := exFew.2.1
  obtain ⟨l1, l2⟩ := hx.links
  refine ok_eq (r := (exS2, 0)) ((giv_t ⟨hf, hs⟩).trans (congrArg some ex_swap)) ?_
  refine ok_eq (l_triple_Side hf hs hx.few 1) ?_
  refine ok_eq (l_triple_Side hf ex_few2 hx.few 3) ?_
  refine ok_eq (r := linksE exT exS h) (giv_t ⟨hf, hs, hx.few⟩) ?_
  refine ok_eq (r := linksE exT exS2 h) (giv_t ⟨hf, ex_few2, hx.few⟩) ?_
  rw [hx.side, l1, l2]
  refine ok_t rfl ?_
  refine ok_t (decide_eq_true hx.side1) ?_
  refine ok_t (decide_eq_true hx.side1) ?_
  refine ok_t rfl ?_
  refine ok_t rfl ?_
  obtain ⟨q1, q2, q3, q4⟩ := sideX_small hf (s := exS) hx.few 1
  refine ok_eq (l_sameH q1 q2 q3) ?_
  refine ok_t rfl ?_
  refine ok_eq (l_sameP q4) ?_
  refine ok_t rfl ?_
  have hlen := links_len h.graph (partX exS h.graph 2).nodes (partX exS h.graph 3).nodes (partX exS h.graph 1).nodes
  have hle : (linksR exS h.graph).length ≤ 1000000 := linksL_le exS h.graph (okTr hx.validTr)
  refine ok_t (decide_eq_true (by dsimp only; rw [← hlen]; rfl)) ?_
  refine ok_chk (by unfold fuel; dsimp only; omega) ?_
  refine ok_all (linksR exS h.graph) (fun _ => True) (fun i nxt hi hn => ?_) (fun _ => .mk rfl)
  refine ok_at hi ?_
  have hm := mem_linksL.1 (List.getElem_mem hi : (linksR exS h.graph)[i] ∈ linksR exS h.graph)
  refine ok_eq (l_contains ?_ (mem_linksL.2 ⟨hm.2.1, hm.1, ?_⟩)) (ok_t rfl (hn trivial))
  · rw [← hlen]; exact hle
  · dsimp only; rw [linkB_comm]; exact hm.2.2
theorem tripleTurned_holds : Rows.TripleTurnedSaid := lift_TripleTurned fun d h => l_TripleTurned d h
end Go.Proofs.YtdlohnchnneaeaaGreat
/- The triple of two hosts. -/
namespace Go.Proofs.YtdlohnchnneaeaaGreat
open Go.Abs

def onlyB (s : Sorts) (g : Graph) (k : Int) : Bool := decide ((partX s g k).nodes.length = g.nodes.length) && decide ((partX s g k).edges.length = g.edges.length)
def shiftE (n : Nat) (e : Edge) : Edge := ⟨e.type, e.src + n, e.dst + n⟩
def pairH (a b : Host) : Host := ⟨⟨a.graph.nodes ++ b.graph.nodes, a.graph.edges ++ b.graph.edges.map (shiftE a.graph.nodes.length)⟩, a.values ++ b.values⟩
def noH : Host := ⟨⟨[], []⟩, []⟩
def pairX (t : Types) (s : Sorts) (a b : Host) : Host × Int :=
  if validTr t s a ≠ 0 then (noH, validTr t s a)
  else if validTr t s b ≠ 0 then (noH, validTr t s b)
  else if (onlyB s a.graph 1 && onlyB s b.graph 3) = false then (noH, 1)
  else if 40 < a.graph.nodes.length + b.graph.nodes.length ∨ 80 < a.graph.edges.length + b.graph.edges.length then (noH, 3)
  else (pairH a b, 0)

theorem l_triple_only {s : Sorts} {g : Graph} (ho : OkTr s g) (k : Int) : f_triple_only s g k = some (onlyB s g k) := by
  refine Ok.eq ?_
  unfold f_triple_only
  refine ok_eq (r := partX s g k) (l_triple_part ho k) ?_
  refine ok_cond (fun h => .mk ?_) (fun h => .mk ?_)
  · have h' := of_decide_eq_true h
    unfold onlyB
    rw [decide_eq_true (by omega : (partX s g k).nodes.length = g.nodes.length), Bool.true_and]
    exact decide_eq_decide.2 (by omega)
  · have h' := of_decide_eq_false h
    unfold onlyB
    rw [decide_eq_false (by omega : ¬ (partX s g k).nodes.length = g.nodes.length), Bool.false_and]
theorem l_clone_row (l : List Int) (h : l.length ≤ 1000000) : f_slices_Clone_int l = some l := giv_t h
theorem forN2 {σ O : Type} (f : Nat → σ → (σ → Option O) → (σ → Option O) → Option O) (i : Nat) (s : σ) (K : σ → Option O) : forN f 2 i s K = f i s (fun s' => f (i + 1) s' (fun s'' => K s'') K) K := rfl
theorem l_slices_Concat_int (x y : List Int) (h : x.length ≤ 1000 ∧ y.length ≤ 1000) : f_slices_Concat_int [x, y] = some (x ++ y) := by
  refine Ok.eq ?_
  unfold f_slices_Concat_int
  refine ok_chk (by unfold fuel; simp) ?_
  show Ok (forN _ 2 0 0 _) _
  rw [forN2]
  refine ok_eq (r := x) rfl ?_
  rw [wrapI (by omega)]
  refine ok_f (decide_eq_false (by omega)) ?_
  refine ok_eq (r := y) rfl ?_
  rw [wrapI (by omega)]
  refine ok_f (decide_eq_false (by omega)) ?_
  refine ok_eq (r := []) (giv_t ⟨rfl, by omega, by omega⟩) ?_
  refine ok_chk (by unfold fuel; simp) ?_
  show Ok (forN _ 2 0 [] _) _
  rw [forN2]
  refine ok_eq (r := x) rfl ?_
  refine ok_chk (by simp; omega) ?_
  refine ok_eq (r := y) rfl ?_
  refine ok_chk (by simp; omega) ?_
  exact .mk rfl
theorem l_slices_Concat_Lint (x y : List (List Int)) (h : x.length ≤ 1000 ∧ y.length ≤ 1000) : f_slices_Concat_Lint [x, y] = some (x ++ y) := by
  refine Ok.eq ?_
  unfold f_slices_Concat_Lint
  refine ok_chk (by unfold fuel; simp) ?_
  show Ok (forN _ 2 0 0 _) _
  rw [forN2]
  refine ok_eq (r := x) rfl ?_
  rw [wrapI (by omega)]
  refine ok_f (decide_eq_false (by omega)) ?_
  refine ok_eq (r := y) rfl ?_
  rw [wrapI (by omega)]
  refine ok_f (decide_eq_false (by omega)) ?_
  refine ok_eq (r := []) (giv_t ⟨rfl, by omega, by omega⟩) ?_
  refine ok_chk (by unfold fuel; simp) ?_
  show Ok (forN _ 2 0 [] _) _
  rw [forN2]
  refine ok_eq (r := x) rfl ?_
  refine ok_chk (by simp; omega) ?_
  refine ok_eq (r := y) rfl ?_
  refine ok_chk (by simp; omega) ?_
  exact .mk rfl
theorem l_triple_Pair {t : Types} (hf : FewT t) {s : Sorts} (hs : FewS s) {a b : Host} (ha : FewH a) (hb : FewH b) : f_triple_Pair t s a b = some (pairX t s a b) := by
  refine Ok.eq ?_
  unfold f_triple_Pair pairX
  refine ok_eq (r := validTr t s a) (giv_t ⟨hf, hs, ha⟩) ?_
  refine ok_cond (fun h1 => ?_) (fun h1 => .mk (by rw [if_pos (of_decide_eq_false h1)]; rfl))
  have h1' := of_decide_eq_true h1
  rw [if_neg (by rw [h1']; decide)]
  refine ok_eq (r := validTr t s b) (giv_t ⟨hf, hs, hb⟩) ?_
  refine ok_cond (fun h2 => ?_) (fun h2 => .mk (by rw [if_pos (of_decide_eq_false h2)]; rfl))
  have h2' := of_decide_eq_true h2
  rw [if_neg (by rw [h2']; decide)]
  have oa := okTr h1'
  have ob := okTr h2'
  have a1 := oa.nodes
  have a2 := oa.edges
  have b1 := ob.nodes
  have b2 := ob.edges
  refine ok_eq (l_triple_only oa 1) ?_
  refine ok_cond (fun h3 => ?_) (fun h3 => .mk (by rw [h3]; rfl))
  refine ok_eq (l_triple_only ob 3) ?_
  refine ok_cond (fun h4 => ?_) (fun h4 => .mk (by rw [h3, h4]; rfl))
  rw [h3, h4, wrapI (by omega), wrapI (by omega)]
  rw [if_neg (by decide)]
  refine ok_cond (fun h5 => .mk ?_) (fun h5 => ?_)
  · have h5' := of_decide_eq_true h5
    rw [if_pos (by omega)]; rfl
  refine ok_cond (fun h6 => .mk ?_) (fun h6 => ?_)
  · have h6' := of_decide_eq_true h6
    rw [if_pos (by omega)]; rfl
  have h5' := of_decide_eq_false h5
  have h6' := of_decide_eq_false h6
  rw [if_neg (by omega)]
  refine ok_eq (l_slices_Concat_int _ _ ⟨by omega, by omega⟩) ?_
  refine ok_eq (r := a.graph.edges) (giv_t (by omega)) ?_
  refine ok_chk (by unfold fuel; omega) ?_
  have va := ha.values
  have vb := hb.values
  refine ok_forN (fun j s => j ≤ b.graph.edges.length ∧ s = a.graph.edges ++ (b.graph.edges.take j).map (shiftE a.graph.nodes.length)) (Nat.zero_le _) ⟨Nat.zero_le _, by simp⟩ ?_ ?_
  · rintro j s nxt _ hj ⟨_, rfl⟩ hn
    refine ok_at hj ?_
    refine ok_chk (by simp; omega) ?_
    refine hn _ ⟨hj, ?_⟩
    have s1 := ob.src j hj
    have s2 := ob.dst j hj
    unfold inR at s1 s2
    have e : b.graph.edges.getD j default = b.graph.edges[j] := by simp [hj]
    rw [e] at s1 s2
    rw [wrapI (by omega), wrapI (by omega), List.take_add_one, List.getElem?_eq_getElem hj, Option.toList_some, List.map_append, List.append_assoc]
    rfl
  · rintro s ⟨_, rfl⟩
    rw [List.take_length]
    refine ok_eq (l_slices_Concat_Lint _ _ ⟨by omega, by omega⟩) ?_
    refine ok_chk (by unfold fuel; simp; omega) ?_
    refine ok_map (a.values ++ b.values) (fun l => l) (fun j s nxt hj hs hn => ?_) (.mk (by rw [List.map_id']; rfl))
    refine ok_at hj ?_
    have hm := List.getElem_mem hj
    have hle : (a.values ++ b.values)[j].length ≤ 12 := by
      rcases List.mem_append.1 hm with h | h
      · exact ha.row _ h
      · exact hb.row _ h
    refine ok_eq (l_clone_row _ (by omega)) ?_
    simp at hj
    exact ok_chk (by omega) hn
end Go.Proofs.YtdlohnchnneaeaaGreat
