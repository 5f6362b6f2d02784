/- Joined texts, part 6: lemmas for the statement. No condition. -/
import Derived.Test.YtdlohnchnneaeaaGreatJ5
set_option linter.unusedSimpArgs false
set_option linter.unusedVariables false
open Nat (reduceEqDiff reduceLT reduceLeDiff reduceMul reduceAdd reduceSub)
/- Functions of the program as functions of Lean, and the walks that show them. Printed by gen.py. -/
set_option linter.unusedSimpArgs false
set_option linter.unusedVariables false
set_option maxRecDepth 20000
namespace Go.Proofs.YtdlohnchnneaeaaGreat
open Go.Abs

structure T_scarfjointlaw52_Case where
  t : Types
  s : Sorts
structure T_Morphism where
  nodes : List Int
  edges : List Int

noncomputable section
def f_scarfjointref04_Few (a0 : Types) : Option Bool :=
  cond (decide (20 < ((a0.nodes.length : Nat) : Int))) (
    some false) <|
  cond (decide (30 < ((a0.edges.length : Nat) : Int))) (
    some false) <|
  chk (a0.nodes.length ≤ fuel) <|
  forN (fun i49 (s49 : Int) nxts49 brks49 =>
    thn (a0.nodes[i49]?) fun e92 =>
    cond (decide (30 < (IntKind.i64.wrap (s49 + ((e92.attrs.length : Nat) : Int))))) (
      some false) <|
    cond (decide (40 < ((e92.name.size : Nat) : Int))) (
      some false) <|
    chk (e92.attrs.length ≤ fuel) <|
    forN (fun i109 (s109 : Unit) nxts109 brks109 =>
      thn (e92.attrs[i109]?) fun e122 =>
      cond (decide (40 < ((e122.name.size : Nat) : Int))) (
        some false) <|
      cond (decide (25 < ((e122.names.length : Nat) : Int))) (
        some false) <|
      chk (e122.names.length ≤ fuel) <|
      forN (fun i129 (s129 : Unit) nxts129 brks129 =>
        thn (e122.names[i129]?) fun e132 =>
        cond (decide (40 < ((e132.size : Nat) : Int))) (
          some false) <|
        nxts129 ())
      (e122.names.length - 0) 0 () fun s129 =>
      nxts109 ())
    (e92.attrs.length - 0) 0 () fun s109 =>
    nxts49 (IntKind.i64.wrap (s49 + ((e92.attrs.length : Nat) : Int))))
  (a0.nodes.length - 0) 0 0 fun s49 =>
  chk (a0.edges.length ≤ fuel) <|
  forN (fun i138 (s138 : Unit) nxts138 brks138 =>
    thn (a0.edges[i138]?) fun e141 =>
    cond (decide (40 < ((e141.name.size : Nat) : Int))) (
      some false) <|
    nxts138 ())
  (a0.edges.length - 0) 0 () fun s138 =>
  some true
set_option maxHeartbeats 4000000 in
theorem w_scarfjointref04_Few (a0 : Types) (r : Bool) (h : f_scarfjointref04_Few a0 = some r) : CallV Go.Proofs.Tryz.prog 29 [.agg [.lst (a0.nodes.map encNode), .lst (a0.edges.map encEdgeT)]] (fun v => v = .val (.bool r)) := by
  refine CallV.ple ?_
  refine callV_of_cw [] Ty.mixed Go.Proofs.Tryz.func29 rfl (by kernel_rfl) (by simp [Go.Proofs.Tryz.ntmps29]) ?_; rw [Go.Proofs.Tryz.ntmps29, Go.Proofs.Tryz.results29]
  unfold f_scarfjointref04_Few at h
  try simp -implicitDefEqProofs only [go_sem, reduceEqDiff, reduceLT, reduceLeDiff, reduceMul, reduceAdd, reduceIte, reduceCtorEq, Nat.reduceBEq, reduceSub, Int.reduceToNat, encAttr, encEdgeT, encInts, encNode, encS, encStrs]
  refine walkG_splitN (fun b3 => ?_) (fun b3 => ?_)
  · replace h := cond_t h b3
    cases h
    try simp -implicitDefEqProofs only [go_sem, reduceEqDiff, reduceLT, reduceLeDiff, reduceMul, reduceAdd, reduceIte, reduceCtorEq, Nat.reduceBEq, reduceSub, Int.reduceToNat, encAttr, encEdgeT, encInts, encNode, encS, encStrs, b3]
    all_goals ((repeat' apply And.intro) <;> rfl)
  · replace h := cond_f h b3
    try simp -implicitDefEqProofs only [go_sem, reduceEqDiff, reduceLT, reduceLeDiff, reduceMul, reduceAdd, reduceIte, reduceCtorEq, Nat.reduceBEq, reduceSub, Int.reduceToNat, encAttr, encEdgeT, encInts, encNode, encS, encStrs, b3]
    refine condC_split (fun b4 => ?_) (fun b4 => ?_)
    · replace h := cond_t h b4
      cases h
      try simp -implicitDefEqProofs only [go_sem, reduceEqDiff, reduceLT, reduceLeDiff, reduceMul, reduceAdd, reduceIte, reduceCtorEq, Nat.reduceBEq, reduceSub, Int.reduceToNat, encAttr, encEdgeT, encInts, encNode, encS, encStrs, b3, b4]
      all_goals ((repeat' apply And.intro) <;> rfl)
    · replace h := cond_f h b4
      obtain ⟨fus49, h⟩ := chk_s h
      unfold fuel at fus49
      try simp -implicitDefEqProofs only [go_sem, reduceEqDiff, reduceLT, reduceLeDiff, reduceMul, reduceAdd, reduceIte, reduceCtorEq, Nat.reduceBEq, reduceSub, Int.reduceToNat, encAttr, encEdgeT, encInts, encNode, encS, encStrs, b3, b4]
      refine forN_go (fun x : (Nat × (Int)) × (Unit) => envL [(1, .ptr 1 0), (3, .p (.val (.int .i64 x.1.2))), (4, .p (.val (.int .i64 ((x.1.1 : Nat) : Int))))]) (fun x => heapL [(1, .box [.p (.lst (a0.nodes.map encNode)), .p (.lst (a0.edges.map encEdgeT))])]) () h (weakL (by simp -implicitDefEqProofs only [go_sem, reduceEqDiff, reduceLT, reduceLeDiff, reduceMul, reduceAdd, reduceIte, reduceCtorEq, Nat.reduceBEq, reduceSub, Int.reduceToNat, encAttr, encEdgeT, encInts, encNode, encS, encStrs, b3, b4] <;> ((repeat' apply And.intro) <;> rfl))) ?_ ?_
      · intro i49 s49 g49 nxts49 Rs49 his49 hNs49 h
        have hws49 := wrap_succ (k := i49) his49 (by omega)
        try dsimp only at h
        obtain ⟨e92, c92, g92, q92, h⟩ := idx_s encNode h
        try simp -implicitDefEqProofs only [go_sem, reduceEqDiff, reduceLT, reduceLeDiff, reduceMul, reduceAdd, reduceIte, reduceCtorEq, Nat.reduceBEq, reduceSub, Int.reduceToNat, encAttr, encEdgeT, encInts, encNode, encS, encStrs, b3, b4, his49, hws49, c92, g92]
        refine walkG_splitN (fun b93 => ?_) (fun b93 => ?_)
        · replace h := cond_t h b93
          cases h
          try simp -implicitDefEqProofs only [go_sem, reduceEqDiff, reduceLT, reduceLeDiff, reduceMul, reduceAdd, reduceIte, reduceCtorEq, Nat.reduceBEq, reduceSub, Int.reduceToNat, encAttr, encEdgeT, encInts, encNode, encS, encStrs, b3, b4, his49, hws49, c92, g92, b93]
          all_goals ((repeat' apply And.intro) <;> rfl)
        · replace h := cond_f h b93
          try simp -implicitDefEqProofs only [go_sem, reduceEqDiff, reduceLT, reduceLeDiff, reduceMul, reduceAdd, reduceIte, reduceCtorEq, Nat.reduceBEq, reduceSub, Int.reduceToNat, encAttr, encEdgeT, encInts, encNode, encS, encStrs, b3, b4, his49, hws49, c92, g92, b93]
          refine condC_split (fun b94 => ?_) (fun b94 => ?_)
          · replace h := cond_t h b94
            cases h
            try simp -implicitDefEqProofs only [go_sem, reduceEqDiff, reduceLT, reduceLeDiff, reduceMul, reduceAdd, reduceIte, reduceCtorEq, Nat.reduceBEq, reduceSub, Int.reduceToNat, encAttr, encEdgeT, encInts, encNode, encS, encStrs, b3, b4, his49, hws49, c92, g92, b93, b94]
            all_goals ((repeat' apply And.intro) <;> rfl)
          · replace h := cond_f h b94
            obtain ⟨fus109, h⟩ := chk_s h
            unfold fuel at fus109
            try simp -implicitDefEqProofs only [go_sem, reduceEqDiff, reduceLT, reduceLeDiff, reduceMul, reduceAdd, reduceIte, reduceCtorEq, Nat.reduceBEq, reduceSub, Int.reduceToNat, encAttr, encEdgeT, encInts, encNode, encS, encStrs, b3, b4, his49, hws49, c92, g92, b93, b94]
            refine forN_go (fun x : (Nat × (Unit)) × (Unit) => envL [(1, .ptr 1 0), (3, .p (.val (.int .i64 (IntKind.i64.wrap (s49 + ((e92.attrs.length : Nat) : Int)))))), (4, .p (.val (.int .i64 ((i49 : Nat) : Int)))), (5, .p (.val (.int .i64 ((x.1.1 : Nat) : Int))))]) (fun x => heapL [(1, .box [.p (.lst (a0.nodes.map encNode)), .p (.lst (a0.edges.map encEdgeT))])]) () h (weakL (by simp -implicitDefEqProofs only [go_sem, reduceEqDiff, reduceLT, reduceLeDiff, reduceMul, reduceAdd, reduceIte, reduceCtorEq, Nat.reduceBEq, reduceSub, Int.reduceToNat, encAttr, encEdgeT, encInts, encNode, encS, encStrs, b3, b4, his49, hws49, c92, g92, b93, b94] <;> ((repeat' apply And.intro) <;> rfl))) ?_ ?_
            · intro i109 s109 g109 nxts109 Rs109 his109 hNs109 h
              have hws109 := wrap_succ (k := i109) his109 (by omega)
              try dsimp only at h
              obtain ⟨e122, c122, g122, q122, h⟩ := idx_s encAttr h
              try simp -implicitDefEqProofs only [go_sem, reduceEqDiff, reduceLT, reduceLeDiff, reduceMul, reduceAdd, reduceIte, reduceCtorEq, Nat.reduceBEq, reduceSub, Int.reduceToNat, encAttr, encEdgeT, encInts, encNode, encS, encStrs, b3, b4, his49, hws49, c92, g92, b93, b94, his109, hws109, c122, g122]
              refine walkG_splitN (fun b123 => ?_) (fun b123 => ?_)
              · replace h := cond_t h b123
                cases h
                try simp -implicitDefEqProofs only [go_sem, reduceEqDiff, reduceLT, reduceLeDiff, reduceMul, reduceAdd, reduceIte, reduceCtorEq, Nat.reduceBEq, reduceSub, Int.reduceToNat, encAttr, encEdgeT, encInts, encNode, encS, encStrs, b3, b4, his49, hws49, c92, g92, b93, b94, his109, hws109, c122, g122, b123]
                all_goals ((repeat' apply And.intro) <;> rfl)
              · replace h := cond_f h b123
                try simp -implicitDefEqProofs only [go_sem, reduceEqDiff, reduceLT, reduceLeDiff, reduceMul, reduceAdd, reduceIte, reduceCtorEq, Nat.reduceBEq, reduceSub, Int.reduceToNat, encAttr, encEdgeT, encInts, encNode, encS, encStrs, b3, b4, his49, hws49, c92, g92, b93, b94, his109, hws109, c122, g122, b123]
                refine condC_split (fun b124 => ?_) (fun b124 => ?_)
                · replace h := cond_t h b124
                  cases h
                  try simp -implicitDefEqProofs only [go_sem, reduceEqDiff, reduceLT, reduceLeDiff, reduceMul, reduceAdd, reduceIte, reduceCtorEq, Nat.reduceBEq, reduceSub, Int.reduceToNat, encAttr, encEdgeT, encInts, encNode, encS, encStrs, b3, b4, his49, hws49, c92, g92, b93, b94, his109, hws109, c122, g122, b123, b124]
                  all_goals ((repeat' apply And.intro) <;> rfl)
                · replace h := cond_f h b124
                  obtain ⟨fus129, h⟩ := chk_s h
                  unfold fuel at fus129
                  try simp -implicitDefEqProofs only [go_sem, reduceEqDiff, reduceLT, reduceLeDiff, reduceMul, reduceAdd, reduceIte, reduceCtorEq, Nat.reduceBEq, reduceSub, Int.reduceToNat, encAttr, encEdgeT, encInts, encNode, encS, encStrs, b3, b4, his49, hws49, c92, g92, b93, b94, his109, hws109, c122, g122, b123, b124]
                  refine forN_go (fun x : (Nat × (Unit)) × (Unit) => envL [(1, .ptr 1 0), (3, .p (.val (.int .i64 (IntKind.i64.wrap (s49 + ((e92.attrs.length : Nat) : Int)))))), (4, .p (.val (.int .i64 ((i49 : Nat) : Int)))), (5, .p (.val (.int .i64 ((i109 : Nat) : Int)))), (6, .ptr 6 0), (7, .p (.val (.int .i64 ((x.1.1 : Nat) : Int))))]) (fun x => heapL [(1, .box [.p (.lst (a0.nodes.map encNode)), .p (.lst (a0.edges.map encEdgeT))]), (6, .box [.p (.val (.string e122.name)), .p (.val (.int .i64 e122.low)), .p (.val (.int .i64 e122.high)), .p (.lst (e122.names.map encS))])]) () h (weakL (by simp -implicitDefEqProofs only [go_sem, reduceEqDiff, reduceLT, reduceLeDiff, reduceMul, reduceAdd, reduceIte, reduceCtorEq, Nat.reduceBEq, reduceSub, Int.reduceToNat, encAttr, encEdgeT, encInts, encNode, encS, encStrs, b3, b4, his49, hws49, c92, g92, b93, b94, his109, hws109, c122, g122, b123, b124] <;> ((repeat' apply And.intro) <;> rfl))) ?_ ?_
                  · intro i129 s129 g129 nxts129 Rs129 his129 hNs129 h
                    have hws129 := wrap_succ (k := i129) his129 (by omega)
                    try dsimp only at h
                    obtain ⟨e132, c132, g132, q132, h⟩ := idx_s encS h
                    try simp -implicitDefEqProofs only [go_sem, reduceEqDiff, reduceLT, reduceLeDiff, reduceMul, reduceAdd, reduceIte, reduceCtorEq, Nat.reduceBEq, reduceSub, Int.reduceToNat, encAttr, encEdgeT, encInts, encNode, encS, encStrs, b3, b4, his49, hws49, c92, g92, b93, b94, his109, hws109, c122, g122, b123, b124, his129, hws129, c132, g132]
                    refine condC_split (fun b133 => ?_) (fun b133 => ?_)
                    · replace h := cond_t h b133
                      cases h
                      try simp -implicitDefEqProofs only [go_sem, reduceEqDiff, reduceLT, reduceLeDiff, reduceMul, reduceAdd, reduceIte, reduceCtorEq, Nat.reduceBEq, reduceSub, Int.reduceToNat, encAttr, encEdgeT, encInts, encNode, encS, encStrs, b3, b4, his49, hws49, c92, g92, b93, b94, his109, hws109, c122, g122, b123, b124, his129, hws129, c132, g132, b133]
                      all_goals ((repeat' apply And.intro) <;> rfl)
                    · replace h := cond_f h b133
                      try simp -implicitDefEqProofs only [go_sem, reduceEqDiff, reduceLT, reduceLeDiff, reduceMul, reduceAdd, reduceIte, reduceCtorEq, Nat.reduceBEq, reduceSub, Int.reduceToNat, encAttr, encEdgeT, encInts, encNode, encS, encStrs, b3, b4, his49, hws49, c92, g92, b93, b94, his109, hws109, c122, g122, b123, b124, his129, hws129, c132, g132, b133]
                      exact hNs129 () () h (weakL (by simp -implicitDefEqProofs only [go_sem, reduceEqDiff, reduceLT, reduceLeDiff, reduceMul, reduceAdd, reduceIte, reduceCtorEq, Nat.reduceBEq, reduceSub, Int.reduceToNat, encAttr, encEdgeT, encInts, encNode, encS, encStrs, b3, b4, his49, hws49, c92, g92, b93, b94, his109, hws109, c122, g122, b123, b124, his129, hws129, c132, g132, b133] <;> ((repeat' apply And.intro) <;> rfl)))
                  · intro i129 s129 g129 Rs129 hes129 h
                    have hns129 : ¬ (i129 < e122.names.length) := by omega
                    try dsimp only at h
                    try simp -implicitDefEqProofs only [go_sem, reduceEqDiff, reduceLT, reduceLeDiff, reduceMul, reduceAdd, reduceIte, reduceCtorEq, Nat.reduceBEq, reduceSub, Int.reduceToNat, encAttr, encEdgeT, encInts, encNode, encS, encStrs, b3, b4, his49, hws49, c92, g92, b93, b94, his109, hws109, c122, g122, b123, b124, hns129]
                    exact hNs109 () () h (weakL (by simp -implicitDefEqProofs only [go_sem, reduceEqDiff, reduceLT, reduceLeDiff, reduceMul, reduceAdd, reduceIte, reduceCtorEq, Nat.reduceBEq, reduceSub, Int.reduceToNat, encAttr, encEdgeT, encInts, encNode, encS, encStrs, b3, b4, his49, hws49, c92, g92, b93, b94, his109, hws109, c122, g122, b123, b124, hns129] <;> ((repeat' apply And.intro) <;> rfl)))
            · intro i109 s109 g109 Rs109 hes109 h
              have hns109 : ¬ (i109 < e92.attrs.length) := by omega
              try dsimp only at h
              try simp -implicitDefEqProofs only [go_sem, reduceEqDiff, reduceLT, reduceLeDiff, reduceMul, reduceAdd, reduceIte, reduceCtorEq, Nat.reduceBEq, reduceSub, Int.reduceToNat, encAttr, encEdgeT, encInts, encNode, encS, encStrs, b3, b4, his49, hws49, c92, g92, b93, b94, hns109]
              exact hNs49 (IntKind.i64.wrap (s49 + ((e92.attrs.length : Nat) : Int))) () h (weakL (by simp -implicitDefEqProofs only [go_sem, reduceEqDiff, reduceLT, reduceLeDiff, reduceMul, reduceAdd, reduceIte, reduceCtorEq, Nat.reduceBEq, reduceSub, Int.reduceToNat, encAttr, encEdgeT, encInts, encNode, encS, encStrs, b3, b4, his49, hws49, c92, g92, b93, b94, hns109] <;> ((repeat' apply And.intro) <;> rfl)))
      · intro i49 s49 g49 Rs49 hes49 h
        have hns49 : ¬ (i49 < a0.nodes.length) := by omega
        try dsimp only at h
        obtain ⟨fus138, h⟩ := chk_s h
        unfold fuel at fus138
        try simp -implicitDefEqProofs only [go_sem, reduceEqDiff, reduceLT, reduceLeDiff, reduceMul, reduceAdd, reduceIte, reduceCtorEq, Nat.reduceBEq, reduceSub, Int.reduceToNat, encAttr, encEdgeT, encInts, encNode, encS, encStrs, b3, b4, hns49]
        refine forN_go (fun x : (Nat × (Unit)) × (Unit) => envL [(1, .ptr 1 0), (8, .p (.val (.int .i64 ((x.1.1 : Nat) : Int))))]) (fun x => heapL [(1, .box [.p (.lst (a0.nodes.map encNode)), .p (.lst (a0.edges.map encEdgeT))])]) () h (weakL (by simp -implicitDefEqProofs only [go_sem, reduceEqDiff, reduceLT, reduceLeDiff, reduceMul, reduceAdd, reduceIte, reduceCtorEq, Nat.reduceBEq, reduceSub, Int.reduceToNat, encAttr, encEdgeT, encInts, encNode, encS, encStrs, b3, b4, hns49] <;> ((repeat' apply And.intro) <;> rfl))) ?_ ?_
        · intro i138 s138 g138 nxts138 Rs138 his138 hNs138 h
          have hws138 := wrap_succ (k := i138) his138 (by omega)
          try dsimp only at h
          obtain ⟨e141, c141, g141, q141, h⟩ := idx_s encEdgeT h
          try simp -implicitDefEqProofs only [go_sem, reduceEqDiff, reduceLT, reduceLeDiff, reduceMul, reduceAdd, reduceIte, reduceCtorEq, Nat.reduceBEq, reduceSub, Int.reduceToNat, encAttr, encEdgeT, encInts, encNode, encS, encStrs, b3, b4, hns49, his138, hws138, c141, g141]
          refine condC_split (fun b142 => ?_) (fun b142 => ?_)
          · replace h := cond_t h b142
            cases h
            try simp -implicitDefEqProofs only [go_sem, reduceEqDiff, reduceLT, reduceLeDiff, reduceMul, reduceAdd, reduceIte, reduceCtorEq, Nat.reduceBEq, reduceSub, Int.reduceToNat, encAttr, encEdgeT, encInts, encNode, encS, encStrs, b3, b4, hns49, his138, hws138, c141, g141, b142]
            all_goals ((repeat' apply And.intro) <;> rfl)
          · replace h := cond_f h b142
            try simp -implicitDefEqProofs only [go_sem, reduceEqDiff, reduceLT, reduceLeDiff, reduceMul, reduceAdd, reduceIte, reduceCtorEq, Nat.reduceBEq, reduceSub, Int.reduceToNat, encAttr, encEdgeT, encInts, encNode, encS, encStrs, b3, b4, hns49, his138, hws138, c141, g141, b142]
            exact hNs138 () () h (weakL (by simp -implicitDefEqProofs only [go_sem, reduceEqDiff, reduceLT, reduceLeDiff, reduceMul, reduceAdd, reduceIte, reduceCtorEq, Nat.reduceBEq, reduceSub, Int.reduceToNat, encAttr, encEdgeT, encInts, encNode, encS, encStrs, b3, b4, hns49, his138, hws138, c141, g141, b142] <;> ((repeat' apply And.intro) <;> rfl)))
        · intro i138 s138 g138 Rs138 hes138 h
          have hns138 : ¬ (i138 < a0.edges.length) := by omega
          try dsimp only at h
          cases h
          try simp -implicitDefEqProofs only [go_sem, reduceEqDiff, reduceLT, reduceLeDiff, reduceMul, reduceAdd, reduceIte, reduceCtorEq, Nat.reduceBEq, reduceSub, Int.reduceToNat, encAttr, encEdgeT, encInts, encNode, encS, encStrs, b3, b4, hns49, hns138]
          all_goals ((repeat' apply And.intro) <;> rfl)


def f_scarfjointref52_Few (a0 : Sorts) : Option Bool :=
  some (decide ((IntKind.i64.wrap (((a0.nodes.length : Nat) : Int) + ((a0.edges.length : Nat) : Int))) ≤ 50))
set_option maxHeartbeats 4000000 in
theorem w_scarfjointref52_Few (a0 : Sorts) (r : Bool) (h : f_scarfjointref52_Few a0 = some r) : CallV Go.Proofs.Tryz.prog 30 [.agg [.lst (a0.nodes.map encI), .lst (a0.edges.map encI)]] (fun v => v = .val (.bool r)) := by
  refine CallV.ple ?_
  refine callV_of_cw [] Ty.mixed Go.Proofs.Tryz.func30 rfl (by kernel_rfl) (by simp [Go.Proofs.Tryz.ntmps30]) ?_; rw [Go.Proofs.Tryz.ntmps30, Go.Proofs.Tryz.results30]
  unfold f_scarfjointref52_Few at h
  cases h
  try simp -implicitDefEqProofs only [go_sem, reduceEqDiff, reduceLT, reduceLeDiff, reduceMul, reduceAdd, reduceIte, reduceCtorEq, Nat.reduceBEq, reduceSub, Int.reduceToNat, encI]
  all_goals ((repeat' apply And.intro) <;> rfl)


def f_scarfjointref05_Few (a0 : Graph) : Option Bool :=
  cond (decide (((a0.nodes.length : Nat) : Int) ≤ 45)) (
    some (decide (((a0.edges.length : Nat) : Int) ≤ 90))) <|
  some false
set_option maxHeartbeats 4000000 in
theorem w_scarfjointref05_Few (a0 : Graph) (r : Bool) (h : f_scarfjointref05_Few a0 = some r) : CallV Go.Proofs.Tryz.prog 61 [.agg [.lst (a0.nodes.map encI), .lst (a0.edges.map encEdge)]] (fun v => v = .val (.bool r)) := by
  refine CallV.ple ?_
  refine callV_of_cw [] Ty.mixed Go.Proofs.Tryz.func61 rfl (by kernel_rfl) (by simp [Go.Proofs.Tryz.ntmps61]) ?_; rw [Go.Proofs.Tryz.ntmps61, Go.Proofs.Tryz.results61]
  unfold f_scarfjointref05_Few at h
  try simp -implicitDefEqProofs only [go_sem, reduceEqDiff, reduceLT, reduceLeDiff, reduceMul, reduceAdd, reduceIte, reduceCtorEq, Nat.reduceBEq, reduceSub, Int.reduceToNat, encEdge, encI]
  refine walkG_split (fun b147 => ?_) (fun b147 => ?_)
  · replace h := cond_t h b147
    cases h
    try simp -implicitDefEqProofs only [go_sem, reduceEqDiff, reduceLT, reduceLeDiff, reduceMul, reduceAdd, reduceIte, reduceCtorEq, Nat.reduceBEq, reduceSub, Int.reduceToNat, encEdge, encI, b147]
    all_goals ((repeat' apply And.intro) <;> rfl)
  · replace h := cond_f h b147
    cases h
    try simp -implicitDefEqProofs only [go_sem, reduceEqDiff, reduceLT, reduceLeDiff, reduceMul, reduceAdd, reduceIte, reduceCtorEq, Nat.reduceBEq, reduceSub, Int.reduceToNat, encEdge, encI, b147]
    all_goals ((repeat' apply And.intro) <;> rfl)


def f_scarfjointref15_Few (a0 : Host) : Option Bool :=
  thn (f_scarfjointref05_Few a0.graph) fun r148 =>
  cond r148 (
    cond (decide (45 < ((a0.values.length : Nat) : Int))) (
      some false) <|
    chk (a0.values.length ≤ fuel) <|
    forN (fun i155 (s155 : Unit) nxts155 brks155 =>
      thn (a0.values[i155]?) fun e158 =>
      cond (decide (12 < ((e158.length : Nat) : Int))) (
        some false) <|
      nxts155 ())
    (a0.values.length - 0) 0 () fun s155 =>
    some true) <|
  some false
set_option maxHeartbeats 4000000 in
theorem w_scarfjointref15_Few (a0 : Host) (r : Bool) (h : f_scarfjointref15_Few a0 = some r) : CallV Go.Proofs.Tryz.prog 31 [.agg [.lst (a0.graph.nodes.map encI), .lst (a0.graph.edges.map encEdge), .lst (a0.values.map encRow)]] (fun v => v = .val (.bool r)) := by
  refine CallV.ple ?_
  refine callV_of_cw [] Ty.mixed Go.Proofs.Tryz.func31 rfl (by kernel_rfl) (by simp [Go.Proofs.Tryz.ntmps31]) ?_; rw [Go.Proofs.Tryz.ntmps31, Go.Proofs.Tryz.results31]
  unfold f_scarfjointref15_Few at h
  obtain ⟨r148, hr148, h⟩ := thn_s h
  try simp -implicitDefEqProofs only [go_sem, reduceEqDiff, reduceLT, reduceLeDiff, reduceMul, reduceAdd, reduceIte, reduceCtorEq, Nat.reduceBEq, reduceSub, Int.reduceToNat, encEdge, encI, encInts, encRow, encStrs]
  refine callG (w_scarfjointref05_Few a0.graph r148 hr148) (by simp -implicitDefEqProofs only [go_sem, reduceEqDiff, reduceLT, reduceLeDiff, reduceMul, reduceAdd, reduceIte, reduceCtorEq, Nat.reduceBEq, reduceSub, Int.reduceToNat, encEdge, encI, encInts, encRow, encStrs] <;> rfl) (pleL_refl _) (by first | exact pers | exact scal rfl) ?_
  try simp -implicitDefEqProofs only [go_sem, reduceEqDiff, reduceLT, reduceLeDiff, reduceMul, reduceAdd, reduceIte, reduceCtorEq, Nat.reduceBEq, reduceSub, Int.reduceToNat, encEdge, encI, encInts, encRow, encStrs]
  refine walkG_split (fun b149 => ?_) (fun b149 => ?_)
  · replace h := cond_t h b149
    try simp -implicitDefEqProofs only [go_sem, reduceEqDiff, reduceLT, reduceLeDiff, reduceMul, reduceAdd, reduceIte, reduceCtorEq, Nat.reduceBEq, reduceSub, Int.reduceToNat, encEdge, encI, encInts, encRow, encStrs, b149]
    refine condC_split (fun b150 => ?_) (fun b150 => ?_)
    · replace h := cond_t h b150
      cases h
      try simp -implicitDefEqProofs only [go_sem, reduceEqDiff, reduceLT, reduceLeDiff, reduceMul, reduceAdd, reduceIte, reduceCtorEq, Nat.reduceBEq, reduceSub, Int.reduceToNat, encEdge, encI, encInts, encRow, encStrs, b149, b150]
      all_goals ((repeat' apply And.intro) <;> rfl)
    · replace h := cond_f h b150
      obtain ⟨fus155, h⟩ := chk_s h
      unfold fuel at fus155
      try simp -implicitDefEqProofs only [go_sem, reduceEqDiff, reduceLT, reduceLeDiff, reduceMul, reduceAdd, reduceIte, reduceCtorEq, Nat.reduceBEq, reduceSub, Int.reduceToNat, encEdge, encI, encInts, encRow, encStrs, b149, b150]
      refine forN_go (fun x : (Nat × (Unit)) × (Unit) => envL [(1, .ptr 1 0), (3, .p (.val (.int .i64 ((x.1.1 : Nat) : Int))))]) (fun x => heapL [(1, .box [.p (.lst (a0.graph.nodes.map encI)), .p (.lst (a0.graph.edges.map encEdge)), .p (.lst (a0.values.map encRow))])]) () h (weakL (by simp -implicitDefEqProofs only [go_sem, reduceEqDiff, reduceLT, reduceLeDiff, reduceMul, reduceAdd, reduceIte, reduceCtorEq, Nat.reduceBEq, reduceSub, Int.reduceToNat, encEdge, encI, encInts, encRow, encStrs, b149, b150] <;> ((repeat' apply And.intro) <;> rfl))) ?_ ?_
      · intro i155 s155 g155 nxts155 Rs155 his155 hNs155 h
        have hws155 := wrap_succ (k := i155) his155 (by omega)
        try dsimp only at h
        obtain ⟨e158, c158, g158, q158, h⟩ := idx_s encRow h
        try simp -implicitDefEqProofs only [go_sem, reduceEqDiff, reduceLT, reduceLeDiff, reduceMul, reduceAdd, reduceIte, reduceCtorEq, Nat.reduceBEq, reduceSub, Int.reduceToNat, encEdge, encI, encInts, encRow, encStrs, b149, b150, his155, hws155, c158, g158]
        refine condC_split (fun b159 => ?_) (fun b159 => ?_)
        · replace h := cond_t h b159
          cases h
          try simp -implicitDefEqProofs only [go_sem, reduceEqDiff, reduceLT, reduceLeDiff, reduceMul, reduceAdd, reduceIte, reduceCtorEq, Nat.reduceBEq, reduceSub, Int.reduceToNat, encEdge, encI, encInts, encRow, encStrs, b149, b150, his155, hws155, c158, g158, b159]
          all_goals ((repeat' apply And.intro) <;> rfl)
        · replace h := cond_f h b159
          try simp -implicitDefEqProofs only [go_sem, reduceEqDiff, reduceLT, reduceLeDiff, reduceMul, reduceAdd, reduceIte, reduceCtorEq, Nat.reduceBEq, reduceSub, Int.reduceToNat, encEdge, encI, encInts, encRow, encStrs, b149, b150, his155, hws155, c158, g158, b159]
          exact hNs155 () () h (weakL (by simp -implicitDefEqProofs only [go_sem, reduceEqDiff, reduceLT, reduceLeDiff, reduceMul, reduceAdd, reduceIte, reduceCtorEq, Nat.reduceBEq, reduceSub, Int.reduceToNat, encEdge, encI, encInts, encRow, encStrs, b149, b150, his155, hws155, c158, g158, b159] <;> ((repeat' apply And.intro) <;> rfl)))
      · intro i155 s155 g155 Rs155 hes155 h
        have hns155 : ¬ (i155 < a0.values.length) := by omega
        try dsimp only at h
        cases h
        try simp -implicitDefEqProofs only [go_sem, reduceEqDiff, reduceLT, reduceLeDiff, reduceMul, reduceAdd, reduceIte, reduceCtorEq, Nat.reduceBEq, reduceSub, Int.reduceToNat, encEdge, encI, encInts, encRow, encStrs, b149, b150, hns155]
        all_goals ((repeat' apply And.intro) <;> rfl)
  · replace h := cond_f h b149
    cases h
    try simp -implicitDefEqProofs only [go_sem, reduceEqDiff, reduceLT, reduceLeDiff, reduceMul, reduceAdd, reduceIte, reduceCtorEq, Nat.reduceBEq, reduceSub, Int.reduceToNat, encEdge, encI, encInts, encRow, encStrs, b149]
    all_goals ((repeat' apply And.intro) <;> rfl)


def f_scarfjointlaw52_few (a0 : Types) (a1 : Sorts) (a2 : Host) : Option Bool :=
  thn (f_scarfjointref04_Few a0) fun r143 =>
  cond r143 (
    thn (f_scarfjointref52_Few a1) fun r145 =>
    cond r145 (
      thn (f_scarfjointref15_Few a2) fun r160 =>
      some r160) <|
    some false) <|
  some false
set_option maxHeartbeats 4000000 in
theorem w_scarfjointlaw52_few (a0 : Types) (a1 : Sorts) (a2 : Host) (r : Bool) (h : f_scarfjointlaw52_few a0 a1 a2 = some r) : CallV Go.Proofs.Tryz.prog 10 [.agg [.lst (a0.nodes.map encNode), .lst (a0.edges.map encEdgeT)], .agg [.lst (a1.nodes.map encI), .lst (a1.edges.map encI)], .agg [.lst (a2.graph.nodes.map encI), .lst (a2.graph.edges.map encEdge), .lst (a2.values.map encRow)]] (fun v => v = .val (.bool r)) := by
  refine CallV.ple ?_
  refine callV_of_cw [] Ty.mixed Go.Proofs.Tryz.func10 rfl (by kernel_rfl) (by simp [Go.Proofs.Tryz.ntmps10]) ?_; rw [Go.Proofs.Tryz.ntmps10, Go.Proofs.Tryz.results10]
  unfold f_scarfjointlaw52_few at h
  obtain ⟨r143, hr143, h⟩ := thn_s h
  try simp -implicitDefEqProofs only [go_sem, reduceEqDiff, reduceLT, reduceLeDiff, reduceMul, reduceAdd, reduceIte, reduceCtorEq, Nat.reduceBEq, reduceSub, Int.reduceToNat, encEdge, encEdgeT, encI, encInts, encNode, encRow, encStrs]
  refine callG (w_scarfjointref04_Few a0 r143 hr143) (by simp -implicitDefEqProofs only [go_sem, reduceEqDiff, reduceLT, reduceLeDiff, reduceMul, reduceAdd, reduceIte, reduceCtorEq, Nat.reduceBEq, reduceSub, Int.reduceToNat, encEdge, encEdgeT, encI, encInts, encNode, encRow, encStrs] <;> rfl) (pleL_refl _) (by first | exact pers | exact scal rfl) ?_
  try simp -implicitDefEqProofs only [go_sem, reduceEqDiff, reduceLT, reduceLeDiff, reduceMul, reduceAdd, reduceIte, reduceCtorEq, Nat.reduceBEq, reduceSub, Int.reduceToNat, encEdge, encEdgeT, encI, encInts, encNode, encRow, encStrs]
  refine walkG_split (fun b144 => ?_) (fun b144 => ?_)
  · replace h := cond_t h b144
    obtain ⟨r145, hr145, h⟩ := thn_s h
    try simp -implicitDefEqProofs only [go_sem, reduceEqDiff, reduceLT, reduceLeDiff, reduceMul, reduceAdd, reduceIte, reduceCtorEq, Nat.reduceBEq, reduceSub, Int.reduceToNat, encEdge, encEdgeT, encI, encInts, encNode, encRow, encStrs, b144]
    refine callG (w_scarfjointref52_Few a1 r145 hr145) (by simp -implicitDefEqProofs only [go_sem, reduceEqDiff, reduceLT, reduceLeDiff, reduceMul, reduceAdd, reduceIte, reduceCtorEq, Nat.reduceBEq, reduceSub, Int.reduceToNat, encEdge, encEdgeT, encI, encInts, encNode, encRow, encStrs, b144] <;> rfl) (pleL_refl _) (by first | exact pers | exact scal rfl) ?_
    try simp -implicitDefEqProofs only [go_sem, reduceEqDiff, reduceLT, reduceLeDiff, reduceMul, reduceAdd, reduceIte, reduceCtorEq, Nat.reduceBEq, reduceSub, Int.reduceToNat, encEdge, encEdgeT, encI, encInts, encNode, encRow, encStrs, b144]
    refine walkG_split (fun b146 => ?_) (fun b146 => ?_)
    · replace h := cond_t h b146
      obtain ⟨r160, hr160, h⟩ := thn_s h
      try simp -implicitDefEqProofs only [go_sem, reduceEqDiff, reduceLT, reduceLeDiff, reduceMul, reduceAdd, reduceIte, reduceCtorEq, Nat.reduceBEq, reduceSub, Int.reduceToNat, encEdge, encEdgeT, encI, encInts, encNode, encRow, encStrs, b144, b146]
      refine callG (w_scarfjointref15_Few a2 r160 hr160) (by simp -implicitDefEqProofs only [go_sem, reduceEqDiff, reduceLT, reduceLeDiff, reduceMul, reduceAdd, reduceIte, reduceCtorEq, Nat.reduceBEq, reduceSub, Int.reduceToNat, encEdge, encEdgeT, encI, encInts, encNode, encRow, encStrs, b144, b146] <;> rfl) (pleL_refl _) (by first | exact pers | exact scal rfl) ?_
      cases h
      try simp -implicitDefEqProofs only [go_sem, reduceEqDiff, reduceLT, reduceLeDiff, reduceMul, reduceAdd, reduceIte, reduceCtorEq, Nat.reduceBEq, reduceSub, Int.reduceToNat, encEdge, encEdgeT, encI, encInts, encNode, encRow, encStrs, b144, b146]
      all_goals ((repeat' apply And.intro) <;> rfl)
    · replace h := cond_f h b146
      cases h
      try simp -implicitDefEqProofs only [go_sem, reduceEqDiff, reduceLT, reduceLeDiff, reduceMul, reduceAdd, reduceIte, reduceCtorEq, Nat.reduceBEq, reduceSub, Int.reduceToNat, encEdge, encEdgeT, encI, encInts, encNode, encRow, encStrs, b144, b146]
      all_goals ((repeat' apply And.intro) <;> rfl)
  · replace h := cond_f h b144
    cases h
    try simp -implicitDefEqProofs only [go_sem, reduceEqDiff, reduceLT, reduceLeDiff, reduceMul, reduceAdd, reduceIte, reduceCtorEq, Nat.reduceBEq, reduceSub, Int.reduceToNat, encEdge, encEdgeT, encI, encInts, encNode, encRow, encStrs, b144]
    all_goals ((repeat' apply And.intro) <;> rfl)


def f_triple_part (a0 : Sorts) (a1 : Graph) (a2 : Int) : Option Part :=
  chk (a1.nodes.length ≤ fuel) <|
  forN (fun i217 (s217 : (List Int)) nxts217 brks217 =>
    thn (a1.nodes[i217]?) fun e224 =>
    thn (atZ a0.nodes e224) fun e225 =>
    cond (decide (e225 = a2)) (
      chk (s217.length + 1 ≤ 68719476736) <|
      nxts217 (s217 ++ [((i217 : Nat) : Int)])) <|
    nxts217 s217)
  (a1.nodes.length - 0) 0 ([] : List Int) fun s217 =>
  chk (a1.edges.length ≤ fuel) <|
  forN (fun i238 (s238 : (List Int)) nxts238 brks238 =>
    thn (a1.edges[i238]?) fun e245 =>
    thn (atZ a0.edges e245.type) fun e246 =>
    cond (decide (e246 = a2)) (
      chk (s238.length + 1 ≤ 68719476736) <|
      nxts238 (s238 ++ [((i238 : Nat) : Int)])) <|
    nxts238 s238)
  (a1.edges.length - 0) 0 ([] : List Int) fun s238 =>
  some (⟨s217, s238⟩ : Part)
set_option maxHeartbeats 4000000 in
theorem w_triple_part (a0 : Sorts) (a1 : Graph) (a2 : Int) (r : Part) (h : f_triple_part a0 a1 a2 = some r) : CallF Go.Proofs.Tryz.prog 51 [.agg [.lst (a0.nodes.map encI), .lst (a0.edges.map encI)], .agg [.lst (a1.nodes.map encI), .lst (a1.edges.map encEdge)], .val (.int .i64 a2)] (fun v => v = .agg [.row 3 1 (r.nodes.map encI), .row 3 1 (r.edges.map encI)]) := by
  refine CallF.rle ?_
  refine callF_of_cw [31, 54] Ty.mixed Go.Proofs.Tryz.func51 rfl (by kernel_rfl) (by simp [Go.Proofs.Tryz.ntmps51]) ?_; rw [Go.Proofs.Tryz.ntmps51, Go.Proofs.Tryz.results51]
  unfold f_triple_part at h
  obtain ⟨fus217, h⟩ := chk_s h
  unfold fuel at fus217
  try simp -implicitDefEqProofs only [go_sem, reduceEqDiff, reduceLT, reduceLeDiff, reduceMul, reduceAdd, reduceIte, reduceCtorEq, Nat.reduceBEq, reduceSub, Int.reduceToNat, encEdge, encI]
  refine forN_go (fun x : (Nat × ((List Int))) × (Nat) => envL [(2, .p (.val (.int .i64 a2))), (3, .ptr 3 0), (4, .ptr 4 0), (6, .ptr 6 0), (7, .ptr 7 0), (13, .p (.lst (a1.nodes.map encI))), (14, .p (.val (.int .i64 ((a1.nodes.length : Nat) : Int)))), (15, .p (.val (.int .i64 ((x.1.1 : Nat) : Int))))]) (fun x => heapL [(3, .box [.p (.lst (a0.nodes.map encI)), .p (.lst (a0.edges.map encI))]), (4, .box [.p (.lst (a1.nodes.map encI)), .p (.lst (a1.edges.map encEdge))]), (6, .box [.p (.val (.slice none 0 0)), .p (.val (.slice none 0 0))]), (7, .box [.row 2215 x.2, .p (.val (.slice none 0 0))]), (2215, .row x.2 3 1 (x.1.2.map encI))]) 0 h (by refine Weak.trans (weak_nilbox 7 0 2215 3 1 _ rfl rfl rfl (by decide)) ?_; exact (weakL (by simp -implicitDefEqProofs only [go_sem, reduceEqDiff, reduceLT, reduceLeDiff, reduceMul, reduceAdd, reduceIte, reduceCtorEq, Nat.reduceBEq, reduceSub, Int.reduceToNat, encEdge, encI] <;> ((repeat' apply And.intro) <;> rfl)))) ?_ ?_
  · intro i217 s217 g217 nxts217 Rs217 his217 hNs217 h
    have hws217 := wrap_succ (k := i217) his217 (by omega)
    try dsimp only at h
    obtain ⟨e224, c224, g224, q224, h⟩ := idx_s encI h
    obtain ⟨e225, c225a, c225b, g225, q225, h⟩ := atZ_s encI h
    try simp -implicitDefEqProofs only [go_sem, reduceEqDiff, reduceLT, reduceLeDiff, reduceMul, reduceAdd, reduceIte, reduceCtorEq, Nat.reduceBEq, reduceSub, Int.reduceToNat, encEdge, encI, his217, hws217, c224, g224, c225a, c225b, g225]
    refine condC_split (fun b226 => ?_) (fun b226 => ?_)
    · replace h := cond_t h b226
      obtain ⟨c227, h⟩ := chk_s h
      have k228 := eq_true (show (s217.length + 1) * 8 ≤ 140737488355328 by omega)
      have a229 := map_apps encI s217 [((i217 : Nat) : Int)] (c := [[.val (.int .i64 ((i217 : Nat) : Int))]]) rfl
      try simp -implicitDefEqProofs only [go_sem, reduceEqDiff, reduceLT, reduceLeDiff, reduceMul, reduceAdd, reduceIte, reduceCtorEq, Nat.reduceBEq, reduceSub, Int.reduceToNat, encEdge, encI, his217, hws217, c224, g224, c225a, c225b, g225, b226, c227, k228, a229]
      exact hNs217 (s217 ++ [((i217 : Nat) : Int)]) (g217 + 1) h (weakL (by simp -implicitDefEqProofs only [go_sem, reduceEqDiff, reduceLT, reduceLeDiff, reduceMul, reduceAdd, reduceIte, reduceCtorEq, Nat.reduceBEq, reduceSub, Int.reduceToNat, encEdge, encI, his217, hws217, c224, g224, c225a, c225b, g225, b226, c227, k228, a229] <;> ((repeat' apply And.intro) <;> rfl)))
    · replace h := cond_f h b226
      try simp -implicitDefEqProofs only [go_sem, reduceEqDiff, reduceLT, reduceLeDiff, reduceMul, reduceAdd, reduceIte, reduceCtorEq, Nat.reduceBEq, reduceSub, Int.reduceToNat, encEdge, encI, his217, hws217, c224, g224, c225a, c225b, g225, b226]
      exact hNs217 s217 g217 h (weakL (by simp -implicitDefEqProofs only [go_sem, reduceEqDiff, reduceLT, reduceLeDiff, reduceMul, reduceAdd, reduceIte, reduceCtorEq, Nat.reduceBEq, reduceSub, Int.reduceToNat, encEdge, encI, his217, hws217, c224, g224, c225a, c225b, g225, b226] <;> ((repeat' apply And.intro) <;> rfl)))
  · intro i217 s217 g217 Rs217 hes217 h
    have hns217 : ¬ (i217 < a1.nodes.length) := by omega
    try dsimp only at h
    obtain ⟨fus238, h⟩ := chk_s h
    unfold fuel at fus238
    try simp -implicitDefEqProofs only [go_sem, reduceEqDiff, reduceLT, reduceLeDiff, reduceMul, reduceAdd, reduceIte, reduceCtorEq, Nat.reduceBEq, reduceSub, Int.reduceToNat, encEdge, encI, hns217]
    refine forN_go (fun x : (Nat × ((List Int))) × (Nat) => envL [(2, .p (.val (.int .i64 a2))), (3, .ptr 3 0), (6, .ptr 6 0), (7, .ptr 7 0), (35, .p (.lst (a1.edges.map encEdge))), (36, .p (.val (.int .i64 ((a1.edges.length : Nat) : Int)))), (37, .p (.val (.int .i64 ((x.1.1 : Nat) : Int))))]) (fun x => heapL [(3, .box [.p (.lst (a0.nodes.map encI)), .p (.lst (a0.edges.map encI))]), (6, .box [.p (.val (.slice none 0 0)), .p (.val (.slice none 0 0))]), (7, .box [.row 2215 g217, .row 2236 x.2]), (2215, .row g217 3 1 (s217.map encI)), (2236, .row x.2 3 1 (x.1.2.map encI))]) 0 h (by refine Weak.trans (weak_nilbox 7 1 2236 3 1 _ rfl rfl rfl (by decide)) ?_; exact (weakL (by simp -implicitDefEqProofs only [go_sem, reduceEqDiff, reduceLT, reduceLeDiff, reduceMul, reduceAdd, reduceIte, reduceCtorEq, Nat.reduceBEq, reduceSub, Int.reduceToNat, encEdge, encI, hns217] <;> ((repeat' apply And.intro) <;> rfl)))) ?_ ?_
    · intro i238 s238 g238 nxts238 Rs238 his238 hNs238 h
      have hws238 := wrap_succ (k := i238) his238 (by omega)
      try dsimp only at h
      obtain ⟨e245, c245, g245, q245, h⟩ := idx_s encEdge h
      obtain ⟨e246, c246a, c246b, g246, q246, h⟩ := atZ_s encI h
      try simp -implicitDefEqProofs only [go_sem, reduceEqDiff, reduceLT, reduceLeDiff, reduceMul, reduceAdd, reduceIte, reduceCtorEq, Nat.reduceBEq, reduceSub, Int.reduceToNat, encEdge, encI, hns217, his238, hws238, c245, g245, c246a, c246b, g246]
      refine condC_split (fun b247 => ?_) (fun b247 => ?_)
      · replace h := cond_t h b247
        obtain ⟨c248, h⟩ := chk_s h
        have k249 := eq_true (show (s238.length + 1) * 8 ≤ 140737488355328 by omega)
        have a250 := map_apps encI s238 [((i238 : Nat) : Int)] (c := [[.val (.int .i64 ((i238 : Nat) : Int))]]) rfl
        try simp -implicitDefEqProofs only [go_sem, reduceEqDiff, reduceLT, reduceLeDiff, reduceMul, reduceAdd, reduceIte, reduceCtorEq, Nat.reduceBEq, reduceSub, Int.reduceToNat, encEdge, encI, hns217, his238, hws238, c245, g245, c246a, c246b, g246, b247, c248, k249, a250]
        exact hNs238 (s238 ++ [((i238 : Nat) : Int)]) (g238 + 1) h (weakL (by simp -implicitDefEqProofs only [go_sem, reduceEqDiff, reduceLT, reduceLeDiff, reduceMul, reduceAdd, reduceIte, reduceCtorEq, Nat.reduceBEq, reduceSub, Int.reduceToNat, encEdge, encI, hns217, his238, hws238, c245, g245, c246a, c246b, g246, b247, c248, k249, a250] <;> ((repeat' apply And.intro) <;> rfl)))
      · replace h := cond_f h b247
        try simp -implicitDefEqProofs only [go_sem, reduceEqDiff, reduceLT, reduceLeDiff, reduceMul, reduceAdd, reduceIte, reduceCtorEq, Nat.reduceBEq, reduceSub, Int.reduceToNat, encEdge, encI, hns217, his238, hws238, c245, g245, c246a, c246b, g246, b247]
        exact hNs238 s238 g238 h (weakL (by simp -implicitDefEqProofs only [go_sem, reduceEqDiff, reduceLT, reduceLeDiff, reduceMul, reduceAdd, reduceIte, reduceCtorEq, Nat.reduceBEq, reduceSub, Int.reduceToNat, encEdge, encI, hns217, his238, hws238, c245, g245, c246a, c246b, g246, b247] <;> ((repeat' apply And.intro) <;> rfl)))
    · intro i238 s238 g238 Rs238 hes238 h
      have hns238 : ¬ (i238 < a1.edges.length) := by omega
      try dsimp only at h
      cases h
      try simp -implicitDefEqProofs only [go_sem, reduceEqDiff, reduceLT, reduceLeDiff, reduceMul, reduceAdd, reduceIte, reduceCtorEq, Nat.reduceBEq, reduceSub, Int.reduceToNat, encEdge, encI, hns217, hns238]
      refine ⟨by decide, _, .refl _, ?_⟩
      simp -implicitDefEqProofs only [go_sem, reduceEqDiff, reduceLT, reduceLeDiff, reduceMul, reduceAdd, reduceIte, reduceCtorEq, Nat.reduceBEq, reduceSub, Int.reduceToNat, encEdge, encI, hns217, hns238] <;> ((repeat' apply And.intro) <;> rfl)


def f_host_valid (a0 : Types) (a1 : Host) : Option Int :=
  thn (f_host_Valid a0 a1) fun r252 =>
  some r252.2
set_option maxHeartbeats 4000000 in
theorem w_host_valid (a0 : Types) (a1 : Host) (r : Int) (h : f_host_valid a0 a1 = some r) : CallV Go.Proofs.Tryz.prog 72 [.agg [.lst (a0.nodes.map encNode), .lst (a0.edges.map encEdgeT)], .agg [.lst (a1.graph.nodes.map encI), .lst (a1.graph.edges.map encEdge), .lst (a1.values.map encRow)]] (fun v => v = .val (.int .i64 r)) := by
  refine CallV.ple ?_
  refine callV_of_cw [] Ty.mixed Go.Proofs.Tryz.func72 rfl (by kernel_rfl) (by simp [Go.Proofs.Tryz.ntmps72]) ?_; rw [Go.Proofs.Tryz.ntmps72, Go.Proofs.Tryz.results72]
  unfold f_host_valid at h
  obtain ⟨r252, hr252, h⟩ := thn_s h
  try simp -implicitDefEqProofs only [go_sem, reduceEqDiff, reduceLT, reduceLeDiff, reduceMul, reduceAdd, reduceIte, reduceCtorEq, Nat.reduceBEq, reduceSub, Int.reduceToNat, encEdge, encEdgeT, encI, encInts, encNode, encRow, encStrs]
  refine callG (w_host_Valid a0 a1 r252 hr252) (by simp -implicitDefEqProofs only [go_sem, reduceEqDiff, reduceLT, reduceLeDiff, reduceMul, reduceAdd, reduceIte, reduceCtorEq, Nat.reduceBEq, reduceSub, Int.reduceToNat, encEdge, encEdgeT, encI, encInts, encNode, encRow, encStrs] <;> rfl) (pleL_refl _) (by first | exact pers | exact scal rfl) ?_
  cases h
  try simp -implicitDefEqProofs only [go_sem, reduceEqDiff, reduceLT, reduceLeDiff, reduceMul, reduceAdd, reduceIte, reduceCtorEq, Nat.reduceBEq, reduceSub, Int.reduceToNat, encEdge, encEdgeT, encI, encInts, encNode, encRow, encStrs]
  all_goals ((repeat' apply And.intro) <;> rfl)


def f_subgraph_list (a0 : List Int) (a1 : Int) : Option Int :=
  chk (a0.length ≤ fuel) <|
  forN (fun i265 (s265 : Unit) nxts265 brks265 =>
    thn (a0[i265]?) fun e272 =>
    cond (decide (e272 < 0)) (
      some 6) <|
    cond (decide (a1 ≤ e272)) (
      some 6) <|
    cond (decide (0 < ((i265 : Nat) : Int))) (
      thn (atZ a0 (IntKind.i64.wrap (((i265 : Nat) : Int) - 1))) fun e276 =>
      cond (decide (e272 ≤ e276)) (
        some 12) <|
      nxts265 ()) <|
    nxts265 ())
  (a0.length - 0) 0 () fun s265 =>
  some 0
set_option maxHeartbeats 4000000 in
theorem w_subgraph_list (a0 : List Int) (a1 : Int) (r : Int) (h : f_subgraph_list a0 a1 = some r) : CallV Go.Proofs.Tryz.prog 149 [.lst (a0.map encI), .val (.int .i64 a1)] (fun v => v = .val (.int .i64 r)) := by
  refine CallV.ple ?_
  refine callV_of_cw [] Ty.mixed Go.Proofs.Tryz.func149 rfl (by kernel_rfl) (by simp [Go.Proofs.Tryz.ntmps149]) ?_; rw [Go.Proofs.Tryz.ntmps149, Go.Proofs.Tryz.results149]
  unfold f_subgraph_list at h
  obtain ⟨fus265, h⟩ := chk_s h
  unfold fuel at fus265
  try simp -implicitDefEqProofs only [go_sem, reduceEqDiff, reduceLT, reduceLeDiff, reduceMul, reduceAdd, reduceIte, reduceCtorEq, Nat.reduceBEq, reduceSub, Int.reduceToNat, encI]
  refine forN_go (fun x : (Nat × (Unit)) × (Unit) => envL [(0, .p (.lst (a0.map encI))), (1, .p (.val (.int .i64 a1))), (7, .p (.lst (a0.map encI))), (8, .p (.val (.int .i64 ((a0.length : Nat) : Int)))), (9, .p (.val (.int .i64 ((x.1.1 : Nat) : Int))))]) (fun x => heapL []) () h (weakL (by simp -implicitDefEqProofs only [go_sem, reduceEqDiff, reduceLT, reduceLeDiff, reduceMul, reduceAdd, reduceIte, reduceCtorEq, Nat.reduceBEq, reduceSub, Int.reduceToNat, encI] <;> ((repeat' apply And.intro) <;> rfl))) ?_ ?_
  · intro i265 s265 g265 nxts265 Rs265 his265 hNs265 h
    have hws265 := wrap_succ (k := i265) his265 (by omega)
    try dsimp only at h
    obtain ⟨e272, c272, g272, q272, h⟩ := idx_s encI h
    try simp -implicitDefEqProofs only [go_sem, reduceEqDiff, reduceLT, reduceLeDiff, reduceMul, reduceAdd, reduceIte, reduceCtorEq, Nat.reduceBEq, reduceSub, Int.reduceToNat, encI, his265, hws265, c272, g272]
    refine walkG_splitN (fun b273 => ?_) (fun b273 => ?_)
    · replace h := cond_t h b273
      cases h
      try simp -implicitDefEqProofs only [go_sem, reduceEqDiff, reduceLT, reduceLeDiff, reduceMul, reduceAdd, reduceIte, reduceCtorEq, Nat.reduceBEq, reduceSub, Int.reduceToNat, encI, his265, hws265, c272, g272, b273]
      all_goals ((repeat' apply And.intro) <;> rfl)
    · replace h := cond_f h b273
      try simp -implicitDefEqProofs only [go_sem, reduceEqDiff, reduceLT, reduceLeDiff, reduceMul, reduceAdd, reduceIte, reduceCtorEq, Nat.reduceBEq, reduceSub, Int.reduceToNat, encI, his265, hws265, c272, g272, b273]
      refine condC_split (fun b274 => ?_) (fun b274 => ?_)
      · replace h := cond_t h b274
        cases h
        try simp -implicitDefEqProofs only [go_sem, reduceEqDiff, reduceLT, reduceLeDiff, reduceMul, reduceAdd, reduceIte, reduceCtorEq, Nat.reduceBEq, reduceSub, Int.reduceToNat, encI, his265, hws265, c272, g272, b273, b274]
        all_goals ((repeat' apply And.intro) <;> rfl)
      · replace h := cond_f h b274
        try simp -implicitDefEqProofs only [go_sem, reduceEqDiff, reduceLT, reduceLeDiff, reduceMul, reduceAdd, reduceIte, reduceCtorEq, Nat.reduceBEq, reduceSub, Int.reduceToNat, encI, his265, hws265, c272, g272, b273, b274]
        refine walkG_split (fun b275 => ?_) (fun b275 => ?_)
        · replace h := cond_t h b275
          obtain ⟨e276, c276a, c276b, g276, q276, h⟩ := atZ_s encI h
          try simp -implicitDefEqProofs only [go_sem, reduceEqDiff, reduceLT, reduceLeDiff, reduceMul, reduceAdd, reduceIte, reduceCtorEq, Nat.reduceBEq, reduceSub, Int.reduceToNat, encI, his265, hws265, c272, g272, b273, b274, b275, c276a, c276b, g276]
          refine condC_split (fun b277 => ?_) (fun b277 => ?_)
          · replace h := cond_t h b277
            cases h
            try simp -implicitDefEqProofs only [go_sem, reduceEqDiff, reduceLT, reduceLeDiff, reduceMul, reduceAdd, reduceIte, reduceCtorEq, Nat.reduceBEq, reduceSub, Int.reduceToNat, encI, his265, hws265, c272, g272, b273, b274, b275, c276a, c276b, g276, b277]
            all_goals ((repeat' apply And.intro) <;> rfl)
          · replace h := cond_f h b277
            try simp -implicitDefEqProofs only [go_sem, reduceEqDiff, reduceLT, reduceLeDiff, reduceMul, reduceAdd, reduceIte, reduceCtorEq, Nat.reduceBEq, reduceSub, Int.reduceToNat, encI, his265, hws265, c272, g272, b273, b274, b275, c276a, c276b, g276, b277]
            exact hNs265 () () h (weakL (by simp -implicitDefEqProofs only [go_sem, reduceEqDiff, reduceLT, reduceLeDiff, reduceMul, reduceAdd, reduceIte, reduceCtorEq, Nat.reduceBEq, reduceSub, Int.reduceToNat, encI, his265, hws265, c272, g272, b273, b274, b275, c276a, c276b, g276, b277] <;> ((repeat' apply And.intro) <;> rfl)))
        · replace h := cond_f h b275
          try simp -implicitDefEqProofs only [go_sem, reduceEqDiff, reduceLT, reduceLeDiff, reduceMul, reduceAdd, reduceIte, reduceCtorEq, Nat.reduceBEq, reduceSub, Int.reduceToNat, encI, his265, hws265, c272, g272, b273, b274, b275]
          exact hNs265 () () h (weakL (by simp -implicitDefEqProofs only [go_sem, reduceEqDiff, reduceLT, reduceLeDiff, reduceMul, reduceAdd, reduceIte, reduceCtorEq, Nat.reduceBEq, reduceSub, Int.reduceToNat, encI, his265, hws265, c272, g272, b273, b274, b275] <;> ((repeat' apply And.intro) <;> rfl)))
  · intro i265 s265 g265 Rs265 hes265 h
    have hns265 : ¬ (i265 < a0.length) := by omega
    try dsimp only at h
    cases h
    try simp -implicitDefEqProofs only [go_sem, reduceEqDiff, reduceLT, reduceLeDiff, reduceMul, reduceAdd, reduceIte, reduceCtorEq, Nat.reduceBEq, reduceSub, Int.reduceToNat, encI, hns265]
    all_goals ((repeat' apply And.intro) <;> rfl)


def f_cmp_isNaN_int (a0 : Int) : Option Bool :=
  some (!(decide (a0 = a0)))
set_option maxHeartbeats 4000000 in
theorem w_cmp_isNaN_int (a0 : Int) (r : Bool) (h : f_cmp_isNaN_int a0 = some r) : CallV Go.Proofs.Tryz.prog 151 [.val (.int .i64 a0)] (fun v => v = .val (.bool r)) := by
  refine CallV.ple ?_
  refine callV_of_cw [] Ty.mixed Go.Proofs.Tryz.func151 rfl (by kernel_rfl) (by simp [Go.Proofs.Tryz.ntmps151]) ?_; rw [Go.Proofs.Tryz.ntmps151, Go.Proofs.Tryz.results151]
  unfold f_cmp_isNaN_int at h
  cases h
  try simp -implicitDefEqProofs only [go_sem, reduceEqDiff, reduceLT, reduceLeDiff, reduceMul, reduceAdd, reduceIte, reduceCtorEq, Nat.reduceBEq, reduceSub, Int.reduceToNat]
  all_goals ((repeat' apply And.intro) <;> rfl)


def f_cmp_Less_int (a0 : Int) (a1 : Int) : Option Bool :=
  thn (f_cmp_isNaN_int a0) fun r291 =>
  cond r291 (
    thn (f_cmp_isNaN_int a1) fun r293 =>
    cond r293 (
      some (decide (a0 < a1))) <|
    some true) <|
  some (decide (a0 < a1))
set_option maxHeartbeats 4000000 in
theorem w_cmp_Less_int (a0 : Int) (a1 : Int) (r : Bool) (h : f_cmp_Less_int a0 a1 = some r) : CallV Go.Proofs.Tryz.prog 131 [.val (.int .i64 a0), .val (.int .i64 a1)] (fun v => v = .val (.bool r)) := by
  refine CallV.ple ?_
  refine callV_of_cw [] Ty.mixed Go.Proofs.Tryz.func131 rfl (by kernel_rfl) (by simp [Go.Proofs.Tryz.ntmps131]) ?_; rw [Go.Proofs.Tryz.ntmps131, Go.Proofs.Tryz.results131]
  unfold f_cmp_Less_int at h
  obtain ⟨r291, hr291, h⟩ := thn_s h
  try simp -implicitDefEqProofs only [go_sem, reduceEqDiff, reduceLT, reduceLeDiff, reduceMul, reduceAdd, reduceIte, reduceCtorEq, Nat.reduceBEq, reduceSub, Int.reduceToNat]
  refine callG (w_cmp_isNaN_int a0 r291 hr291) (by simp -implicitDefEqProofs only [go_sem, reduceEqDiff, reduceLT, reduceLeDiff, reduceMul, reduceAdd, reduceIte, reduceCtorEq, Nat.reduceBEq, reduceSub, Int.reduceToNat] <;> rfl) (pleL_refl _) (by first | exact pers | exact scal rfl) ?_
  try simp -implicitDefEqProofs only [go_sem, reduceEqDiff, reduceLT, reduceLeDiff, reduceMul, reduceAdd, reduceIte, reduceCtorEq, Nat.reduceBEq, reduceSub, Int.reduceToNat]
  refine walkG_split (fun b292 => ?_) (fun b292 => ?_)
  · replace h := cond_t h b292
    obtain ⟨r293, hr293, h⟩ := thn_s h
    try simp -implicitDefEqProofs only [go_sem, reduceEqDiff, reduceLT, reduceLeDiff, reduceMul, reduceAdd, reduceIte, reduceCtorEq, Nat.reduceBEq, reduceSub, Int.reduceToNat, b292]
    refine callG (w_cmp_isNaN_int a1 r293 hr293) (by simp -implicitDefEqProofs only [go_sem, reduceEqDiff, reduceLT, reduceLeDiff, reduceMul, reduceAdd, reduceIte, reduceCtorEq, Nat.reduceBEq, reduceSub, Int.reduceToNat, b292] <;> rfl) (pleL_refl _) (by first | exact pers | exact scal rfl) ?_
    try simp -implicitDefEqProofs only [go_sem, reduceEqDiff, reduceLT, reduceLeDiff, reduceMul, reduceAdd, reduceIte, reduceCtorEq, Nat.reduceBEq, reduceSub, Int.reduceToNat, b292]
    refine walkG_split (fun b294 => ?_) (fun b294 => ?_)
    · replace h := cond_t h b294
      cases h
      try simp -implicitDefEqProofs only [go_sem, reduceEqDiff, reduceLT, reduceLeDiff, reduceMul, reduceAdd, reduceIte, reduceCtorEq, Nat.reduceBEq, reduceSub, Int.reduceToNat, b292, b294]
      all_goals ((repeat' apply And.intro) <;> rfl)
    · replace h := cond_f h b294
      cases h
      try simp -implicitDefEqProofs only [go_sem, reduceEqDiff, reduceLT, reduceLeDiff, reduceMul, reduceAdd, reduceIte, reduceCtorEq, Nat.reduceBEq, reduceSub, Int.reduceToNat, b292, b294]
      all_goals ((repeat' apply And.intro) <;> rfl)
  · replace h := cond_f h b292
    cases h
    try simp -implicitDefEqProofs only [go_sem, reduceEqDiff, reduceLT, reduceLeDiff, reduceMul, reduceAdd, reduceIte, reduceCtorEq, Nat.reduceBEq, reduceSub, Int.reduceToNat, b292]
    all_goals ((repeat' apply And.intro) <;> rfl)


def f_slices_isNaN_int (a0 : Int) : Option Bool :=
  some (!(decide (a0 = a0)))
set_option maxHeartbeats 4000000 in
theorem w_slices_isNaN_int (a0 : Int) (r : Bool) (h : f_slices_isNaN_int a0 = some r) : CallV Go.Proofs.Tryz.prog 132 [.val (.int .i64 a0)] (fun v => v = .val (.bool r)) := by
  refine CallV.ple ?_
  refine callV_of_cw [] Ty.mixed Go.Proofs.Tryz.func132 rfl (by kernel_rfl) (by simp [Go.Proofs.Tryz.ntmps132]) ?_; rw [Go.Proofs.Tryz.ntmps132, Go.Proofs.Tryz.results132]
  unfold f_slices_isNaN_int at h
  cases h
  try simp -implicitDefEqProofs only [go_sem, reduceEqDiff, reduceLT, reduceLeDiff, reduceMul, reduceAdd, reduceIte, reduceCtorEq, Nat.reduceBEq, reduceSub, Int.reduceToNat]
  all_goals ((repeat' apply And.intro) <;> rfl)


def f_slices_BinarySearch_int (a0 : List Int) (a1 : Int) : Option (Int × Bool) :=
  iter (fun (s297 : Int × Int) nxts297 brks297 =>
    cond (decide (s297.1 < s297.2)) (
      thn (atZ a0 (IntKind.i64.wrap ((IntKind.u64.wrap (IntKind.i64.wrap (s297.1 + s297.2))).fdiv (2 ^ 1)))) fun e307 =>
      thn (f_cmp_Less_int e307 a1) fun r308 =>
      cond r308 (
        nxts297 ((IntKind.i64.wrap ((IntKind.i64.wrap ((IntKind.u64.wrap (IntKind.i64.wrap (s297.1 + s297.2))).fdiv (2 ^ 1))) + 1)), s297.2)) <|
      nxts297 (s297.1, (IntKind.i64.wrap ((IntKind.u64.wrap (IntKind.i64.wrap (s297.1 + s297.2))).fdiv (2 ^ 1))))) <|
    brks297 (s297.1, s297.2))
  fuel (0, ((a0.length : Nat) : Int)) fun s297 =>
  cond (decide (s297.1 < ((a0.length : Nat) : Int))) (
    thn (atZ a0 s297.1) fun e317 =>
    cond (decide (e317 = a1)) (
      some (s297.1, true)) <|
    thn (f_slices_isNaN_int e317) fun r319 =>
    cond r319 (
      thn (f_slices_isNaN_int a1) fun r321 =>
      some (s297.1, r321)) <|
    some (s297.1, false)) <|
  some (s297.1, false)
set_option maxHeartbeats 4000000 in
theorem w_slices_BinarySearch_int (a0 : List Int) (a1 : Int) (r : Int × Bool) (h : f_slices_BinarySearch_int a0 a1 = some r) : CallV Go.Proofs.Tryz.prog 99 [.lst (a0.map encI), .val (.int .i64 a1)] (fun v => v = .tup [.val (.int .i64 r.1), .val (.bool r.2)]) := by
  refine CallV.ple ?_
  refine callV_of_cw [] Ty.mixed Go.Proofs.Tryz.func99 rfl (by kernel_rfl) (by simp [Go.Proofs.Tryz.ntmps99]) ?_; rw [Go.Proofs.Tryz.ntmps99, Go.Proofs.Tryz.results99]
  unfold f_slices_BinarySearch_int at h
  try simp -implicitDefEqProofs only [go_sem, reduceEqDiff, reduceLT, reduceLeDiff, reduceMul, reduceAdd, reduceIte, reduceCtorEq, Nat.reduceBEq, reduceSub, Int.reduceToNat, encI]
  refine iter_go (fun x : (Int × Int) × (Unit) => envL [(0, .p (.lst (a0.map encI))), (1, .p (.val (.int .i64 a1))), (6, .p (.val (.int .i64 ((a0.length : Nat) : Int)))), (7, .p (.val (.int .i64 x.1.1))), (8, .p (.val (.int .i64 x.1.2)))]) (fun x => heapL []) () h (weakL (by simp -implicitDefEqProofs only [go_sem, reduceEqDiff, reduceLT, reduceLeDiff, reduceMul, reduceAdd, reduceIte, reduceCtorEq, Nat.reduceBEq, reduceSub, Int.reduceToNat, encI] <;> ((repeat' apply And.intro) <;> rfl))) ?_
  intro s297 g297 nxts297 Rs297 hNs297 h
  try dsimp only at h
  try simp -implicitDefEqProofs only [go_sem, reduceEqDiff, reduceLT, reduceLeDiff, reduceMul, reduceAdd, reduceIte, reduceCtorEq, Nat.reduceBEq, reduceSub, Int.reduceToNat, encI]
  refine condC_split (fun b304 => ?_) (fun b304 => ?_)
  · replace h := cond_t h b304
    have z305 := show (0 : Int) ≤ 1 by decide
    have z306 := show min 1 64 = 1 from rfl
    obtain ⟨e307, c307a, c307b, g307, q307, h⟩ := atZ_s encI h
    obtain ⟨r308, hr308, h⟩ := thn_s h
    try simp -implicitDefEqProofs only [go_sem, reduceEqDiff, reduceLT, reduceLeDiff, reduceMul, reduceAdd, reduceIte, reduceCtorEq, Nat.reduceBEq, reduceSub, Int.reduceToNat, encI, b304, z305, z306, c307a, c307b, g307]
    refine callG (w_cmp_Less_int e307 a1 r308 hr308) (by simp -implicitDefEqProofs only [go_sem, reduceEqDiff, reduceLT, reduceLeDiff, reduceMul, reduceAdd, reduceIte, reduceCtorEq, Nat.reduceBEq, reduceSub, Int.reduceToNat, encI, b304, z305, z306, c307a, c307b, g307] <;> rfl) (pleL_refl _) (by first | exact pers | exact scal rfl) ?_
    try simp -implicitDefEqProofs only [go_sem, reduceEqDiff, reduceLT, reduceLeDiff, reduceMul, reduceAdd, reduceIte, reduceCtorEq, Nat.reduceBEq, reduceSub, Int.reduceToNat, encI, b304, z305, z306, c307a, c307b, g307]
    refine condC_split (fun b309 => ?_) (fun b309 => ?_)
    · replace h := cond_t h b309
      try simp -implicitDefEqProofs only [go_sem, reduceEqDiff, reduceLT, reduceLeDiff, reduceMul, reduceAdd, reduceIte, reduceCtorEq, Nat.reduceBEq, reduceSub, Int.reduceToNat, encI, b304, z305, z306, c307a, c307b, g307, b309]
      exact hNs297 ((IntKind.i64.wrap ((IntKind.i64.wrap ((IntKind.u64.wrap (IntKind.i64.wrap (s297.1 + s297.2))).fdiv (2 ^ 1))) + 1)), s297.2) () h (weakL (by simp -implicitDefEqProofs only [go_sem, reduceEqDiff, reduceLT, reduceLeDiff, reduceMul, reduceAdd, reduceIte, reduceCtorEq, Nat.reduceBEq, reduceSub, Int.reduceToNat, encI, b304, z305, z306, c307a, c307b, g307, b309] <;> ((repeat' apply And.intro) <;> rfl)))
    · replace h := cond_f h b309
      try simp -implicitDefEqProofs only [go_sem, reduceEqDiff, reduceLT, reduceLeDiff, reduceMul, reduceAdd, reduceIte, reduceCtorEq, Nat.reduceBEq, reduceSub, Int.reduceToNat, encI, b304, z305, z306, c307a, c307b, g307, b309]
      exact hNs297 (s297.1, (IntKind.i64.wrap ((IntKind.u64.wrap (IntKind.i64.wrap (s297.1 + s297.2))).fdiv (2 ^ 1)))) () h (weakL (by simp -implicitDefEqProofs only [go_sem, reduceEqDiff, reduceLT, reduceLeDiff, reduceMul, reduceAdd, reduceIte, reduceCtorEq, Nat.reduceBEq, reduceSub, Int.reduceToNat, encI, b304, z305, z306, c307a, c307b, g307, b309] <;> ((repeat' apply And.intro) <;> rfl)))
  · replace h := cond_f h b304
    try dsimp only at h
    try simp -implicitDefEqProofs only [go_sem, reduceEqDiff, reduceLT, reduceLeDiff, reduceMul, reduceAdd, reduceIte, reduceCtorEq, Nat.reduceBEq, reduceSub, Int.reduceToNat, encI, b304]
    refine walkG_split (fun b310 => ?_) (fun b310 => ?_)
    · replace h := cond_t h b310
      obtain ⟨e311, c311a, c311b, g311, q311, h⟩ := atZ_s encI h
      try simp -implicitDefEqProofs only [go_sem, reduceEqDiff, reduceLT, reduceLeDiff, reduceMul, reduceAdd, reduceIte, reduceCtorEq, Nat.reduceBEq, reduceSub, Int.reduceToNat, encI, b304, b310, c311a, c311b, g311]
      refine walkG_splitN (fun b312 => ?_) (fun b312 => ?_)
      · replace h := cond_t h b312
        cases h
        try simp -implicitDefEqProofs only [go_sem, reduceEqDiff, reduceLT, reduceLeDiff, reduceMul, reduceAdd, reduceIte, reduceCtorEq, Nat.reduceBEq, reduceSub, Int.reduceToNat, encI, b304, b310, c311a, c311b, g311, b312]
        all_goals ((repeat' apply And.intro) <;> rfl)
      · replace h := cond_f h b312
        obtain ⟨r313, hr313, h⟩ := thn_s h
        try simp -implicitDefEqProofs only [go_sem, reduceEqDiff, reduceLT, reduceLeDiff, reduceMul, reduceAdd, reduceIte, reduceCtorEq, Nat.reduceBEq, reduceSub, Int.reduceToNat, encI, b304, b310, c311a, c311b, g311, b312]
        refine callG (w_slices_isNaN_int e311 r313 hr313) (by simp -implicitDefEqProofs only [go_sem, reduceEqDiff, reduceLT, reduceLeDiff, reduceMul, reduceAdd, reduceIte, reduceCtorEq, Nat.reduceBEq, reduceSub, Int.reduceToNat, encI, b304, b310, c311a, c311b, g311, b312] <;> rfl) (pleL_refl _) (by first | exact pers | exact scal rfl) ?_
        try simp -implicitDefEqProofs only [go_sem, reduceEqDiff, reduceLT, reduceLeDiff, reduceMul, reduceAdd, reduceIte, reduceCtorEq, Nat.reduceBEq, reduceSub, Int.reduceToNat, encI, b304, b310, c311a, c311b, g311, b312]
        refine walkG_split (fun b314 => ?_) (fun b314 => ?_)
        · replace h := cond_t h b314
          obtain ⟨r315, hr315, h⟩ := thn_s h
          try simp -implicitDefEqProofs only [go_sem, reduceEqDiff, reduceLT, reduceLeDiff, reduceMul, reduceAdd, reduceIte, reduceCtorEq, Nat.reduceBEq, reduceSub, Int.reduceToNat, encI, b304, b310, c311a, c311b, g311, b312, b314]
          refine callG (w_slices_isNaN_int a1 r315 hr315) (by simp -implicitDefEqProofs only [go_sem, reduceEqDiff, reduceLT, reduceLeDiff, reduceMul, reduceAdd, reduceIte, reduceCtorEq, Nat.reduceBEq, reduceSub, Int.reduceToNat, encI, b304, b310, c311a, c311b, g311, b312, b314] <;> rfl) (pleL_refl _) (by first | exact pers | exact scal rfl) ?_
          cases h
          try simp -implicitDefEqProofs only [go_sem, reduceEqDiff, reduceLT, reduceLeDiff, reduceMul, reduceAdd, reduceIte, reduceCtorEq, Nat.reduceBEq, reduceSub, Int.reduceToNat, encI, b304, b310, c311a, c311b, g311, b312, b314]
          all_goals ((repeat' apply And.intro) <;> rfl)
        · replace h := cond_f h b314
          cases h
          try simp -implicitDefEqProofs only [go_sem, reduceEqDiff, reduceLT, reduceLeDiff, reduceMul, reduceAdd, reduceIte, reduceCtorEq, Nat.reduceBEq, reduceSub, Int.reduceToNat, encI, b304, b310, c311a, c311b, g311, b312, b314]
          all_goals ((repeat' apply And.intro) <;> rfl)
    · replace h := cond_f h b310
      cases h
      try simp -implicitDefEqProofs only [go_sem, reduceEqDiff, reduceLT, reduceLeDiff, reduceMul, reduceAdd, reduceIte, reduceCtorEq, Nat.reduceBEq, reduceSub, Int.reduceToNat, encI, b304, b310]
      all_goals ((repeat' apply And.intro) <;> rfl)


def f_subgraph_has (a0 : List Int) (a1 : Int) : Option Bool :=
  thn (f_slices_BinarySearch_int a0 a1) fun r322 =>
  some r322.2
set_option maxHeartbeats 4000000 in
theorem w_subgraph_has (a0 : List Int) (a1 : Int) (r : Bool) (h : f_subgraph_has a0 a1 = some r) : CallV Go.Proofs.Tryz.prog 150 [.lst (a0.map encI), .val (.int .i64 a1)] (fun v => v = .val (.bool r)) := by
  refine CallV.ple ?_
  refine callV_of_cw [] Ty.mixed Go.Proofs.Tryz.func150 rfl (by kernel_rfl) (by simp [Go.Proofs.Tryz.ntmps150]) ?_; rw [Go.Proofs.Tryz.ntmps150, Go.Proofs.Tryz.results150]
  unfold f_subgraph_has at h
  obtain ⟨r322, hr322, h⟩ := thn_s h
  try simp -implicitDefEqProofs only [go_sem, reduceEqDiff, reduceLT, reduceLeDiff, reduceMul, reduceAdd, reduceIte, reduceCtorEq, Nat.reduceBEq, reduceSub, Int.reduceToNat, encI]
  refine callG (w_slices_BinarySearch_int a0 a1 r322 hr322) (by simp -implicitDefEqProofs only [go_sem, reduceEqDiff, reduceLT, reduceLeDiff, reduceMul, reduceAdd, reduceIte, reduceCtorEq, Nat.reduceBEq, reduceSub, Int.reduceToNat, encI] <;> rfl) (pleL_refl _) (by first | exact pers | exact scal rfl) ?_
  cases h
  try simp -implicitDefEqProofs only [go_sem, reduceEqDiff, reduceLT, reduceLeDiff, reduceMul, reduceAdd, reduceIte, reduceCtorEq, Nat.reduceBEq, reduceSub, Int.reduceToNat, encI]
  all_goals ((repeat' apply And.intro) <;> rfl)


def f_subgraph_part (a0 : Graph) (a1 : Part) : Option Int :=
  thn (f_subgraph_list a1.nodes ((a0.nodes.length : Nat) : Int)) fun r278 =>
  cond (decide (r278 = 0)) (
    thn (f_subgraph_list a1.edges ((a0.edges.length : Nat) : Int)) fun r280 =>
    cond (decide (r280 = 0)) (
      chk (a1.edges.length ≤ fuel) <|
      forN (fun i327 (s327 : Unit) nxts327 brks327 =>
        thn (a1.edges[i327]?) fun e334 =>
        thn (atZ a0.edges e334) fun e335 =>
        thn (f_subgraph_has a1.nodes e335.src) fun r336 =>
        cond r336 (
          thn (f_subgraph_has a1.nodes e335.dst) fun r338 =>
          cond r338 (
            nxts327 ()) <|
          some 14) <|
        some 14)
      (a1.edges.length - 0) 0 () fun s327 =>
      some 0) <|
    some r280) <|
  some r278
set_option maxHeartbeats 4000000 in
theorem w_subgraph_part (a0 : Graph) (a1 : Part) (r : Int) (h : f_subgraph_part a0 a1 = some r) : CallV Go.Proofs.Tryz.prog 130 [.agg [.lst (a0.nodes.map encI), .lst (a0.edges.map encEdge)], .agg [.lst (a1.nodes.map encI), .lst (a1.edges.map encI)]] (fun v => v = .val (.int .i64 r)) := by
  refine CallV.ple ?_
  refine callV_of_cw [] Ty.mixed Go.Proofs.Tryz.func130 rfl (by kernel_rfl) (by simp [Go.Proofs.Tryz.ntmps130]) ?_; rw [Go.Proofs.Tryz.ntmps130, Go.Proofs.Tryz.results130]
  unfold f_subgraph_part at h
  obtain ⟨r278, hr278, h⟩ := thn_s h
  try simp -implicitDefEqProofs only [go_sem, reduceEqDiff, reduceLT, reduceLeDiff, reduceMul, reduceAdd, reduceIte, reduceCtorEq, Nat.reduceBEq, reduceSub, Int.reduceToNat, encEdge, encI]
  refine callG (w_subgraph_list a1.nodes ((a0.nodes.length : Nat) : Int) r278 hr278) (by simp -implicitDefEqProofs only [go_sem, reduceEqDiff, reduceLT, reduceLeDiff, reduceMul, reduceAdd, reduceIte, reduceCtorEq, Nat.reduceBEq, reduceSub, Int.reduceToNat, encEdge, encI] <;> rfl) (pleL_refl _) (by first | exact pers | exact scal rfl) ?_
  try simp -implicitDefEqProofs only [go_sem, reduceEqDiff, reduceLT, reduceLeDiff, reduceMul, reduceAdd, reduceIte, reduceCtorEq, Nat.reduceBEq, reduceSub, Int.reduceToNat, encEdge, encI]
  refine condC_splitN (fun b279 => ?_) (fun b279 => ?_)
  · replace h := cond_t h b279
    obtain ⟨r280, hr280, h⟩ := thn_s h
    try simp -implicitDefEqProofs only [go_sem, reduceEqDiff, reduceLT, reduceLeDiff, reduceMul, reduceAdd, reduceIte, reduceCtorEq, Nat.reduceBEq, reduceSub, Int.reduceToNat, encEdge, encI, b279]
    refine callG (w_subgraph_list a1.edges ((a0.edges.length : Nat) : Int) r280 hr280) (by simp -implicitDefEqProofs only [go_sem, reduceEqDiff, reduceLT, reduceLeDiff, reduceMul, reduceAdd, reduceIte, reduceCtorEq, Nat.reduceBEq, reduceSub, Int.reduceToNat, encEdge, encI, b279] <;> rfl) (pleL_refl _) (by first | exact pers | exact scal rfl) ?_
    try simp -implicitDefEqProofs only [go_sem, reduceEqDiff, reduceLT, reduceLeDiff, reduceMul, reduceAdd, reduceIte, reduceCtorEq, Nat.reduceBEq, reduceSub, Int.reduceToNat, encEdge, encI, b279]
    refine condC_splitN (fun b281 => ?_) (fun b281 => ?_)
    · replace h := cond_t h b281
      obtain ⟨fus327, h⟩ := chk_s h
      unfold fuel at fus327
      try simp -implicitDefEqProofs only [go_sem, reduceEqDiff, reduceLT, reduceLeDiff, reduceMul, reduceAdd, reduceIte, reduceCtorEq, Nat.reduceBEq, reduceSub, Int.reduceToNat, encEdge, encI, b279, b281]
      refine forN_go (fun x : (Nat × (Unit)) × (Unit) => envL [(2, .ptr 2 0), (3, .ptr 3 0), (28, .p (.lst (a1.edges.map encI))), (29, .p (.val (.int .i64 ((a1.edges.length : Nat) : Int)))), (30, .p (.val (.int .i64 ((x.1.1 : Nat) : Int))))]) (fun x => heapL [(2, .box [.p (.lst (a0.nodes.map encI)), .p (.lst (a0.edges.map encEdge))]), (3, .box [.p (.lst (a1.nodes.map encI)), .p (.lst (a1.edges.map encI))])]) () h (weakL (by simp -implicitDefEqProofs only [go_sem, reduceEqDiff, reduceLT, reduceLeDiff, reduceMul, reduceAdd, reduceIte, reduceCtorEq, Nat.reduceBEq, reduceSub, Int.reduceToNat, encEdge, encI, b279, b281] <;> ((repeat' apply And.intro) <;> rfl))) ?_ ?_
      · intro i327 s327 g327 nxts327 Rs327 his327 hNs327 h
        have hws327 := wrap_succ (k := i327) his327 (by omega)
        try dsimp only at h
        obtain ⟨e334, c334, g334, q334, h⟩ := idx_s encI h
        try simp -implicitDefEqProofs only [go_sem, reduceEqDiff, reduceLT, reduceLeDiff, reduceMul, reduceAdd, reduceIte, reduceCtorEq, Nat.reduceBEq, reduceSub, Int.reduceToNat, encEdge, encI, b279, b281, his327, hws327, c334, g334]
        refine draw_txt [.q, .q, .q, .q, .q, .q, .q, .q, .q, .q, .q, .q, .q, .q, .q, .q, .q, .q, .q, .q, .q, .q] (by kernel_rfl) ?_
        obtain ⟨e335, c335a, c335b, g335, q335, h⟩ := atZ_s encEdge h
        obtain ⟨r336, hr336, h⟩ := thn_s h
        try simp -implicitDefEqProofs only [go_sem, reduceEqDiff, reduceLT, reduceLeDiff, reduceMul, reduceAdd, reduceIte, reduceCtorEq, Nat.reduceBEq, reduceSub, Int.reduceToNat, encEdge, encI, b279, b281, his327, hws327, c334, g334, c335a, c335b, g335]
        refine calldG (w_subgraph_has a1.nodes e335.src r336 hr336) (by simp -implicitDefEqProofs only [go_sem, reduceEqDiff, reduceLT, reduceLeDiff, reduceMul, reduceAdd, reduceIte, reduceCtorEq, Nat.reduceBEq, reduceSub, Int.reduceToNat, encEdge, encI, b279, b281, his327, hws327, c334, g334, c335a, c335b, g335] <;> rfl) (pleL_refl _) (by first | exact pers | exact scal rfl) ?_
        try simp -implicitDefEqProofs only [go_sem, reduceEqDiff, reduceLT, reduceLeDiff, reduceMul, reduceAdd, reduceIte, reduceCtorEq, Nat.reduceBEq, reduceSub, Int.reduceToNat, encEdge, encI, b279, b281, his327, hws327, c334, g334, c335a, c335b, g335]
        refine walkDG_split (fun b337 => ?_) (fun b337 => ?_)
        · replace h := cond_t h b337
          obtain ⟨r338, hr338, h⟩ := thn_s h
          try simp -implicitDefEqProofs only [go_sem, reduceEqDiff, reduceLT, reduceLeDiff, reduceMul, reduceAdd, reduceIte, reduceCtorEq, Nat.reduceBEq, reduceSub, Int.reduceToNat, encEdge, encI, b279, b281, his327, hws327, c334, g334, c335a, c335b, g335, b337]
          refine calldG (w_subgraph_has a1.nodes e335.dst r338 hr338) (by simp -implicitDefEqProofs only [go_sem, reduceEqDiff, reduceLT, reduceLeDiff, reduceMul, reduceAdd, reduceIte, reduceCtorEq, Nat.reduceBEq, reduceSub, Int.reduceToNat, encEdge, encI, b279, b281, his327, hws327, c334, g334, c335a, c335b, g335, b337] <;> rfl) (pleL_refl _) (by first | exact pers | exact scal rfl) ?_
          try simp -implicitDefEqProofs only [go_sem, reduceEqDiff, reduceLT, reduceLeDiff, reduceMul, reduceAdd, reduceIte, reduceCtorEq, Nat.reduceBEq, reduceSub, Int.reduceToNat, encEdge, encI, b279, b281, his327, hws327, c334, g334, c335a, c335b, g335, b337]
          refine condC_splitN (fun b339 => ?_) (fun b339 => ?_)
          · replace h := cond_t h b339
            try simp -implicitDefEqProofs only [go_sem, reduceEqDiff, reduceLT, reduceLeDiff, reduceMul, reduceAdd, reduceIte, reduceCtorEq, Nat.reduceBEq, reduceSub, Int.reduceToNat, encEdge, encI, b279, b281, his327, hws327, c334, g334, c335a, c335b, g335, b337, b339]
            exact hNs327 () () h (weakL (by simp -implicitDefEqProofs only [go_sem, reduceEqDiff, reduceLT, reduceLeDiff, reduceMul, reduceAdd, reduceIte, reduceCtorEq, Nat.reduceBEq, reduceSub, Int.reduceToNat, encEdge, encI, b279, b281, his327, hws327, c334, g334, c335a, c335b, g335, b337, b339] <;> ((repeat' apply And.intro) <;> rfl)))
          · replace h := cond_f h b339
            cases h
            try simp -implicitDefEqProofs only [go_sem, reduceEqDiff, reduceLT, reduceLeDiff, reduceMul, reduceAdd, reduceIte, reduceCtorEq, Nat.reduceBEq, reduceSub, Int.reduceToNat, encEdge, encI, b279, b281, his327, hws327, c334, g334, c335a, c335b, g335, b337, b339]
            all_goals ((repeat' apply And.intro) <;> rfl)
        · replace h := cond_f h b337
          cases h
          try simp -implicitDefEqProofs only [go_sem, reduceEqDiff, reduceLT, reduceLeDiff, reduceMul, reduceAdd, reduceIte, reduceCtorEq, Nat.reduceBEq, reduceSub, Int.reduceToNat, encEdge, encI, b279, b281, his327, hws327, c334, g334, c335a, c335b, g335, b337]
          all_goals ((repeat' apply And.intro) <;> rfl)
      · intro i327 s327 g327 Rs327 hes327 h
        have hns327 : ¬ (i327 < a1.edges.length) := by omega
        try dsimp only at h
        cases h
        try simp -implicitDefEqProofs only [go_sem, reduceEqDiff, reduceLT, reduceLeDiff, reduceMul, reduceAdd, reduceIte, reduceCtorEq, Nat.reduceBEq, reduceSub, Int.reduceToNat, encEdge, encI, b279, b281, hns327]
        all_goals ((repeat' apply And.intro) <;> rfl)
    · replace h := cond_f h b281
      cases h
      try simp -implicitDefEqProofs only [go_sem, reduceEqDiff, reduceLT, reduceLeDiff, reduceMul, reduceAdd, reduceIte, reduceCtorEq, Nat.reduceBEq, reduceSub, Int.reduceToNat, encEdge, encI, b279, b281]
      all_goals ((repeat' apply And.intro) <;> rfl)
  · replace h := cond_f h b279
    cases h
    try simp -implicitDefEqProofs only [go_sem, reduceEqDiff, reduceLT, reduceLeDiff, reduceMul, reduceAdd, reduceIte, reduceCtorEq, Nat.reduceBEq, reduceSub, Int.reduceToNat, encEdge, encI, b279]
    all_goals ((repeat' apply And.intro) <;> rfl)


def f_subgraph_Valid (a0 : Graph) (a1 : Part) : Option Int :=
  thn (f_graph_Valid a0) fun r255 =>
  cond (decide (r255 = 0)) (
    thn (f_subgraph_part (⟨a0.nodes, a0.edges⟩ : Graph) (⟨a1.nodes, a1.edges⟩ : Part)) fun r340 =>
    some r340) <|
  some r255
set_option maxHeartbeats 4000000 in
theorem w_subgraph_Valid (a0 : Graph) (a1 : Part) (r : Int) (h : f_subgraph_Valid a0 a1 = some r) : CallV Go.Proofs.Tryz.prog 98 [.agg [.lst (a0.nodes.map encI), .lst (a0.edges.map encEdge)], .agg [.lst (a1.nodes.map encI), .lst (a1.edges.map encI)]] (fun v => v = .val (.int .i64 r)) := by
  refine CallV.ple ?_
  refine callV_of_cw [] Ty.mixed Go.Proofs.Tryz.func98 rfl (by kernel_rfl) (by simp [Go.Proofs.Tryz.ntmps98]) ?_; rw [Go.Proofs.Tryz.ntmps98, Go.Proofs.Tryz.results98]
  unfold f_subgraph_Valid at h
  obtain ⟨r255, hr255, h⟩ := thn_s h
  try simp -implicitDefEqProofs only [go_sem, reduceEqDiff, reduceLT, reduceLeDiff, reduceMul, reduceAdd, reduceIte, reduceCtorEq, Nat.reduceBEq, reduceSub, Int.reduceToNat, encEdge, encI]
  refine callG (w_graph_Valid a0 r255 hr255) (by simp -implicitDefEqProofs only [go_sem, reduceEqDiff, reduceLT, reduceLeDiff, reduceMul, reduceAdd, reduceIte, reduceCtorEq, Nat.reduceBEq, reduceSub, Int.reduceToNat, encEdge, encI] <;> rfl) (pleL_refl _) (by first | exact pers | exact scal rfl) ?_
  try simp -implicitDefEqProofs only [go_sem, reduceEqDiff, reduceLT, reduceLeDiff, reduceMul, reduceAdd, reduceIte, reduceCtorEq, Nat.reduceBEq, reduceSub, Int.reduceToNat, encEdge, encI]
  refine condC_splitN (fun b256 => ?_) (fun b256 => ?_)
  · replace h := cond_t h b256
    obtain ⟨r340, hr340, h⟩ := thn_s h
    try simp -implicitDefEqProofs only [go_sem, reduceEqDiff, reduceLT, reduceLeDiff, reduceMul, reduceAdd, reduceIte, reduceCtorEq, Nat.reduceBEq, reduceSub, Int.reduceToNat, encEdge, encI, b256]
    refine callG (w_subgraph_part (⟨a0.nodes, a0.edges⟩ : Graph) (⟨a1.nodes, a1.edges⟩ : Part) r340 hr340) (by simp -implicitDefEqProofs only [go_sem, reduceEqDiff, reduceLT, reduceLeDiff, reduceMul, reduceAdd, reduceIte, reduceCtorEq, Nat.reduceBEq, reduceSub, Int.reduceToNat, encEdge, encI, b256] <;> rfl) (pleL_refl _) (by first | exact pers | exact scal rfl) ?_
    cases h
    try simp -implicitDefEqProofs only [go_sem, reduceEqDiff, reduceLT, reduceLeDiff, reduceMul, reduceAdd, reduceIte, reduceCtorEq, Nat.reduceBEq, reduceSub, Int.reduceToNat, encEdge, encI, b256]
    all_goals ((repeat' apply And.intro) <;> rfl)
  · replace h := cond_f h b256
    cases h
    try simp -implicitDefEqProofs only [go_sem, reduceEqDiff, reduceLT, reduceLeDiff, reduceMul, reduceAdd, reduceIte, reduceCtorEq, Nat.reduceBEq, reduceSub, Int.reduceToNat, encEdge, encI, b256]
    all_goals ((repeat' apply And.intro) <;> rfl)


def f_subgraph_Extract (a0 : Graph) (a1 : Part) : Option (Graph × T_Morphism × Int) :=
  thn (f_subgraph_Valid a0 a1) fun r390 =>
  cond (decide (r390 = 0)) (
    chk (a1.nodes.length ≤ fuel) <|
    forN (fun i399 (s399 : (List Int)) nxts399 brks399 =>
      thn (a1.nodes[i399]?) fun e405 =>
      thn (atZ a0.nodes e405) fun e406 =>
      chk (s399.length + 1 ≤ 68719476736) <|
      nxts399 (s399 ++ [e406]))
    (a1.nodes.length - 0) 0 ([] : List Int) fun s399 =>
    chk (a1.edges.length ≤ fuel) <|
    forN (fun i419 (s419 : (List Edge)) nxts419 brks419 =>
      thn (a1.edges[i419]?) fun e427 =>
      thn (atZ a0.edges e427) fun e428 =>
      thn (f_slices_BinarySearch_int a1.nodes e428.src) fun r429 =>
      thn (f_slices_BinarySearch_int a1.nodes e428.dst) fun r430 =>
      chk (s419.length + 1 ≤ 68719476736) <|
      nxts419 (s419 ++ [(⟨e428.type, r429.1, r430.1⟩ : Edge)]))
    (a1.edges.length - 0) 0 ([] : List Edge) fun s419 =>
    thn (f_slices_Clone_int a1.nodes) fun r434 =>
    thn (f_slices_Clone_int a1.edges) fun r435 =>
    some ((⟨s399, s419⟩ : Graph), (⟨r434, r435⟩ : T_Morphism), 0)) <|
  some ((⟨([] : List Int), ([] : List Edge)⟩ : Graph), (⟨([] : List Int), ([] : List Int)⟩ : T_Morphism), r390)
set_option maxHeartbeats 4000000 in
theorem w_subgraph_Extract (a0 : Graph) (a1 : Part) (r : Graph × T_Morphism × Int) (h : f_subgraph_Extract a0 a1 = some r) : CallF Go.Proofs.Tryz.prog 73 [.agg [.lst (a0.nodes.map encI), .lst (a0.edges.map encEdge)], .agg [.lst (a1.nodes.map encI), .lst (a1.edges.map encI)]] (fun v => v = .tup [.agg [.row 3 1 (r.1.nodes.map encI), .row 73 3 (r.1.edges.map encEdge)], .agg [.p (.lst (r.2.1.nodes.map encI)), .p (.lst (r.2.1.edges.map encI))], .p (.val (.int .i64 r.2.2))]) := by
  refine CallF.rle ?_
  refine callF_of_cw [36, 37, 74] Ty.mixed Go.Proofs.Tryz.func73 rfl (by kernel_rfl) (by simp [Go.Proofs.Tryz.ntmps73]) ?_; rw [Go.Proofs.Tryz.ntmps73, Go.Proofs.Tryz.results73]
  unfold f_subgraph_Extract at h
  obtain ⟨r390, hr390, h⟩ := thn_s h
  try simp -implicitDefEqProofs only [go_sem, reduceEqDiff, reduceLT, reduceLeDiff, reduceMul, reduceAdd, reduceIte, reduceCtorEq, Nat.reduceBEq, reduceSub, Int.reduceToNat, encEdge, encI]
  refine callG (w_subgraph_Valid a0 a1 r390 hr390) (by simp -implicitDefEqProofs only [go_sem, reduceEqDiff, reduceLT, reduceLeDiff, reduceMul, reduceAdd, reduceIte, reduceCtorEq, Nat.reduceBEq, reduceSub, Int.reduceToNat, encEdge, encI] <;> rfl) (pleL_refl _) (by first | exact pers | exact scal rfl) ?_
  try simp -implicitDefEqProofs only [go_sem, reduceEqDiff, reduceLT, reduceLeDiff, reduceMul, reduceAdd, reduceIte, reduceCtorEq, Nat.reduceBEq, reduceSub, Int.reduceToNat, encEdge, encI]
  refine condC_splitN (fun b391 => ?_) (fun b391 => ?_)
  · replace h := cond_t h b391
    obtain ⟨fus399, h⟩ := chk_s h
    unfold fuel at fus399
    try simp -implicitDefEqProofs only [go_sem, reduceEqDiff, reduceLT, reduceLeDiff, reduceMul, reduceAdd, reduceIte, reduceCtorEq, Nat.reduceBEq, reduceSub, Int.reduceToNat, encEdge, encI, b391]
    refine forN_go (fun x : (Nat × ((List Int))) × (Nat) => envL [(2, .ptr 2 0), (3, .ptr 3 0), (4, .ptr 4 0), (5, .ptr 5 0), (8, .ptr 8 0), (23, .p (.lst (a1.nodes.map encI))), (24, .p (.val (.int .i64 ((a1.nodes.length : Nat) : Int)))), (25, .p (.val (.int .i64 ((x.1.1 : Nat) : Int))))]) (fun x => heapL [(2, .box [.p (.lst (a0.nodes.map encI)), .p (.lst (a0.edges.map encEdge))]), (3, .box [.p (.lst (a1.nodes.map encI)), .p (.lst (a1.edges.map encI))]), (4, .box [.p (.val (.slice none 0 0)), .p (.val (.slice none 0 0))]), (5, .box [.p (.val (.slice none 0 0)), .p (.val (.slice none 0 0))]), (8, .box [.row 2397 x.2, .p (.val (.slice none 0 0))]), (2397, .row x.2 3 1 (x.1.2.map encI))]) 0 h (by refine Weak.trans (weak_nilbox 8 0 2397 3 1 _ rfl rfl rfl (by decide)) ?_; exact (weakL (by simp -implicitDefEqProofs only [go_sem, reduceEqDiff, reduceLT, reduceLeDiff, reduceMul, reduceAdd, reduceIte, reduceCtorEq, Nat.reduceBEq, reduceSub, Int.reduceToNat, encEdge, encI, b391] <;> ((repeat' apply And.intro) <;> rfl)))) ?_ ?_
    · intro i399 s399 g399 nxts399 Rs399 his399 hNs399 h
      have hws399 := wrap_succ (k := i399) his399 (by omega)
      try dsimp only at h
      obtain ⟨e405, c405, g405, q405, h⟩ := idx_s encI h
      try simp -implicitDefEqProofs only [go_sem, reduceEqDiff, reduceLT, reduceLeDiff, reduceMul, reduceAdd, reduceIte, reduceCtorEq, Nat.reduceBEq, reduceSub, Int.reduceToNat, encEdge, encI, b391, his399, hws399, c405, g405]
      refine draw_txt [.q, .q, .q, .q, .q, .q, .q, .w, .w, .q, .w] (by kernel_rfl) ?_
      obtain ⟨e406, c406a, c406b, g406, q406, h⟩ := atZ_s encI h
      obtain ⟨c407, h⟩ := chk_s h
      have k408 := eq_true (show (s399.length + 1) * 8 ≤ 140737488355328 by omega)
      have a409 := map_apps encI s399 [e406] (c := [[.val (.int .i64 e406)]]) rfl
      try simp -implicitDefEqProofs only [go_sem, reduceEqDiff, reduceLT, reduceLeDiff, reduceMul, reduceAdd, reduceIte, reduceCtorEq, Nat.reduceBEq, reduceSub, Int.reduceToNat, encEdge, encI, b391, his399, hws399, c405, g405, c406a, c406b, g406, c407, k408, a409]
      exact hNs399 (s399 ++ [e406]) (g399 + 1) h (weakL (by simp -implicitDefEqProofs only [go_sem, reduceEqDiff, reduceLT, reduceLeDiff, reduceMul, reduceAdd, reduceIte, reduceCtorEq, Nat.reduceBEq, reduceSub, Int.reduceToNat, encEdge, encI, b391, his399, hws399, c405, g405, c406a, c406b, g406, c407, k408, a409] <;> ((repeat' apply And.intro) <;> rfl)))
    · intro i399 s399 g399 Rs399 hes399 h
      have hns399 : ¬ (i399 < a1.nodes.length) := by omega
      try dsimp only at h
      obtain ⟨fus419, h⟩ := chk_s h
      unfold fuel at fus419
      try simp -implicitDefEqProofs only [go_sem, reduceEqDiff, reduceLT, reduceLeDiff, reduceMul, reduceAdd, reduceIte, reduceCtorEq, Nat.reduceBEq, reduceSub, Int.reduceToNat, encEdge, encI, b391, hns399]
      refine forN_go (fun x : (Nat × ((List Edge))) × (Nat) => envL [(2, .ptr 2 0), (3, .ptr 3 0), (4, .ptr 4 0), (5, .ptr 5 0), (8, .ptr 8 0), (41, .p (.lst (a1.edges.map encI))), (42, .p (.val (.int .i64 ((a1.edges.length : Nat) : Int)))), (43, .p (.val (.int .i64 ((x.1.1 : Nat) : Int))))]) (fun x => heapL [(2, .box [.p (.lst (a0.nodes.map encI)), .p (.lst (a0.edges.map encEdge))]), (3, .box [.p (.lst (a1.nodes.map encI)), .p (.lst (a1.edges.map encI))]), (4, .box [.p (.val (.slice none 0 0)), .p (.val (.slice none 0 0))]), (5, .box [.p (.val (.slice none 0 0)), .p (.val (.slice none 0 0))]), (8, .box [.row 2397 g399, .row 2417 x.2]), (2397, .row g399 3 1 (s399.map encI)), (2417, .row x.2 73 3 (x.1.2.map encEdge))]) 0 h (by refine Weak.trans (weak_nilbox 8 1 2417 73 3 _ rfl rfl rfl (by decide)) ?_; exact (weakL (by simp -implicitDefEqProofs only [go_sem, reduceEqDiff, reduceLT, reduceLeDiff, reduceMul, reduceAdd, reduceIte, reduceCtorEq, Nat.reduceBEq, reduceSub, Int.reduceToNat, encEdge, encI, b391, hns399] <;> ((repeat' apply And.intro) <;> rfl)))) ?_ ?_
      · intro i419 s419 g419 nxts419 Rs419 his419 hNs419 h
        have hws419 := wrap_succ (k := i419) his419 (by omega)
        try dsimp only at h
        obtain ⟨e427, c427, g427, q427, h⟩ := idx_s encI h
        obtain ⟨e428, c428a, c428b, g428, q428, h⟩ := atZ_s encEdge h
        obtain ⟨r429, hr429, h⟩ := thn_s h
        try simp -implicitDefEqProofs only [go_sem, reduceEqDiff, reduceLT, reduceLeDiff, reduceMul, reduceAdd, reduceIte, reduceCtorEq, Nat.reduceBEq, reduceSub, Int.reduceToNat, encEdge, encI, b391, hns399, his419, hws419, c427, g427, c428a, c428b, g428]
        refine callG (w_slices_BinarySearch_int a1.nodes e428.src r429 hr429) (by simp -implicitDefEqProofs only [go_sem, reduceEqDiff, reduceLT, reduceLeDiff, reduceMul, reduceAdd, reduceIte, reduceCtorEq, Nat.reduceBEq, reduceSub, Int.reduceToNat, encEdge, encI, b391, hns399, his419, hws419, c427, g427, c428a, c428b, g428] <;> rfl) (pleL_refl _) (by first | exact pers | exact scal rfl) ?_
        obtain ⟨r430, hr430, h⟩ := thn_s h
        try simp -implicitDefEqProofs only [go_sem, reduceEqDiff, reduceLT, reduceLeDiff, reduceMul, reduceAdd, reduceIte, reduceCtorEq, Nat.reduceBEq, reduceSub, Int.reduceToNat, encEdge, encI, b391, hns399, his419, hws419, c427, g427, c428a, c428b, g428]
        refine callG (w_slices_BinarySearch_int a1.nodes e428.dst r430 hr430) (by simp -implicitDefEqProofs only [go_sem, reduceEqDiff, reduceLT, reduceLeDiff, reduceMul, reduceAdd, reduceIte, reduceCtorEq, Nat.reduceBEq, reduceSub, Int.reduceToNat, encEdge, encI, b391, hns399, his419, hws419, c427, g427, c428a, c428b, g428] <;> rfl) (pleL_refl _) (by first | exact pers | exact scal rfl) ?_
        obtain ⟨c431, h⟩ := chk_s h
        have k432 := eq_true (show (s419.length + 1) * 24 ≤ 140737488355328 by omega)
        have a433 := map_apps encEdge s419 [(⟨e428.type, r429.1, r430.1⟩ : Edge)] (c := [[.val (.int .i64 e428.type), .val (.int .i64 r429.1), .val (.int .i64 r430.1)]]) rfl
        try simp -implicitDefEqProofs only [go_sem, reduceEqDiff, reduceLT, reduceLeDiff, reduceMul, reduceAdd, reduceIte, reduceCtorEq, Nat.reduceBEq, reduceSub, Int.reduceToNat, encEdge, encI, b391, hns399, his419, hws419, c427, g427, c428a, c428b, g428, c431, k432, a433]
        exact hNs419 (s419 ++ [(⟨e428.type, r429.1, r430.1⟩ : Edge)]) (g419 + 1) h (weakL (by simp -implicitDefEqProofs only [go_sem, reduceEqDiff, reduceLT, reduceLeDiff, reduceMul, reduceAdd, reduceIte, reduceCtorEq, Nat.reduceBEq, reduceSub, Int.reduceToNat, encEdge, encI, b391, hns399, his419, hws419, c427, g427, c428a, c428b, g428, c431, k432, a433] <;> ((repeat' apply And.intro) <;> rfl)))
      · intro i419 s419 g419 Rs419 hes419 h
        have hns419 : ¬ (i419 < a1.edges.length) := by omega
        try dsimp only at h
        try simp -implicitDefEqProofs only [go_sem, reduceEqDiff, reduceLT, reduceLeDiff, reduceMul, reduceAdd, reduceIte, reduceCtorEq, Nat.reduceBEq, reduceSub, Int.reduceToNat, encEdge, encI, b391, hns399, hns419]
        refine draw_txt [.q, .q, .q, .q, .q, .q, .q, .p, .w, .w, .q] (by kernel_rfl) ?_
        obtain ⟨r434, hr434, h⟩ := thn_s h
        try simp -implicitDefEqProofs only [go_sem, reduceEqDiff, reduceLT, reduceLeDiff, reduceMul, reduceAdd, reduceIte, reduceCtorEq, Nat.reduceBEq, reduceSub, Int.reduceToNat, encEdge, encI, b391, hns399, hns419]
        refine calldG (show CallV _ _ _ (fun v => v = .lst (r434.map encI)) from (w_slices_Clone_int a1.nodes r434 hr434).toV1) (by simp -implicitDefEqProofs only [go_sem, reduceEqDiff, reduceLT, reduceLeDiff, reduceMul, reduceAdd, reduceIte, reduceCtorEq, Nat.reduceBEq, reduceSub, Int.reduceToNat, encEdge, encI, b391, hns399, hns419] <;> rfl) (pleL_refl _) (by first | exact pers | exact scal rfl) ?_
        obtain ⟨r435, hr435, h⟩ := thn_s h
        try simp -implicitDefEqProofs only [go_sem, reduceEqDiff, reduceLT, reduceLeDiff, reduceMul, reduceAdd, reduceIte, reduceCtorEq, Nat.reduceBEq, reduceSub, Int.reduceToNat, encEdge, encI, b391, hns399, hns419]
        refine calldG (show CallV _ _ _ (fun v => v = .lst (r435.map encI)) from (w_slices_Clone_int a1.edges r435 hr435).toV1) (by simp -implicitDefEqProofs only [go_sem, reduceEqDiff, reduceLT, reduceLeDiff, reduceMul, reduceAdd, reduceIte, reduceCtorEq, Nat.reduceBEq, reduceSub, Int.reduceToNat, encEdge, encI, b391, hns399, hns419] <;> rfl) (pleL_refl _) (by first | exact pers | exact scal rfl) ?_
        cases h
        try simp -implicitDefEqProofs only [go_sem, reduceEqDiff, reduceLT, reduceLeDiff, reduceMul, reduceAdd, reduceIte, reduceCtorEq, Nat.reduceBEq, reduceSub, Int.reduceToNat, encEdge, encI, b391, hns399, hns419]
        refine ⟨by decide, _, .refl _, ?_⟩
        simp -implicitDefEqProofs only [go_sem, reduceEqDiff, reduceLT, reduceLeDiff, reduceMul, reduceAdd, reduceIte, reduceCtorEq, Nat.reduceBEq, reduceSub, Int.reduceToNat, encEdge, encI, b391, hns399, hns419] <;> ((repeat' apply And.intro) <;> rfl)
  · replace h := cond_f h b391
    cases h
    try simp -implicitDefEqProofs only [go_sem, reduceEqDiff, reduceLT, reduceLeDiff, reduceMul, reduceAdd, reduceIte, reduceCtorEq, Nat.reduceBEq, reduceSub, Int.reduceToNat, encEdge, encI, b391]
    refine ⟨by decide, _, .refl _, ?_⟩
    simp -implicitDefEqProofs only [go_sem, reduceEqDiff, reduceLT, reduceLeDiff, reduceMul, reduceAdd, reduceIte, reduceCtorEq, Nat.reduceBEq, reduceSub, Int.reduceToNat, encEdge, encI, b391] <;> ((repeat' apply And.intro) <;> rfl)


def f_host_Extract (a0 : Types) (a1 : Host) (a2 : Part) : Option (Host × Int) :=
  thn (f_host_valid a0 a1) fun r456 =>
  cond (decide (r456 = 0)) (
    thn (f_subgraph_Extract a1.graph a2) fun r458 =>
    cond (decide (r458.2.2 = 0)) (
      chk (a2.nodes.length ≤ fuel) <|
      forN (fun i468 (s468 : (List (List Int))) nxts468 brks468 =>
        thn (a2.nodes[i468]?) fun e475 =>
        thn (atZ a1.values e475) fun e476 =>
        thn (f_slices_Clone_int e476) fun r477 =>
        chk (s468.length + 1 ≤ 68719476736) <|
        nxts468 (s468 ++ [r477]))
      (a2.nodes.length - 0) 0 ([] : List (List Int)) fun s468 =>
      some ((⟨r458.1, s468⟩ : Host), 0)) <|
    some ((⟨(⟨([] : List Int), ([] : List Edge)⟩ : Graph), ([] : List (List Int))⟩ : Host), r458.2.2)) <|
  some ((⟨(⟨([] : List Int), ([] : List Edge)⟩ : Graph), ([] : List (List Int))⟩ : Host), r456)
set_option maxHeartbeats 4000000 in
theorem w_host_Extract (a0 : Types) (a1 : Host) (a2 : Part) (r : Host × Int) (h : f_host_Extract a0 a1 a2 = some r) : CallF Go.Proofs.Tryz.prog 52 [.agg [.lst (a0.nodes.map encNode), .lst (a0.edges.map encEdgeT)], .agg [.lst (a1.graph.nodes.map encI), .lst (a1.graph.edges.map encEdge), .lst (a1.values.map encRow)], .agg [.lst (a2.nodes.map encI), .lst (a2.edges.map encI)]] (fun v => v = .tup [.agg [.row 3 1 (r.1.graph.nodes.map encI), .row 73 3 (r.1.graph.edges.map encEdge), .row 26 1 (r.1.values.map encRow)], .p (.val (.int .i64 r.2))]) := by
  refine CallF.rle ?_
  refine callF_of_cw [51, 52] Ty.mixed Go.Proofs.Tryz.func52 rfl (by kernel_rfl) (by simp [Go.Proofs.Tryz.ntmps52]) ?_; rw [Go.Proofs.Tryz.ntmps52, Go.Proofs.Tryz.results52]
  unfold f_host_Extract at h
  obtain ⟨r456, hr456, h⟩ := thn_s h
  try simp -implicitDefEqProofs only [go_sem, reduceEqDiff, reduceLT, reduceLeDiff, reduceMul, reduceAdd, reduceIte, reduceCtorEq, Nat.reduceBEq, reduceSub, Int.reduceToNat, encEdge, encEdgeT, encI, encInts, encNode, encRow, encStrs]
  refine callG (w_host_valid a0 a1 r456 hr456) (by simp -implicitDefEqProofs only [go_sem, reduceEqDiff, reduceLT, reduceLeDiff, reduceMul, reduceAdd, reduceIte, reduceCtorEq, Nat.reduceBEq, reduceSub, Int.reduceToNat, encEdge, encEdgeT, encI, encInts, encNode, encRow, encStrs] <;> rfl) (pleL_refl _) (by first | exact pers | exact scal rfl) ?_
  try simp -implicitDefEqProofs only [go_sem, reduceEqDiff, reduceLT, reduceLeDiff, reduceMul, reduceAdd, reduceIte, reduceCtorEq, Nat.reduceBEq, reduceSub, Int.reduceToNat, encEdge, encEdgeT, encI, encInts, encNode, encRow, encStrs]
  refine condC_splitN (fun b457 => ?_) (fun b457 => ?_)
  · replace h := cond_t h b457
    obtain ⟨r458, hr458, h⟩ := thn_s h
    try simp -implicitDefEqProofs only [go_sem, reduceEqDiff, reduceLT, reduceLeDiff, reduceMul, reduceAdd, reduceIte, reduceCtorEq, Nat.reduceBEq, reduceSub, Int.reduceToNat, encEdge, encEdgeT, encI, encInts, encNode, encRow, encStrs, b457]
    refine callfG 1416 (w_subgraph_Extract a1.graph a2 r458 hr458) (by simp -implicitDefEqProofs only [go_sem, reduceEqDiff, reduceLT, reduceLeDiff, reduceMul, reduceAdd, reduceIte, reduceCtorEq, Nat.reduceBEq, reduceSub, Int.reduceToNat, encEdge, encEdgeT, encI, encInts, encNode, encRow, encStrs, b457] <;> rfl) (pleL_refl _) (by first | exact persF | exact flatF rfl | exact flatF (by simp [RV.flat, RV.flatL, PV.scalar, isVal, encI, encEdge])) (by simp -implicitDefEqProofs only [go_sem, reduceEqDiff, reduceLT, reduceLeDiff, reduceMul, reduceAdd, reduceIte, reduceCtorEq, Nat.reduceBEq, reduceSub, Int.reduceToNat, encEdge, encEdgeT, encI, encInts, encNode, encRow, encStrs, b457]) ?_
    try simp -implicitDefEqProofs only [go_sem, reduceEqDiff, reduceLT, reduceLeDiff, reduceMul, reduceAdd, reduceIte, reduceCtorEq, Nat.reduceBEq, reduceSub, Int.reduceToNat, encEdge, encEdgeT, encI, encInts, encNode, encRow, encStrs, b457]
    refine condC_splitN (fun b459 => ?_) (fun b459 => ?_)
    · replace h := cond_t h b459
      obtain ⟨fus468, h⟩ := chk_s h
      unfold fuel at fus468
      try simp -implicitDefEqProofs only [go_sem, reduceEqDiff, reduceLT, reduceLeDiff, reduceMul, reduceAdd, reduceIte, reduceCtorEq, Nat.reduceBEq, reduceSub, Int.reduceToNat, encEdge, encEdgeT, encI, encInts, encNode, encRow, encStrs, b457, b459]
      refine forN_go (fun x : (Nat × ((List (List Int)))) × (Nat) => envL [(4, .ptr 4 0), (6, .ptr 6 0), (12, .ptr 12 0), (37, .p (.lst (a2.nodes.map encI))), (38, .p (.val (.int .i64 ((a2.nodes.length : Nat) : Int)))), (39, .p (.val (.int .i64 ((x.1.1 : Nat) : Int))))]) (fun x => heapL [(4, .box [.p (.lst (a1.graph.nodes.map encI)), .p (.lst (a1.graph.edges.map encEdge)), .p (.lst (a1.values.map encRow))]), (6, .box [.p (.val (.slice none 0 0)), .p (.val (.slice none 0 0)), .p (.val (.slice none 0 0))]), (12, .box [.row 1416 0, .row 1417 0, .row 2466 x.2]), (1416, .row 0 3 1 (r458.1.nodes.map encI)), (1417, .row 0 73 3 (r458.1.edges.map encEdge)), (2466, .row x.2 26 1 (x.1.2.map encRow))]) 0 h (by refine Weak.trans (weak_nilbox 12 2 2466 26 1 _ rfl rfl rfl (by decide)) ?_; exact (weakL (by simp -implicitDefEqProofs only [go_sem, reduceEqDiff, reduceLT, reduceLeDiff, reduceMul, reduceAdd, reduceIte, reduceCtorEq, Nat.reduceBEq, reduceSub, Int.reduceToNat, encEdge, encEdgeT, encI, encInts, encNode, encRow, encStrs, b457, b459] <;> ((repeat' apply And.intro) <;> rfl)))) ?_ ?_
      · intro i468 s468 g468 nxts468 Rs468 his468 hNs468 h
        have hws468 := wrap_succ (k := i468) his468 (by omega)
        try dsimp only at h
        obtain ⟨e475, c475, g475, q475, h⟩ := idx_s encI h
        try simp -implicitDefEqProofs only [go_sem, reduceEqDiff, reduceLT, reduceLeDiff, reduceMul, reduceAdd, reduceIte, reduceCtorEq, Nat.reduceBEq, reduceSub, Int.reduceToNat, encEdge, encEdgeT, encI, encInts, encNode, encRow, encStrs, b457, b459, his468, hws468, c475, g475]
        refine draw_txt [.q, .q, .q, .q, .q, .q, .q, .q, .w, .w, .q, .w] (by kernel_rfl) ?_
        obtain ⟨e476, c476a, c476b, g476, q476, h⟩ := atZ_s encRow h
        obtain ⟨r477, hr477, h⟩ := thn_s h
        try simp -implicitDefEqProofs only [go_sem, reduceEqDiff, reduceLT, reduceLeDiff, reduceMul, reduceAdd, reduceIte, reduceCtorEq, Nat.reduceBEq, reduceSub, Int.reduceToNat, encEdge, encEdgeT, encI, encInts, encNode, encRow, encStrs, b457, b459, his468, hws468, c475, g475, c476a, c476b, g476]
        refine calldG (show CallV _ _ _ (fun v => v = .lst (r477.map encI)) from (w_slices_Clone_int e476 r477 hr477).toV1) (by simp -implicitDefEqProofs only [go_sem, reduceEqDiff, reduceLT, reduceLeDiff, reduceMul, reduceAdd, reduceIte, reduceCtorEq, Nat.reduceBEq, reduceSub, Int.reduceToNat, encEdge, encEdgeT, encI, encInts, encNode, encRow, encStrs, b457, b459, his468, hws468, c475, g475, c476a, c476b, g476] <;> rfl) (pleL_refl _) (by first | exact pers | exact scal rfl) ?_
        obtain ⟨c478, h⟩ := chk_s h
        have k479 := eq_true (show (s468.length + 1) * 24 ≤ 140737488355328 by omega)
        have a480 := map_apps encRow s468 [r477] (c := [[.lst (r477.map encI)]]) rfl
        try simp -implicitDefEqProofs only [go_sem, reduceEqDiff, reduceLT, reduceLeDiff, reduceMul, reduceAdd, reduceIte, reduceCtorEq, Nat.reduceBEq, reduceSub, Int.reduceToNat, encEdge, encEdgeT, encI, encInts, encNode, encRow, encStrs, b457, b459, his468, hws468, c475, g475, c476a, c476b, g476, c478, k479, a480]
        exact hNs468 (s468 ++ [r477]) (g468 + 1) h (weakL (by simp -implicitDefEqProofs only [go_sem, reduceEqDiff, reduceLT, reduceLeDiff, reduceMul, reduceAdd, reduceIte, reduceCtorEq, Nat.reduceBEq, reduceSub, Int.reduceToNat, encEdge, encEdgeT, encI, encInts, encNode, encRow, encStrs, b457, b459, his468, hws468, c475, g475, c476a, c476b, g476, c478, k479, a480] <;> ((repeat' apply And.intro) <;> rfl)))
      · intro i468 s468 g468 Rs468 hes468 h
        have hns468 : ¬ (i468 < a2.nodes.length) := by omega
        try dsimp only at h
        cases h
        try simp -implicitDefEqProofs only [go_sem, reduceEqDiff, reduceLT, reduceLeDiff, reduceMul, reduceAdd, reduceIte, reduceCtorEq, Nat.reduceBEq, reduceSub, Int.reduceToNat, encEdge, encEdgeT, encI, encInts, encNode, encRow, encStrs, b457, b459, hns468]
        refine ⟨by decide, _, .refl _, ?_⟩
        simp -implicitDefEqProofs only [go_sem, reduceEqDiff, reduceLT, reduceLeDiff, reduceMul, reduceAdd, reduceIte, reduceCtorEq, Nat.reduceBEq, reduceSub, Int.reduceToNat, encEdge, encEdgeT, encI, encInts, encNode, encRow, encStrs, b457, b459, hns468] <;> ((repeat' apply And.intro) <;> rfl)
    · replace h := cond_f h b459
      cases h
      try simp -implicitDefEqProofs only [go_sem, reduceEqDiff, reduceLT, reduceLeDiff, reduceMul, reduceAdd, reduceIte, reduceCtorEq, Nat.reduceBEq, reduceSub, Int.reduceToNat, encEdge, encEdgeT, encI, encInts, encNode, encRow, encStrs, b457, b459]
      refine ⟨by decide, _, .refl _, ?_⟩
      simp -implicitDefEqProofs only [go_sem, reduceEqDiff, reduceLT, reduceLeDiff, reduceMul, reduceAdd, reduceIte, reduceCtorEq, Nat.reduceBEq, reduceSub, Int.reduceToNat, encEdge, encEdgeT, encI, encInts, encNode, encRow, encStrs, b457, b459] <;> ((repeat' apply And.intro) <;> rfl)
  · replace h := cond_f h b457
    cases h
    try simp -implicitDefEqProofs only [go_sem, reduceEqDiff, reduceLT, reduceLeDiff, reduceMul, reduceAdd, reduceIte, reduceCtorEq, Nat.reduceBEq, reduceSub, Int.reduceToNat, encEdge, encEdgeT, encI, encInts, encNode, encRow, encStrs, b457]
    refine ⟨by decide, _, .refl _, ?_⟩
    simp -implicitDefEqProofs only [go_sem, reduceEqDiff, reduceLT, reduceLeDiff, reduceMul, reduceAdd, reduceIte, reduceCtorEq, Nat.reduceBEq, reduceSub, Int.reduceToNat, encEdge, encEdgeT, encI, encInts, encNode, encRow, encStrs, b457] <;> ((repeat' apply And.intro) <;> rfl)


def f_triple_Side (a0 : Types) (a1 : Sorts) (a2 : Host) (a3 : Int) : Option (Host × Part × Int) :=
  thn (f_triple_Valid a0 a1 a2) fun r483 =>
  cond (decide (r483 = 0)) (
    cond (decide (a3 = 1)) (
      thn (f_triple_part a1 a2.graph a3) fun r486 =>
      thn (f_host_Extract a0 a2 r486) fun r487 =>
      cond (decide (r487.2 = 0)) (
        some (r487.1, r486, 0)) <|
      some ((⟨(⟨([] : List Int), ([] : List Edge)⟩ : Graph), ([] : List (List Int))⟩ : Host), (⟨([] : List Int), ([] : List Int)⟩ : Part), r487.2)) <|
    cond (decide (a3 = 3)) (
      thn (f_triple_part a1 a2.graph a3) fun r490 =>
      thn (f_host_Extract a0 a2 r490) fun r491 =>
      cond (decide (r491.2 = 0)) (
        some (r491.1, r490, 0)) <|
      some ((⟨(⟨([] : List Int), ([] : List Edge)⟩ : Graph), ([] : List (List Int))⟩ : Host), (⟨([] : List Int), ([] : List Int)⟩ : Part), r491.2)) <|
    some ((⟨(⟨([] : List Int), ([] : List Edge)⟩ : Graph), ([] : List (List Int))⟩ : Host), (⟨([] : List Int), ([] : List Int)⟩ : Part), 6)) <|
  some ((⟨(⟨([] : List Int), ([] : List Edge)⟩ : Graph), ([] : List (List Int))⟩ : Host), (⟨([] : List Int), ([] : List Int)⟩ : Part), r483)
set_option maxHeartbeats 4000000 in
theorem w_triple_Side (a0 : Types) (a1 : Sorts) (a2 : Host) (a3 : Int) (r : Host × Part × Int) (h : f_triple_Side a0 a1 a2 a3 = some r) : CallF Go.Proofs.Tryz.prog 20 [.agg [.lst (a0.nodes.map encNode), .lst (a0.edges.map encEdgeT)], .agg [.lst (a1.nodes.map encI), .lst (a1.edges.map encI)], .agg [.lst (a2.graph.nodes.map encI), .lst (a2.graph.edges.map encEdge), .lst (a2.values.map encRow)], .val (.int .i64 a3)] (fun v => v = .tup [.agg [.row 3 1 (r.1.graph.nodes.map encI), .row 73 3 (r.1.graph.edges.map encEdge), .row 26 1 (r.1.values.map encRow)], .agg [.p (.lst (r.2.1.nodes.map encI)), .p (.lst (r.2.1.edges.map encI))], .p (.val (.int .i64 r.2.2))]) := by
  refine CallF.rle ?_
  refine callF_of_cw [2000008] Ty.mixed Go.Proofs.Tryz.func20 rfl (by kernel_rfl) (by simp [Go.Proofs.Tryz.ntmps20]) ?_; rw [Go.Proofs.Tryz.ntmps20, Go.Proofs.Tryz.results20]
  unfold f_triple_Side at h
  obtain ⟨r483, hr483, h⟩ := thn_s h
  try simp -implicitDefEqProofs only [go_sem, reduceEqDiff, reduceLT, reduceLeDiff, reduceMul, reduceAdd, reduceIte, reduceCtorEq, Nat.reduceBEq, reduceSub, Int.reduceToNat, encEdge, encEdgeT, encI, encInts, encNode, encRow, encStrs]
  refine callG (w_triple_Valid a0 a1 a2 r483 hr483) (by simp -implicitDefEqProofs only [go_sem, reduceEqDiff, reduceLT, reduceLeDiff, reduceMul, reduceAdd, reduceIte, reduceCtorEq, Nat.reduceBEq, reduceSub, Int.reduceToNat, encEdge, encEdgeT, encI, encInts, encNode, encRow, encStrs] <;> rfl) (pleL_refl _) (by first | exact pers | exact scal rfl) ?_
  try simp -implicitDefEqProofs only [go_sem, reduceEqDiff, reduceLT, reduceLeDiff, reduceMul, reduceAdd, reduceIte, reduceCtorEq, Nat.reduceBEq, reduceSub, Int.reduceToNat, encEdge, encEdgeT, encI, encInts, encNode, encRow, encStrs]
  refine condC_splitN (fun b484 => ?_) (fun b484 => ?_)
  · replace h := cond_t h b484
    try simp -implicitDefEqProofs only [go_sem, reduceEqDiff, reduceLT, reduceLeDiff, reduceMul, reduceAdd, reduceIte, reduceCtorEq, Nat.reduceBEq, reduceSub, Int.reduceToNat, encEdge, encEdgeT, encI, encInts, encNode, encRow, encStrs, b484]
    refine walkG_splitN (fun b485 => ?_) (fun b485 => ?_)
    · replace h := cond_t h b485
      obtain ⟨r486, hr486, h⟩ := thn_s h
      try simp -implicitDefEqProofs only [go_sem, reduceEqDiff, reduceLT, reduceLeDiff, reduceMul, reduceAdd, reduceIte, reduceCtorEq, Nat.reduceBEq, reduceSub, Int.reduceToNat, encEdge, encEdgeT, encI, encInts, encNode, encRow, encStrs, b484, b485]
      refine callfG 1576 (w_triple_part a1 a2.graph a3 r486 hr486) (by simp -implicitDefEqProofs only [go_sem, reduceEqDiff, reduceLT, reduceLeDiff, reduceMul, reduceAdd, reduceIte, reduceCtorEq, Nat.reduceBEq, reduceSub, Int.reduceToNat, encEdge, encEdgeT, encI, encInts, encNode, encRow, encStrs, b484, b485] <;> rfl) (pleL_refl _) (by first | exact persF | exact flatF rfl | exact flatF (by simp [RV.flat, RV.flatL, PV.scalar, isVal, encI, encI])) (by simp -implicitDefEqProofs only [go_sem, reduceEqDiff, reduceLT, reduceLeDiff, reduceMul, reduceAdd, reduceIte, reduceCtorEq, Nat.reduceBEq, reduceSub, Int.reduceToNat, encEdge, encEdgeT, encI, encInts, encNode, encRow, encStrs, b484, b485]) ?_
      obtain ⟨r487, hr487, h⟩ := thn_s h
      try simp -implicitDefEqProofs only [go_sem, reduceEqDiff, reduceLT, reduceLeDiff, reduceMul, reduceAdd, reduceIte, reduceCtorEq, Nat.reduceBEq, reduceSub, Int.reduceToNat, encEdge, encEdgeT, encI, encInts, encNode, encRow, encStrs, b484, b485]
      refine callfGs [1576, 1577] 1656 (w_host_Extract a0 a2 r486 r487 hr487) (by simp -implicitDefEqProofs only [go_sem, reduceEqDiff, reduceLT, reduceLeDiff, reduceMul, reduceAdd, reduceIte, reduceCtorEq, Nat.reduceBEq, reduceSub, Int.reduceToNat, encEdge, encEdgeT, encI, encInts, encNode, encRow, encStrs, b484, b485] <;> rfl) (pleL_refl _) (by first | exact persF | exact flatF rfl | exact flatF (by simp [RV.flat, RV.flatL, PV.scalar, isVal, encI, encEdge, encRow])) (by simp -implicitDefEqProofs only [go_sem, reduceEqDiff, reduceLT, reduceLeDiff, reduceMul, reduceAdd, reduceIte, reduceCtorEq, Nat.reduceBEq, reduceSub, Int.reduceToNat, encEdge, encEdgeT, encI, encInts, encNode, encRow, encStrs, b484, b485]) ?_
      try simp -implicitDefEqProofs only [go_sem, reduceEqDiff, reduceLT, reduceLeDiff, reduceMul, reduceAdd, reduceIte, reduceCtorEq, Nat.reduceBEq, reduceSub, Int.reduceToNat, encEdge, encEdgeT, encI, encInts, encNode, encRow, encStrs, b484, b485]
      refine condC_splitN (fun b488 => ?_) (fun b488 => ?_)
      · replace h := cond_t h b488
        try simp -implicitDefEqProofs only [go_sem, reduceEqDiff, reduceLT, reduceLeDiff, reduceMul, reduceAdd, reduceIte, reduceCtorEq, Nat.reduceBEq, reduceSub, Int.reduceToNat, encEdge, encEdgeT, encI, encInts, encNode, encRow, encStrs, b484, b485, b488]
        refine draw_txt [.q, .o, .s, .w, .q] (by kernel_rfl) ?_
        cases h
        try simp -implicitDefEqProofs only [go_sem, reduceEqDiff, reduceLT, reduceLeDiff, reduceMul, reduceAdd, reduceIte, reduceCtorEq, Nat.reduceBEq, reduceSub, Int.reduceToNat, encEdge, encEdgeT, encI, encInts, encNode, encRow, encStrs, b484, b485, b488]
        refine ⟨by decide, _, .refl _, ?_⟩
        simp -implicitDefEqProofs only [go_sem, reduceEqDiff, reduceLT, reduceLeDiff, reduceMul, reduceAdd, reduceIte, reduceCtorEq, Nat.reduceBEq, reduceSub, Int.reduceToNat, encEdge, encEdgeT, encI, encInts, encNode, encRow, encStrs, b484, b485, b488] <;> ((repeat' apply And.intro) <;> rfl)
      · replace h := cond_f h b488
        cases h
        try simp -implicitDefEqProofs only [go_sem, reduceEqDiff, reduceLT, reduceLeDiff, reduceMul, reduceAdd, reduceIte, reduceCtorEq, Nat.reduceBEq, reduceSub, Int.reduceToNat, encEdge, encEdgeT, encI, encInts, encNode, encRow, encStrs, b484, b485, b488]
        refine ⟨by decide, _, .refl _, ?_⟩
        simp -implicitDefEqProofs only [go_sem, reduceEqDiff, reduceLT, reduceLeDiff, reduceMul, reduceAdd, reduceIte, reduceCtorEq, Nat.reduceBEq, reduceSub, Int.reduceToNat, encEdge, encEdgeT, encI, encInts, encNode, encRow, encStrs, b484, b485, b488] <;> ((repeat' apply And.intro) <;> rfl)
    · replace h := cond_f h b485
      try simp -implicitDefEqProofs only [go_sem, reduceEqDiff, reduceLT, reduceLeDiff, reduceMul, reduceAdd, reduceIte, reduceCtorEq, Nat.reduceBEq, reduceSub, Int.reduceToNat, encEdge, encEdgeT, encI, encInts, encNode, encRow, encStrs, b484, b485]
      refine condC_splitN (fun b489 => ?_) (fun b489 => ?_)
      · replace h := cond_t h b489
        obtain ⟨r490, hr490, h⟩ := thn_s h
        try simp -implicitDefEqProofs only [go_sem, reduceEqDiff, reduceLT, reduceLeDiff, reduceMul, reduceAdd, reduceIte, reduceCtorEq, Nat.reduceBEq, reduceSub, Int.reduceToNat, encEdge, encEdgeT, encI, encInts, encNode, encRow, encStrs, b484, b485, b489]
        refine callfG 1576 (w_triple_part a1 a2.graph a3 r490 hr490) (by simp -implicitDefEqProofs only [go_sem, reduceEqDiff, reduceLT, reduceLeDiff, reduceMul, reduceAdd, reduceIte, reduceCtorEq, Nat.reduceBEq, reduceSub, Int.reduceToNat, encEdge, encEdgeT, encI, encInts, encNode, encRow, encStrs, b484, b485, b489] <;> rfl) (pleL_refl _) (by first | exact persF | exact flatF rfl | exact flatF (by simp [RV.flat, RV.flatL, PV.scalar, isVal, encI, encI])) (by simp -implicitDefEqProofs only [go_sem, reduceEqDiff, reduceLT, reduceLeDiff, reduceMul, reduceAdd, reduceIte, reduceCtorEq, Nat.reduceBEq, reduceSub, Int.reduceToNat, encEdge, encEdgeT, encI, encInts, encNode, encRow, encStrs, b484, b485, b489]) ?_
        obtain ⟨r491, hr491, h⟩ := thn_s h
        try simp -implicitDefEqProofs only [go_sem, reduceEqDiff, reduceLT, reduceLeDiff, reduceMul, reduceAdd, reduceIte, reduceCtorEq, Nat.reduceBEq, reduceSub, Int.reduceToNat, encEdge, encEdgeT, encI, encInts, encNode, encRow, encStrs, b484, b485, b489]
        refine callfGs [1576, 1577] 1656 (w_host_Extract a0 a2 r490 r491 hr491) (by simp -implicitDefEqProofs only [go_sem, reduceEqDiff, reduceLT, reduceLeDiff, reduceMul, reduceAdd, reduceIte, reduceCtorEq, Nat.reduceBEq, reduceSub, Int.reduceToNat, encEdge, encEdgeT, encI, encInts, encNode, encRow, encStrs, b484, b485, b489] <;> rfl) (pleL_refl _) (by first | exact persF | exact flatF rfl | exact flatF (by simp [RV.flat, RV.flatL, PV.scalar, isVal, encI, encEdge, encRow])) (by simp -implicitDefEqProofs only [go_sem, reduceEqDiff, reduceLT, reduceLeDiff, reduceMul, reduceAdd, reduceIte, reduceCtorEq, Nat.reduceBEq, reduceSub, Int.reduceToNat, encEdge, encEdgeT, encI, encInts, encNode, encRow, encStrs, b484, b485, b489]) ?_
        try simp -implicitDefEqProofs only [go_sem, reduceEqDiff, reduceLT, reduceLeDiff, reduceMul, reduceAdd, reduceIte, reduceCtorEq, Nat.reduceBEq, reduceSub, Int.reduceToNat, encEdge, encEdgeT, encI, encInts, encNode, encRow, encStrs, b484, b485, b489]
        refine condC_splitN (fun b492 => ?_) (fun b492 => ?_)
        · replace h := cond_t h b492
          try simp -implicitDefEqProofs only [go_sem, reduceEqDiff, reduceLT, reduceLeDiff, reduceMul, reduceAdd, reduceIte, reduceCtorEq, Nat.reduceBEq, reduceSub, Int.reduceToNat, encEdge, encEdgeT, encI, encInts, encNode, encRow, encStrs, b484, b485, b489, b492]
          refine draw_txt [.q, .o, .s, .w, .q] (by kernel_rfl) ?_
          cases h
          try simp -implicitDefEqProofs only [go_sem, reduceEqDiff, reduceLT, reduceLeDiff, reduceMul, reduceAdd, reduceIte, reduceCtorEq, Nat.reduceBEq, reduceSub, Int.reduceToNat, encEdge, encEdgeT, encI, encInts, encNode, encRow, encStrs, b484, b485, b489, b492]
          refine ⟨by decide, _, .refl _, ?_⟩
          simp -implicitDefEqProofs only [go_sem, reduceEqDiff, reduceLT, reduceLeDiff, reduceMul, reduceAdd, reduceIte, reduceCtorEq, Nat.reduceBEq, reduceSub, Int.reduceToNat, encEdge, encEdgeT, encI, encInts, encNode, encRow, encStrs, b484, b485, b489, b492] <;> ((repeat' apply And.intro) <;> rfl)
        · replace h := cond_f h b492
          cases h
          try simp -implicitDefEqProofs only [go_sem, reduceEqDiff, reduceLT, reduceLeDiff, reduceMul, reduceAdd, reduceIte, reduceCtorEq, Nat.reduceBEq, reduceSub, Int.reduceToNat, encEdge, encEdgeT, encI, encInts, encNode, encRow, encStrs, b484, b485, b489, b492]
          refine ⟨by decide, _, .refl _, ?_⟩
          simp -implicitDefEqProofs only [go_sem, reduceEqDiff, reduceLT, reduceLeDiff, reduceMul, reduceAdd, reduceIte, reduceCtorEq, Nat.reduceBEq, reduceSub, Int.reduceToNat, encEdge, encEdgeT, encI, encInts, encNode, encRow, encStrs, b484, b485, b489, b492] <;> ((repeat' apply And.intro) <;> rfl)
      · replace h := cond_f h b489
        cases h
        try simp -implicitDefEqProofs only [go_sem, reduceEqDiff, reduceLT, reduceLeDiff, reduceMul, reduceAdd, reduceIte, reduceCtorEq, Nat.reduceBEq, reduceSub, Int.reduceToNat, encEdge, encEdgeT, encI, encInts, encNode, encRow, encStrs, b484, b485, b489]
        refine ⟨by decide, _, .refl _, ?_⟩
        simp -implicitDefEqProofs only [go_sem, reduceEqDiff, reduceLT, reduceLeDiff, reduceMul, reduceAdd, reduceIte, reduceCtorEq, Nat.reduceBEq, reduceSub, Int.reduceToNat, encEdge, encEdgeT, encI, encInts, encNode, encRow, encStrs, b484, b485, b489] <;> ((repeat' apply And.intro) <;> rfl)
  · replace h := cond_f h b484
    cases h
    try simp -implicitDefEqProofs only [go_sem, reduceEqDiff, reduceLT, reduceLeDiff, reduceMul, reduceAdd, reduceIte, reduceCtorEq, Nat.reduceBEq, reduceSub, Int.reduceToNat, encEdge, encEdgeT, encI, encInts, encNode, encRow, encStrs, b484]
    refine ⟨by decide, _, .refl _, ?_⟩
    simp -implicitDefEqProofs only [go_sem, reduceEqDiff, reduceLT, reduceLeDiff, reduceMul, reduceAdd, reduceIte, reduceCtorEq, Nat.reduceBEq, reduceSub, Int.reduceToNat, encEdge, encEdgeT, encI, encInts, encNode, encRow, encStrs, b484] <;> ((repeat' apply And.intro) <;> rfl)


def f_scarfjointref07_ascending (a0 : List Int) (a1 : Int) : Option Int :=
  chk (a0.length ≤ fuel) <|
  forN (fun i510 (s510 : Unit) nxts510 brks510 =>
    thn (a0[i510]?) fun e517 =>
    cond (decide (e517 < 0)) (
      some 6) <|
    cond (decide (a1 ≤ e517)) (
      some 6) <|
    cond (decide (0 < ((i510 : Nat) : Int))) (
      thn (atZ a0 (IntKind.i64.wrap (((i510 : Nat) : Int) - 1))) fun e521 =>
      cond (decide (e517 ≤ e521)) (
        some 12) <|
      nxts510 ()) <|
    nxts510 ())
  (a0.length - 0) 0 () fun s510 =>
  some 0
set_option maxHeartbeats 4000000 in
theorem w_scarfjointref07_ascending (a0 : List Int) (a1 : Int) (r : Int) (h : f_scarfjointref07_ascending a0 a1 = some r) : CallV Go.Proofs.Tryz.prog 152 [.lst (a0.map encI), .val (.int .i64 a1)] (fun v => v = .val (.int .i64 r)) := by
  refine CallV.ple ?_
  refine callV_of_cw [] Ty.mixed Go.Proofs.Tryz.func152 rfl (by kernel_rfl) (by simp [Go.Proofs.Tryz.ntmps152]) ?_; rw [Go.Proofs.Tryz.ntmps152, Go.Proofs.Tryz.results152]
  unfold f_scarfjointref07_ascending at h
  obtain ⟨fus510, h⟩ := chk_s h
  unfold fuel at fus510
  try simp -implicitDefEqProofs only [go_sem, reduceEqDiff, reduceLT, reduceLeDiff, reduceMul, reduceAdd, reduceIte, reduceCtorEq, Nat.reduceBEq, reduceSub, Int.reduceToNat, encI]
  refine forN_go (fun x : (Nat × (Unit)) × (Unit) => envL [(0, .p (.lst (a0.map encI))), (1, .p (.val (.int .i64 a1))), (5, .p (.val (.int .i64 ((x.1.1 : Nat) : Int))))]) (fun x => heapL []) () h (weakL (by simp -implicitDefEqProofs only [go_sem, reduceEqDiff, reduceLT, reduceLeDiff, reduceMul, reduceAdd, reduceIte, reduceCtorEq, Nat.reduceBEq, reduceSub, Int.reduceToNat, encI] <;> ((repeat' apply And.intro) <;> rfl))) ?_ ?_
  · intro i510 s510 g510 nxts510 Rs510 his510 hNs510 h
    have hws510 := wrap_succ (k := i510) his510 (by omega)
    try dsimp only at h
    obtain ⟨e517, c517, g517, q517, h⟩ := idx_s encI h
    try simp -implicitDefEqProofs only [go_sem, reduceEqDiff, reduceLT, reduceLeDiff, reduceMul, reduceAdd, reduceIte, reduceCtorEq, Nat.reduceBEq, reduceSub, Int.reduceToNat, encI, his510, hws510, c517, g517]
    refine walkG_splitN (fun b518 => ?_) (fun b518 => ?_)
    · replace h := cond_t h b518
      cases h
      try simp -implicitDefEqProofs only [go_sem, reduceEqDiff, reduceLT, reduceLeDiff, reduceMul, reduceAdd, reduceIte, reduceCtorEq, Nat.reduceBEq, reduceSub, Int.reduceToNat, encI, his510, hws510, c517, g517, b518]
      all_goals ((repeat' apply And.intro) <;> rfl)
    · replace h := cond_f h b518
      try simp -implicitDefEqProofs only [go_sem, reduceEqDiff, reduceLT, reduceLeDiff, reduceMul, reduceAdd, reduceIte, reduceCtorEq, Nat.reduceBEq, reduceSub, Int.reduceToNat, encI, his510, hws510, c517, g517, b518]
      refine condC_split (fun b519 => ?_) (fun b519 => ?_)
      · replace h := cond_t h b519
        cases h
        try simp -implicitDefEqProofs only [go_sem, reduceEqDiff, reduceLT, reduceLeDiff, reduceMul, reduceAdd, reduceIte, reduceCtorEq, Nat.reduceBEq, reduceSub, Int.reduceToNat, encI, his510, hws510, c517, g517, b518, b519]
        all_goals ((repeat' apply And.intro) <;> rfl)
      · replace h := cond_f h b519
        try simp -implicitDefEqProofs only [go_sem, reduceEqDiff, reduceLT, reduceLeDiff, reduceMul, reduceAdd, reduceIte, reduceCtorEq, Nat.reduceBEq, reduceSub, Int.reduceToNat, encI, his510, hws510, c517, g517, b518, b519]
        refine draw_txt [.q, .q, .q, .q, .q, .q, .q, .q, .q, .q, .q, .q, .q, .q] (by kernel_rfl) ?_
        try simp -implicitDefEqProofs only [go_sem, reduceEqDiff, reduceLT, reduceLeDiff, reduceMul, reduceAdd, reduceIte, reduceCtorEq, Nat.reduceBEq, reduceSub, Int.reduceToNat, encI, his510, hws510, c517, g517, b518, b519]
        refine walkDG_split (fun b520 => ?_) (fun b520 => ?_)
        · replace h := cond_t h b520
          obtain ⟨e521, c521a, c521b, g521, q521, h⟩ := atZ_s encI h
          try simp -implicitDefEqProofs only [go_sem, reduceEqDiff, reduceLT, reduceLeDiff, reduceMul, reduceAdd, reduceIte, reduceCtorEq, Nat.reduceBEq, reduceSub, Int.reduceToNat, encI, his510, hws510, c517, g517, b518, b519, b520, c521a, c521b, g521]
          refine condC_split (fun b522 => ?_) (fun b522 => ?_)
          · replace h := cond_t h b522
            cases h
            try simp -implicitDefEqProofs only [go_sem, reduceEqDiff, reduceLT, reduceLeDiff, reduceMul, reduceAdd, reduceIte, reduceCtorEq, Nat.reduceBEq, reduceSub, Int.reduceToNat, encI, his510, hws510, c517, g517, b518, b519, b520, c521a, c521b, g521, b522]
            all_goals ((repeat' apply And.intro) <;> rfl)
          · replace h := cond_f h b522
            try simp -implicitDefEqProofs only [go_sem, reduceEqDiff, reduceLT, reduceLeDiff, reduceMul, reduceAdd, reduceIte, reduceCtorEq, Nat.reduceBEq, reduceSub, Int.reduceToNat, encI, his510, hws510, c517, g517, b518, b519, b520, c521a, c521b, g521, b522]
            exact hNs510 () () h (weakL (by simp -implicitDefEqProofs only [go_sem, reduceEqDiff, reduceLT, reduceLeDiff, reduceMul, reduceAdd, reduceIte, reduceCtorEq, Nat.reduceBEq, reduceSub, Int.reduceToNat, encI, his510, hws510, c517, g517, b518, b519, b520, c521a, c521b, g521, b522] <;> ((repeat' apply And.intro) <;> rfl)))
        · replace h := cond_f h b520
          try simp -implicitDefEqProofs only [go_sem, reduceEqDiff, reduceLT, reduceLeDiff, reduceMul, reduceAdd, reduceIte, reduceCtorEq, Nat.reduceBEq, reduceSub, Int.reduceToNat, encI, his510, hws510, c517, g517, b518, b519, b520]
          exact hNs510 () () h (weakL (by simp -implicitDefEqProofs only [go_sem, reduceEqDiff, reduceLT, reduceLeDiff, reduceMul, reduceAdd, reduceIte, reduceCtorEq, Nat.reduceBEq, reduceSub, Int.reduceToNat, encI, his510, hws510, c517, g517, b518, b519, b520] <;> ((repeat' apply And.intro) <;> rfl)))
  · intro i510 s510 g510 Rs510 hes510 h
    have hns510 : ¬ (i510 < a0.length) := by omega
    try dsimp only at h
    cases h
    try simp -implicitDefEqProofs only [go_sem, reduceEqDiff, reduceLT, reduceLeDiff, reduceMul, reduceAdd, reduceIte, reduceCtorEq, Nat.reduceBEq, reduceSub, Int.reduceToNat, encI, hns510]
    all_goals ((repeat' apply And.intro) <;> rfl)


def f_scarfjointref07_has (a0 : List Int) (a1 : Int) : Option Bool :=
  chk (a0.length ≤ fuel) <|
  forN (fun i535 (s535 : Unit) nxts535 brks535 =>
    thn (a0[i535]?) fun e538 =>
    cond (decide (e538 = a1)) (
      some true) <|
    nxts535 ())
  (a0.length - 0) 0 () fun s535 =>
  some false
set_option maxHeartbeats 4000000 in
theorem w_scarfjointref07_has (a0 : List Int) (a1 : Int) (r : Bool) (h : f_scarfjointref07_has a0 a1 = some r) : CallV Go.Proofs.Tryz.prog 153 [.lst (a0.map encI), .val (.int .i64 a1)] (fun v => v = .val (.bool r)) := by
  refine CallV.ple ?_
  refine callV_of_cw [] Ty.mixed Go.Proofs.Tryz.func153 rfl (by kernel_rfl) (by simp [Go.Proofs.Tryz.ntmps153]) ?_; rw [Go.Proofs.Tryz.ntmps153, Go.Proofs.Tryz.results153]
  unfold f_scarfjointref07_has at h
  obtain ⟨fus535, h⟩ := chk_s h
  unfold fuel at fus535
  try simp -implicitDefEqProofs only [go_sem, reduceEqDiff, reduceLT, reduceLeDiff, reduceMul, reduceAdd, reduceIte, reduceCtorEq, Nat.reduceBEq, reduceSub, Int.reduceToNat, encI]
  refine forN_go (fun x : (Nat × (Unit)) × (Unit) => envL [(0, .p (.lst (a0.map encI))), (1, .p (.val (.int .i64 a1))), (5, .p (.val (.int .i64 ((x.1.1 : Nat) : Int))))]) (fun x => heapL []) () h (weakL (by simp -implicitDefEqProofs only [go_sem, reduceEqDiff, reduceLT, reduceLeDiff, reduceMul, reduceAdd, reduceIte, reduceCtorEq, Nat.reduceBEq, reduceSub, Int.reduceToNat, encI] <;> ((repeat' apply And.intro) <;> rfl))) ?_ ?_
  · intro i535 s535 g535 nxts535 Rs535 his535 hNs535 h
    have hws535 := wrap_succ (k := i535) his535 (by omega)
    try dsimp only at h
    obtain ⟨e538, c538, g538, q538, h⟩ := idx_s encI h
    try simp -implicitDefEqProofs only [go_sem, reduceEqDiff, reduceLT, reduceLeDiff, reduceMul, reduceAdd, reduceIte, reduceCtorEq, Nat.reduceBEq, reduceSub, Int.reduceToNat, encI, his535, hws535, c538, g538]
    refine condC_split (fun b539 => ?_) (fun b539 => ?_)
    · replace h := cond_t h b539
      cases h
      try simp -implicitDefEqProofs only [go_sem, reduceEqDiff, reduceLT, reduceLeDiff, reduceMul, reduceAdd, reduceIte, reduceCtorEq, Nat.reduceBEq, reduceSub, Int.reduceToNat, encI, his535, hws535, c538, g538, b539]
      all_goals ((repeat' apply And.intro) <;> rfl)
    · replace h := cond_f h b539
      try simp -implicitDefEqProofs only [go_sem, reduceEqDiff, reduceLT, reduceLeDiff, reduceMul, reduceAdd, reduceIte, reduceCtorEq, Nat.reduceBEq, reduceSub, Int.reduceToNat, encI, his535, hws535, c538, g538, b539]
      exact hNs535 () () h (weakL (by simp -implicitDefEqProofs only [go_sem, reduceEqDiff, reduceLT, reduceLeDiff, reduceMul, reduceAdd, reduceIte, reduceCtorEq, Nat.reduceBEq, reduceSub, Int.reduceToNat, encI, his535, hws535, c538, g538, b539] <;> ((repeat' apply And.intro) <;> rfl)))
  · intro i535 s535 g535 Rs535 hes535 h
    have hns535 : ¬ (i535 < a0.length) := by omega
    try dsimp only at h
    cases h
    try simp -implicitDefEqProofs only [go_sem, reduceEqDiff, reduceLT, reduceLeDiff, reduceMul, reduceAdd, reduceIte, reduceCtorEq, Nat.reduceBEq, reduceSub, Int.reduceToNat, encI, hns535]
    all_goals ((repeat' apply And.intro) <;> rfl)


def f_scarfjointref07_Right (a0 : Graph) (a1 : Part) : Option Int :=
  thn (f_scarfjointref07_ascending a1.nodes ((a0.nodes.length : Nat) : Int)) fun r523 =>
  cond (decide (r523 = 0)) (
    thn (f_scarfjointref07_ascending a1.edges ((a0.edges.length : Nat) : Int)) fun r525 =>
    cond (decide (r525 = 0)) (
      chk (a1.edges.length ≤ fuel) <|
      forN (fun i544 (s544 : Unit) nxts544 brks544 =>
        thn (a1.edges[i544]?) fun e551 =>
        thn (atZ a0.edges e551) fun e552 =>
        thn (f_scarfjointref07_has a1.nodes e552.src) fun r553 =>
        cond r553 (
          thn (f_scarfjointref07_has a1.nodes e552.dst) fun r555 =>
          cond r555 (
            nxts544 ()) <|
          some 14) <|
        some 14)
      (a1.edges.length - 0) 0 () fun s544 =>
      some 0) <|
    some r525) <|
  some r523
set_option maxHeartbeats 4000000 in
theorem w_scarfjointref07_Right (a0 : Graph) (a1 : Part) (r : Int) (h : f_scarfjointref07_Right a0 a1 = some r) : CallV Go.Proofs.Tryz.prog 133 [.agg [.lst (a0.nodes.map encI), .lst (a0.edges.map encEdge)], .agg [.lst (a1.nodes.map encI), .lst (a1.edges.map encI)]] (fun v => v = .val (.int .i64 r)) := by
  refine CallV.ple ?_
  refine callV_of_cw [] Ty.mixed Go.Proofs.Tryz.func133 rfl (by kernel_rfl) (by simp [Go.Proofs.Tryz.ntmps133]) ?_; rw [Go.Proofs.Tryz.ntmps133, Go.Proofs.Tryz.results133]
  unfold f_scarfjointref07_Right at h
  obtain ⟨r523, hr523, h⟩ := thn_s h
  try simp -implicitDefEqProofs only [go_sem, reduceEqDiff, reduceLT, reduceLeDiff, reduceMul, reduceAdd, reduceIte, reduceCtorEq, Nat.reduceBEq, reduceSub, Int.reduceToNat, encEdge, encI]
  refine callG (w_scarfjointref07_ascending a1.nodes ((a0.nodes.length : Nat) : Int) r523 hr523) (by simp -implicitDefEqProofs only [go_sem, reduceEqDiff, reduceLT, reduceLeDiff, reduceMul, reduceAdd, reduceIte, reduceCtorEq, Nat.reduceBEq, reduceSub, Int.reduceToNat, encEdge, encI] <;> rfl) (pleL_refl _) (by first | exact pers | exact scal rfl) ?_
  try simp -implicitDefEqProofs only [go_sem, reduceEqDiff, reduceLT, reduceLeDiff, reduceMul, reduceAdd, reduceIte, reduceCtorEq, Nat.reduceBEq, reduceSub, Int.reduceToNat, encEdge, encI]
  refine condC_splitN (fun b524 => ?_) (fun b524 => ?_)
  · replace h := cond_t h b524
    obtain ⟨r525, hr525, h⟩ := thn_s h
    try simp -implicitDefEqProofs only [go_sem, reduceEqDiff, reduceLT, reduceLeDiff, reduceMul, reduceAdd, reduceIte, reduceCtorEq, Nat.reduceBEq, reduceSub, Int.reduceToNat, encEdge, encI, b524]
    refine callG (w_scarfjointref07_ascending a1.edges ((a0.edges.length : Nat) : Int) r525 hr525) (by simp -implicitDefEqProofs only [go_sem, reduceEqDiff, reduceLT, reduceLeDiff, reduceMul, reduceAdd, reduceIte, reduceCtorEq, Nat.reduceBEq, reduceSub, Int.reduceToNat, encEdge, encI, b524] <;> rfl) (pleL_refl _) (by first | exact pers | exact scal rfl) ?_
    try simp -implicitDefEqProofs only [go_sem, reduceEqDiff, reduceLT, reduceLeDiff, reduceMul, reduceAdd, reduceIte, reduceCtorEq, Nat.reduceBEq, reduceSub, Int.reduceToNat, encEdge, encI, b524]
    refine condC_splitN (fun b526 => ?_) (fun b526 => ?_)
    · replace h := cond_t h b526
      obtain ⟨fus544, h⟩ := chk_s h
      unfold fuel at fus544
      try simp -implicitDefEqProofs only [go_sem, reduceEqDiff, reduceLT, reduceLeDiff, reduceMul, reduceAdd, reduceIte, reduceCtorEq, Nat.reduceBEq, reduceSub, Int.reduceToNat, encEdge, encI, b524, b526]
      refine forN_go (fun x : (Nat × (Unit)) × (Unit) => envL [(2, .ptr 2 0), (3, .ptr 3 0), (7, .p (.val (.int .i64 ((x.1.1 : Nat) : Int))))]) (fun x => heapL [(2, .box [.p (.lst (a0.nodes.map encI)), .p (.lst (a0.edges.map encEdge))]), (3, .box [.p (.lst (a1.nodes.map encI)), .p (.lst (a1.edges.map encI))])]) () h (weakL (by simp -implicitDefEqProofs only [go_sem, reduceEqDiff, reduceLT, reduceLeDiff, reduceMul, reduceAdd, reduceIte, reduceCtorEq, Nat.reduceBEq, reduceSub, Int.reduceToNat, encEdge, encI, b524, b526] <;> ((repeat' apply And.intro) <;> rfl))) ?_ ?_
      · intro i544 s544 g544 nxts544 Rs544 his544 hNs544 h
        have hws544 := wrap_succ (k := i544) his544 (by omega)
        try dsimp only at h
        try simp -implicitDefEqProofs only [go_sem, reduceEqDiff, reduceLT, reduceLeDiff, reduceMul, reduceAdd, reduceIte, reduceCtorEq, Nat.reduceBEq, reduceSub, Int.reduceToNat, encEdge, encI, b524, b526, his544, hws544]
        refine draw_txt [.q, .q, .q, .q, .q, .q, .q, .q, .q, .w, .s] (by kernel_rfl) ?_
        obtain ⟨e551, c551, g551, q551, h⟩ := idx_s encI h
        obtain ⟨e552, c552a, c552b, g552, q552, h⟩ := atZ_s encEdge h
        obtain ⟨r553, hr553, h⟩ := thn_s h
        try simp -implicitDefEqProofs only [go_sem, reduceEqDiff, reduceLT, reduceLeDiff, reduceMul, reduceAdd, reduceIte, reduceCtorEq, Nat.reduceBEq, reduceSub, Int.reduceToNat, encEdge, encI, b524, b526, his544, hws544, c551, g551, c552a, c552b, g552]
        refine callG (w_scarfjointref07_has a1.nodes e552.src r553 hr553) (by simp -implicitDefEqProofs only [go_sem, reduceEqDiff, reduceLT, reduceLeDiff, reduceMul, reduceAdd, reduceIte, reduceCtorEq, Nat.reduceBEq, reduceSub, Int.reduceToNat, encEdge, encI, b524, b526, his544, hws544, c551, g551, c552a, c552b, g552] <;> rfl) (pleL_refl _) (by first | exact pers | exact scal rfl) ?_
        try simp -implicitDefEqProofs only [go_sem, reduceEqDiff, reduceLT, reduceLeDiff, reduceMul, reduceAdd, reduceIte, reduceCtorEq, Nat.reduceBEq, reduceSub, Int.reduceToNat, encEdge, encI, b524, b526, his544, hws544, c551, g551, c552a, c552b, g552]
        refine walkG_split (fun b554 => ?_) (fun b554 => ?_)
        · replace h := cond_t h b554
          obtain ⟨r555, hr555, h⟩ := thn_s h
          try simp -implicitDefEqProofs only [go_sem, reduceEqDiff, reduceLT, reduceLeDiff, reduceMul, reduceAdd, reduceIte, reduceCtorEq, Nat.reduceBEq, reduceSub, Int.reduceToNat, encEdge, encI, b524, b526, his544, hws544, c551, g551, c552a, c552b, g552, b554]
          refine callG (w_scarfjointref07_has a1.nodes e552.dst r555 hr555) (by simp -implicitDefEqProofs only [go_sem, reduceEqDiff, reduceLT, reduceLeDiff, reduceMul, reduceAdd, reduceIte, reduceCtorEq, Nat.reduceBEq, reduceSub, Int.reduceToNat, encEdge, encI, b524, b526, his544, hws544, c551, g551, c552a, c552b, g552, b554] <;> rfl) (pleL_refl _) (by first | exact pers | exact scal rfl) ?_
          try simp -implicitDefEqProofs only [go_sem, reduceEqDiff, reduceLT, reduceLeDiff, reduceMul, reduceAdd, reduceIte, reduceCtorEq, Nat.reduceBEq, reduceSub, Int.reduceToNat, encEdge, encI, b524, b526, his544, hws544, c551, g551, c552a, c552b, g552, b554]
          refine condC_splitN (fun b556 => ?_) (fun b556 => ?_)
          · replace h := cond_t h b556
            try simp -implicitDefEqProofs only [go_sem, reduceEqDiff, reduceLT, reduceLeDiff, reduceMul, reduceAdd, reduceIte, reduceCtorEq, Nat.reduceBEq, reduceSub, Int.reduceToNat, encEdge, encI, b524, b526, his544, hws544, c551, g551, c552a, c552b, g552, b554, b556]
            exact hNs544 () () h (weakL (by simp -implicitDefEqProofs only [go_sem, reduceEqDiff, reduceLT, reduceLeDiff, reduceMul, reduceAdd, reduceIte, reduceCtorEq, Nat.reduceBEq, reduceSub, Int.reduceToNat, encEdge, encI, b524, b526, his544, hws544, c551, g551, c552a, c552b, g552, b554, b556] <;> ((repeat' apply And.intro) <;> rfl)))
          · replace h := cond_f h b556
            cases h
            try simp -implicitDefEqProofs only [go_sem, reduceEqDiff, reduceLT, reduceLeDiff, reduceMul, reduceAdd, reduceIte, reduceCtorEq, Nat.reduceBEq, reduceSub, Int.reduceToNat, encEdge, encI, b524, b526, his544, hws544, c551, g551, c552a, c552b, g552, b554, b556]
            all_goals ((repeat' apply And.intro) <;> rfl)
        · replace h := cond_f h b554
          cases h
          try simp -implicitDefEqProofs only [go_sem, reduceEqDiff, reduceLT, reduceLeDiff, reduceMul, reduceAdd, reduceIte, reduceCtorEq, Nat.reduceBEq, reduceSub, Int.reduceToNat, encEdge, encI, b524, b526, his544, hws544, c551, g551, c552a, c552b, g552, b554]
          all_goals ((repeat' apply And.intro) <;> rfl)
      · intro i544 s544 g544 Rs544 hes544 h
        have hns544 : ¬ (i544 < a1.edges.length) := by omega
        try dsimp only at h
        cases h
        try simp -implicitDefEqProofs only [go_sem, reduceEqDiff, reduceLT, reduceLeDiff, reduceMul, reduceAdd, reduceIte, reduceCtorEq, Nat.reduceBEq, reduceSub, Int.reduceToNat, encEdge, encI, b524, b526, hns544]
        all_goals ((repeat' apply And.intro) <;> rfl)
    · replace h := cond_f h b526
      cases h
      try simp -implicitDefEqProofs only [go_sem, reduceEqDiff, reduceLT, reduceLeDiff, reduceMul, reduceAdd, reduceIte, reduceCtorEq, Nat.reduceBEq, reduceSub, Int.reduceToNat, encEdge, encI, b524, b526]
      all_goals ((repeat' apply And.intro) <;> rfl)
  · replace h := cond_f h b524
    cases h
    try simp -implicitDefEqProofs only [go_sem, reduceEqDiff, reduceLT, reduceLeDiff, reduceMul, reduceAdd, reduceIte, reduceCtorEq, Nat.reduceBEq, reduceSub, Int.reduceToNat, encEdge, encI, b524]
    all_goals ((repeat' apply And.intro) <;> rfl)


def f_scarfjointref07_Valid (a0 : Graph) (a1 : Part) : Option Int :=
  thn (f_scarfjointref05_Valid a0) fun r500 =>
  cond (decide (r500 = 0)) (
    thn (f_scarfjointref07_Right (⟨a0.nodes, a0.edges⟩ : Graph) (⟨a1.nodes, a1.edges⟩ : Part)) fun r557 =>
    some r557) <|
  some r500
set_option maxHeartbeats 4000000 in
theorem w_scarfjointref07_Valid (a0 : Graph) (a1 : Part) (r : Int) (h : f_scarfjointref07_Valid a0 a1 = some r) : CallV Go.Proofs.Tryz.prog 100 [.agg [.lst (a0.nodes.map encI), .lst (a0.edges.map encEdge)], .agg [.lst (a1.nodes.map encI), .lst (a1.edges.map encI)]] (fun v => v = .val (.int .i64 r)) := by
  refine CallV.ple ?_
  refine callV_of_cw [] Ty.mixed Go.Proofs.Tryz.func100 rfl (by kernel_rfl) (by simp [Go.Proofs.Tryz.ntmps100]) ?_; rw [Go.Proofs.Tryz.ntmps100, Go.Proofs.Tryz.results100]
  unfold f_scarfjointref07_Valid at h
  obtain ⟨r500, hr500, h⟩ := thn_s h
  try simp -implicitDefEqProofs only [go_sem, reduceEqDiff, reduceLT, reduceLeDiff, reduceMul, reduceAdd, reduceIte, reduceCtorEq, Nat.reduceBEq, reduceSub, Int.reduceToNat, encEdge, encI]
  refine callG (w_scarfjointref05_Valid a0 r500 hr500) (by simp -implicitDefEqProofs only [go_sem, reduceEqDiff, reduceLT, reduceLeDiff, reduceMul, reduceAdd, reduceIte, reduceCtorEq, Nat.reduceBEq, reduceSub, Int.reduceToNat, encEdge, encI] <;> rfl) (pleL_refl _) (by first | exact pers | exact scal rfl) ?_
  try simp -implicitDefEqProofs only [go_sem, reduceEqDiff, reduceLT, reduceLeDiff, reduceMul, reduceAdd, reduceIte, reduceCtorEq, Nat.reduceBEq, reduceSub, Int.reduceToNat, encEdge, encI]
  refine condC_splitN (fun b501 => ?_) (fun b501 => ?_)
  · replace h := cond_t h b501
    obtain ⟨r557, hr557, h⟩ := thn_s h
    try simp -implicitDefEqProofs only [go_sem, reduceEqDiff, reduceLT, reduceLeDiff, reduceMul, reduceAdd, reduceIte, reduceCtorEq, Nat.reduceBEq, reduceSub, Int.reduceToNat, encEdge, encI, b501]
    refine callG (w_scarfjointref07_Right (⟨a0.nodes, a0.edges⟩ : Graph) (⟨a1.nodes, a1.edges⟩ : Part) r557 hr557) (by simp -implicitDefEqProofs only [go_sem, reduceEqDiff, reduceLT, reduceLeDiff, reduceMul, reduceAdd, reduceIte, reduceCtorEq, Nat.reduceBEq, reduceSub, Int.reduceToNat, encEdge, encI, b501] <;> rfl) (pleL_refl _) (by first | exact pers | exact scal rfl) ?_
    cases h
    try simp -implicitDefEqProofs only [go_sem, reduceEqDiff, reduceLT, reduceLeDiff, reduceMul, reduceAdd, reduceIte, reduceCtorEq, Nat.reduceBEq, reduceSub, Int.reduceToNat, encEdge, encI, b501]
    all_goals ((repeat' apply And.intro) <;> rfl)
  · replace h := cond_f h b501
    cases h
    try simp -implicitDefEqProofs only [go_sem, reduceEqDiff, reduceLT, reduceLeDiff, reduceMul, reduceAdd, reduceIte, reduceCtorEq, Nat.reduceBEq, reduceSub, Int.reduceToNat, encEdge, encI, b501]
    all_goals ((repeat' apply And.intro) <;> rfl)


def f_scarfjointref07_index (a0 : List Int) (a1 : Int) : Option Int :=
  chk (a0.length ≤ fuel) <|
  forN (fun i625 (s625 : Unit) nxts625 brks625 =>
    thn (a0[i625]?) fun e628 =>
    cond (decide (e628 = a1)) (
      some ((i625 : Nat) : Int)) <|
    nxts625 ())
  (a0.length - 0) 0 () fun s625 =>
  some (-1)
set_option maxHeartbeats 4000000 in
theorem w_scarfjointref07_index (a0 : List Int) (a1 : Int) (r : Int) (h : f_scarfjointref07_index a0 a1 = some r) : CallV Go.Proofs.Tryz.prog 101 [.lst (a0.map encI), .val (.int .i64 a1)] (fun v => v = .val (.int .i64 r)) := by
  refine CallV.ple ?_
  refine callV_of_cw [] Ty.mixed Go.Proofs.Tryz.func101 rfl (by kernel_rfl) (by simp [Go.Proofs.Tryz.ntmps101]) ?_; rw [Go.Proofs.Tryz.ntmps101, Go.Proofs.Tryz.results101]
  unfold f_scarfjointref07_index at h
  obtain ⟨fus625, h⟩ := chk_s h
  unfold fuel at fus625
  try simp -implicitDefEqProofs only [go_sem, reduceEqDiff, reduceLT, reduceLeDiff, reduceMul, reduceAdd, reduceIte, reduceCtorEq, Nat.reduceBEq, reduceSub, Int.reduceToNat, encI]
  refine forN_go (fun x : (Nat × (Unit)) × (Unit) => envL [(0, .p (.lst (a0.map encI))), (1, .p (.val (.int .i64 a1))), (5, .p (.val (.int .i64 ((x.1.1 : Nat) : Int))))]) (fun x => heapL []) () h (weakL (by simp -implicitDefEqProofs only [go_sem, reduceEqDiff, reduceLT, reduceLeDiff, reduceMul, reduceAdd, reduceIte, reduceCtorEq, Nat.reduceBEq, reduceSub, Int.reduceToNat, encI] <;> ((repeat' apply And.intro) <;> rfl))) ?_ ?_
  · intro i625 s625 g625 nxts625 Rs625 his625 hNs625 h
    have hws625 := wrap_succ (k := i625) his625 (by omega)
    try dsimp only at h
    obtain ⟨e628, c628, g628, q628, h⟩ := idx_s encI h
    try simp -implicitDefEqProofs only [go_sem, reduceEqDiff, reduceLT, reduceLeDiff, reduceMul, reduceAdd, reduceIte, reduceCtorEq, Nat.reduceBEq, reduceSub, Int.reduceToNat, encI, his625, hws625, c628, g628]
    refine condC_split (fun b629 => ?_) (fun b629 => ?_)
    · replace h := cond_t h b629
      cases h
      try simp -implicitDefEqProofs only [go_sem, reduceEqDiff, reduceLT, reduceLeDiff, reduceMul, reduceAdd, reduceIte, reduceCtorEq, Nat.reduceBEq, reduceSub, Int.reduceToNat, encI, his625, hws625, c628, g628, b629]
      all_goals ((repeat' apply And.intro) <;> rfl)
    · replace h := cond_f h b629
      try simp -implicitDefEqProofs only [go_sem, reduceEqDiff, reduceLT, reduceLeDiff, reduceMul, reduceAdd, reduceIte, reduceCtorEq, Nat.reduceBEq, reduceSub, Int.reduceToNat, encI, his625, hws625, c628, g628, b629]
      exact hNs625 () () h (weakL (by simp -implicitDefEqProofs only [go_sem, reduceEqDiff, reduceLT, reduceLeDiff, reduceMul, reduceAdd, reduceIte, reduceCtorEq, Nat.reduceBEq, reduceSub, Int.reduceToNat, encI, his625, hws625, c628, g628, b629] <;> ((repeat' apply And.intro) <;> rfl)))
  · intro i625 s625 g625 Rs625 hes625 h
    have hns625 : ¬ (i625 < a0.length) := by omega
    try dsimp only at h
    cases h
    try simp -implicitDefEqProofs only [go_sem, reduceEqDiff, reduceLT, reduceLeDiff, reduceMul, reduceAdd, reduceIte, reduceCtorEq, Nat.reduceBEq, reduceSub, Int.reduceToNat, encI, hns625]
    all_goals ((repeat' apply And.intro) <;> rfl)


def f_scarfjointref07_Extract (a0 : Graph) (a1 : Part) : Option (Graph × T_Morphism × Int) :=
  thn (f_scarfjointref07_Valid a0 a1) fun r830 =>
  cond (decide (r830 = 0)) (
    chk (a1.nodes.length ≤ fuel) <|
    forN (fun i839 (s839 : (List Int)) nxts839 brks839 =>
      thn (a1.nodes[i839]?) fun e845 =>
      thn (atZ a0.nodes e845) fun e846 =>
      chk (s839.length + 1 ≤ 68719476736) <|
      nxts839 (s839 ++ [e846]))
    (a1.nodes.length - 0) 0 ([] : List Int) fun s839 =>
    chk (a1.edges.length ≤ fuel) <|
    forN (fun i859 (s859 : (List Edge)) nxts859 brks859 =>
      thn (a1.edges[i859]?) fun e867 =>
      thn (atZ a0.edges e867) fun e868 =>
      thn (f_scarfjointref07_index a1.nodes e868.src) fun r869 =>
      thn (f_scarfjointref07_index a1.nodes e868.dst) fun r870 =>
      chk (s859.length + 1 ≤ 68719476736) <|
      nxts859 (s859 ++ [(⟨e868.type, r869, r870⟩ : Edge)]))
    (a1.edges.length - 0) 0 ([] : List Edge) fun s859 =>
    chk (a1.nodes.length ≤ 68719476736) <|
    chk (a1.edges.length ≤ 68719476736) <|
    some ((⟨s839, s859⟩ : Graph), (⟨a1.nodes, a1.edges⟩ : T_Morphism), 0)) <|
  some ((⟨([] : List Int), ([] : List Edge)⟩ : Graph), (⟨([] : List Int), ([] : List Int)⟩ : T_Morphism), r830)
set_option maxHeartbeats 4000000 in
theorem w_scarfjointref07_Extract (a0 : Graph) (a1 : Part) (r : Graph × T_Morphism × Int) (h : f_scarfjointref07_Extract a0 a1 = some r) : CallF Go.Proofs.Tryz.prog 74 [.agg [.lst (a0.nodes.map encI), .lst (a0.edges.map encEdge)], .agg [.lst (a1.nodes.map encI), .lst (a1.edges.map encI)]] (fun v => v = .tup [.agg [.row 3 1 (r.1.nodes.map encI), .row 73 3 (r.1.edges.map encEdge)], .agg [.row 3 1 (r.2.1.nodes.map encI), .row 3 1 (r.2.1.edges.map encI)], .p (.val (.int .i64 r.2.2))]) := by
  refine CallF.rle ?_
  refine callF_of_cw [38, 39, 72, 73, 76, 79, 80, 83] Ty.mixed Go.Proofs.Tryz.func74 rfl (by kernel_rfl) (by simp [Go.Proofs.Tryz.ntmps74]) ?_; rw [Go.Proofs.Tryz.ntmps74, Go.Proofs.Tryz.results74]
  unfold f_scarfjointref07_Extract at h
  obtain ⟨r830, hr830, h⟩ := thn_s h
  try simp -implicitDefEqProofs only [go_sem, reduceEqDiff, reduceLT, reduceLeDiff, reduceMul, reduceAdd, reduceIte, reduceCtorEq, Nat.reduceBEq, reduceSub, Int.reduceToNat, encEdge, encI]
  refine callG (w_scarfjointref07_Valid a0 a1 r830 hr830) (by simp -implicitDefEqProofs only [go_sem, reduceEqDiff, reduceLT, reduceLeDiff, reduceMul, reduceAdd, reduceIte, reduceCtorEq, Nat.reduceBEq, reduceSub, Int.reduceToNat, encEdge, encI] <;> rfl) (pleL_refl _) (by first | exact pers | exact scal rfl) ?_
  try simp -implicitDefEqProofs only [go_sem, reduceEqDiff, reduceLT, reduceLeDiff, reduceMul, reduceAdd, reduceIte, reduceCtorEq, Nat.reduceBEq, reduceSub, Int.reduceToNat, encEdge, encI]
  refine condC_splitN (fun b831 => ?_) (fun b831 => ?_)
  · replace h := cond_t h b831
    obtain ⟨fus839, h⟩ := chk_s h
    unfold fuel at fus839
    try simp -implicitDefEqProofs only [go_sem, reduceEqDiff, reduceLT, reduceLeDiff, reduceMul, reduceAdd, reduceIte, reduceCtorEq, Nat.reduceBEq, reduceSub, Int.reduceToNat, encEdge, encI, b831]
    refine forN_go (fun x : (Nat × ((List Int))) × (Nat) => envL [(2, .ptr 2 0), (3, .ptr 3 0), (4, .ptr 4 0), (5, .ptr 5 0), (8, .ptr 8 0), (9, .p (.val (.int .i64 ((x.1.1 : Nat) : Int))))]) (fun x => heapL [(2, .box [.p (.lst (a0.nodes.map encI)), .p (.lst (a0.edges.map encEdge))]), (3, .box [.p (.lst (a1.nodes.map encI)), .p (.lst (a1.edges.map encI))]), (4, .box [.p (.val (.slice none 0 0)), .p (.val (.slice none 0 0))]), (5, .box [.p (.val (.slice none 0 0)), .p (.val (.slice none 0 0))]), (8, .box [.row 2837 x.2, .p (.val (.slice none 0 0))]), (2837, .row x.2 3 1 (x.1.2.map encI))]) 0 h (by refine Weak.trans (weak_nilbox 8 0 2837 3 1 _ rfl rfl rfl (by decide)) ?_; exact (weakL (by simp -implicitDefEqProofs only [go_sem, reduceEqDiff, reduceLT, reduceLeDiff, reduceMul, reduceAdd, reduceIte, reduceCtorEq, Nat.reduceBEq, reduceSub, Int.reduceToNat, encEdge, encI, b831] <;> ((repeat' apply And.intro) <;> rfl)))) ?_ ?_
    · intro i839 s839 g839 nxts839 Rs839 his839 hNs839 h
      have hws839 := wrap_succ (k := i839) his839 (by omega)
      try dsimp only at h
      try simp -implicitDefEqProofs only [go_sem, reduceEqDiff, reduceLT, reduceLeDiff, reduceMul, reduceAdd, reduceIte, reduceCtorEq, Nat.reduceBEq, reduceSub, Int.reduceToNat, encEdge, encI, b831, his839, hws839]
      refine draw_txt [.q, .q, .q, .q, .q, .q, .q, .q, .q, .q, .q, .w, .w, .q, .w] (by kernel_rfl) ?_
      obtain ⟨e845, c845, g845, q845, h⟩ := idx_s encI h
      obtain ⟨e846, c846a, c846b, g846, q846, h⟩ := atZ_s encI h
      obtain ⟨c847, h⟩ := chk_s h
      have k848 := eq_true (show (s839.length + 1) * 8 ≤ 140737488355328 by omega)
      have a849 := map_apps encI s839 [e846] (c := [[.val (.int .i64 e846)]]) rfl
      try simp -implicitDefEqProofs only [go_sem, reduceEqDiff, reduceLT, reduceLeDiff, reduceMul, reduceAdd, reduceIte, reduceCtorEq, Nat.reduceBEq, reduceSub, Int.reduceToNat, encEdge, encI, b831, his839, hws839, c845, g845, c846a, c846b, g846, c847, k848, a849]
      exact hNs839 (s839 ++ [e846]) (g839 + 1) h (weakL (by simp -implicitDefEqProofs only [go_sem, reduceEqDiff, reduceLT, reduceLeDiff, reduceMul, reduceAdd, reduceIte, reduceCtorEq, Nat.reduceBEq, reduceSub, Int.reduceToNat, encEdge, encI, b831, his839, hws839, c845, g845, c846a, c846b, g846, c847, k848, a849] <;> ((repeat' apply And.intro) <;> rfl)))
    · intro i839 s839 g839 Rs839 hes839 h
      have hns839 : ¬ (i839 < a1.nodes.length) := by omega
      try dsimp only at h
      obtain ⟨fus859, h⟩ := chk_s h
      unfold fuel at fus859
      try simp -implicitDefEqProofs only [go_sem, reduceEqDiff, reduceLT, reduceLeDiff, reduceMul, reduceAdd, reduceIte, reduceCtorEq, Nat.reduceBEq, reduceSub, Int.reduceToNat, encEdge, encI, b831, hns839]
      refine forN_go (fun x : (Nat × ((List Edge))) × (Nat) => envL [(2, .ptr 2 0), (3, .ptr 3 0), (4, .ptr 4 0), (5, .ptr 5 0), (8, .ptr 8 0), (10, .p (.val (.int .i64 ((x.1.1 : Nat) : Int))))]) (fun x => heapL [(2, .box [.p (.lst (a0.nodes.map encI)), .p (.lst (a0.edges.map encEdge))]), (3, .box [.p (.lst (a1.nodes.map encI)), .p (.lst (a1.edges.map encI))]), (4, .box [.p (.val (.slice none 0 0)), .p (.val (.slice none 0 0))]), (5, .box [.p (.val (.slice none 0 0)), .p (.val (.slice none 0 0))]), (8, .box [.row 2837 g839, .row 2857 x.2]), (2837, .row g839 3 1 (s839.map encI)), (2857, .row x.2 73 3 (x.1.2.map encEdge))]) 0 h (by refine Weak.trans (weak_nilbox 8 1 2857 73 3 _ rfl rfl rfl (by decide)) ?_; exact (weakL (by simp -implicitDefEqProofs only [go_sem, reduceEqDiff, reduceLT, reduceLeDiff, reduceMul, reduceAdd, reduceIte, reduceCtorEq, Nat.reduceBEq, reduceSub, Int.reduceToNat, encEdge, encI, b831, hns839] <;> ((repeat' apply And.intro) <;> rfl)))) ?_ ?_
      · intro i859 s859 g859 nxts859 Rs859 his859 hNs859 h
        have hws859 := wrap_succ (k := i859) his859 (by omega)
        try dsimp only at h
        try simp -implicitDefEqProofs only [go_sem, reduceEqDiff, reduceLT, reduceLeDiff, reduceMul, reduceAdd, reduceIte, reduceCtorEq, Nat.reduceBEq, reduceSub, Int.reduceToNat, encEdge, encI, b831, hns839, his859, hws859]
        refine draw_txt [.q, .q, .q, .q, .q, .q, .q, .q, .q, .w, .s] (by kernel_rfl) ?_
        obtain ⟨e867, c867, g867, q867, h⟩ := idx_s encI h
        obtain ⟨e868, c868a, c868b, g868, q868, h⟩ := atZ_s encEdge h
        try simp -implicitDefEqProofs only [go_sem, reduceEqDiff, reduceLT, reduceLeDiff, reduceMul, reduceAdd, reduceIte, reduceCtorEq, Nat.reduceBEq, reduceSub, Int.reduceToNat, encEdge, encI, b831, hns839, his859, hws859, c867, g867, c868a, c868b, g868]
        refine draw_txt [.q, .q, .q, .q, .q, .q, .q, .q, .q, .q, .q, .q, .q, .q, .q, .w, .w, .q, .w] (by kernel_rfl) ?_
        obtain ⟨r869, hr869, h⟩ := thn_s h
        try simp -implicitDefEqProofs only [go_sem, reduceEqDiff, reduceLT, reduceLeDiff, reduceMul, reduceAdd, reduceIte, reduceCtorEq, Nat.reduceBEq, reduceSub, Int.reduceToNat, encEdge, encI, b831, hns839, his859, hws859, c867, g867, c868a, c868b, g868]
        refine calldG (w_scarfjointref07_index a1.nodes e868.src r869 hr869) (by simp -implicitDefEqProofs only [go_sem, reduceEqDiff, reduceLT, reduceLeDiff, reduceMul, reduceAdd, reduceIte, reduceCtorEq, Nat.reduceBEq, reduceSub, Int.reduceToNat, encEdge, encI, b831, hns839, his859, hws859, c867, g867, c868a, c868b, g868] <;> rfl) (pleL_refl _) (by first | exact pers | exact scal rfl) ?_
        obtain ⟨r870, hr870, h⟩ := thn_s h
        try simp -implicitDefEqProofs only [go_sem, reduceEqDiff, reduceLT, reduceLeDiff, reduceMul, reduceAdd, reduceIte, reduceCtorEq, Nat.reduceBEq, reduceSub, Int.reduceToNat, encEdge, encI, b831, hns839, his859, hws859, c867, g867, c868a, c868b, g868]
        refine calldG (w_scarfjointref07_index a1.nodes e868.dst r870 hr870) (by simp -implicitDefEqProofs only [go_sem, reduceEqDiff, reduceLT, reduceLeDiff, reduceMul, reduceAdd, reduceIte, reduceCtorEq, Nat.reduceBEq, reduceSub, Int.reduceToNat, encEdge, encI, b831, hns839, his859, hws859, c867, g867, c868a, c868b, g868] <;> rfl) (pleL_refl _) (by first | exact pers | exact scal rfl) ?_
        obtain ⟨c871, h⟩ := chk_s h
        have k872 := eq_true (show (s859.length + 1) * 24 ≤ 140737488355328 by omega)
        have a873 := map_apps encEdge s859 [(⟨e868.type, r869, r870⟩ : Edge)] (c := [[.val (.int .i64 e868.type), .val (.int .i64 r869), .val (.int .i64 r870)]]) rfl
        try simp -implicitDefEqProofs only [go_sem, reduceEqDiff, reduceLT, reduceLeDiff, reduceMul, reduceAdd, reduceIte, reduceCtorEq, Nat.reduceBEq, reduceSub, Int.reduceToNat, encEdge, encI, b831, hns839, his859, hws859, c867, g867, c868a, c868b, g868, c871, k872, a873]
        exact hNs859 (s859 ++ [(⟨e868.type, r869, r870⟩ : Edge)]) (g859 + 1) h (weakL (by simp -implicitDefEqProofs only [go_sem, reduceEqDiff, reduceLT, reduceLeDiff, reduceMul, reduceAdd, reduceIte, reduceCtorEq, Nat.reduceBEq, reduceSub, Int.reduceToNat, encEdge, encI, b831, hns839, his859, hws859, c867, g867, c868a, c868b, g868, c871, k872, a873] <;> ((repeat' apply And.intro) <;> rfl)))
      · intro i859 s859 g859 Rs859 hes859 h
        have hns859 : ¬ (i859 < a1.edges.length) := by omega
        try dsimp only at h
        try simp -implicitDefEqProofs only [go_sem, reduceEqDiff, reduceLT, reduceLeDiff, reduceMul, reduceAdd, reduceIte, reduceCtorEq, Nat.reduceBEq, reduceSub, Int.reduceToNat, encEdge, encI, b831, hns839, hns859]
        refine draw_my [(0, .b), (2, .q), (3, .q), (6, .b), (7, .b), (1, .w), (4, .s), (5, .w), (8, .s), (9, .p), (10, .w), (11, .w), (12, .q)] (by kernel_rfl) ?_
        obtain ⟨c874, h⟩ := chk_s h
        have k875 := eq_true (show (a1.nodes.length) * 8 ≤ 140737488355328 by omega)
        have k876 := eq_true (map_len (n := 1) (f := encI) (fun _ => rfl) a1.nodes)
        obtain ⟨c877, h⟩ := chk_s h
        have k878 := eq_true (show (a1.edges.length) * 8 ≤ 140737488355328 by omega)
        have k879 := eq_true (map_len (n := 1) (f := encI) (fun _ => rfl) a1.edges)
        cases h
        try simp -implicitDefEqProofs only [go_sem, reduceEqDiff, reduceLT, reduceLeDiff, reduceMul, reduceAdd, reduceIte, reduceCtorEq, Nat.reduceBEq, reduceSub, Int.reduceToNat, encEdge, encI, b831, hns839, hns859, c874, k875, k876, c877, k878, k879]
        refine ⟨by decide, _, .refl _, ?_⟩
        simp -implicitDefEqProofs only [go_sem, reduceEqDiff, reduceLT, reduceLeDiff, reduceMul, reduceAdd, reduceIte, reduceCtorEq, Nat.reduceBEq, reduceSub, Int.reduceToNat, encEdge, encI, b831, hns839, hns859, c874, k875, k876, c877, k878, k879] <;> ((repeat' apply And.intro) <;> rfl)
  · replace h := cond_f h b831
    cases h
    try simp -implicitDefEqProofs only [go_sem, reduceEqDiff, reduceLT, reduceLeDiff, reduceMul, reduceAdd, reduceIte, reduceCtorEq, Nat.reduceBEq, reduceSub, Int.reduceToNat, encEdge, encI, b831]
    refine ⟨by decide, _, .refl _, ?_⟩
    simp -implicitDefEqProofs only [go_sem, reduceEqDiff, reduceLT, reduceLeDiff, reduceMul, reduceAdd, reduceIte, reduceCtorEq, Nat.reduceBEq, reduceSub, Int.reduceToNat, encEdge, encI, b831] <;> ((repeat' apply And.intro) <;> rfl)


def f_scarfjointref15_Extract (a0 : Types) (a1 : Host) (a2 : Part) : Option (Host × Int) :=
  thn (f_scarfjointref15_Valid a0 a1) fun r903 =>
  cond (decide (r903.2 = 0)) (
    thn (f_scarfjointref07_Extract a1.graph a2) fun r905 =>
    cond (decide (r905.2.2 = 0)) (
      chk (r905.2.1.nodes.length ≤ fuel) <|
      forN (fun i917 (s917 : (List (List Int))) nxts917 brks917 =>
        thn (r905.2.1.nodes[i917]?) fun e926 =>
        thn (atZ a1.values e926) fun e927 =>
        chk (e927.length ≤ 68719476736) <|
        chk (s917.length + 1 ≤ 68719476736) <|
        nxts917 (s917 ++ [e927]))
      (r905.2.1.nodes.length - 0) 0 ([] : List (List Int)) fun s917 =>
      some ((⟨r905.1, s917⟩ : Host), 0)) <|
    some ((⟨(⟨([] : List Int), ([] : List Edge)⟩ : Graph), ([] : List (List Int))⟩ : Host), r905.2.2)) <|
  some ((⟨(⟨([] : List Int), ([] : List Edge)⟩ : Graph), ([] : List (List Int))⟩ : Host), r903.2)
set_option maxHeartbeats 4000000 in
theorem w_scarfjointref15_Extract (a0 : Types) (a1 : Host) (a2 : Part) (r : Host × Int) (h : f_scarfjointref15_Extract a0 a1 a2 = some r) : CallF Go.Proofs.Tryz.prog 53 [.agg [.lst (a0.nodes.map encNode), .lst (a0.edges.map encEdgeT)], .agg [.lst (a1.graph.nodes.map encI), .lst (a1.graph.edges.map encEdge), .lst (a1.values.map encRow)], .agg [.lst (a2.nodes.map encI), .lst (a2.edges.map encI)]] (fun v => v = .tup [.agg [.row 3 1 (r.1.graph.nodes.map encI), .row 73 3 (r.1.graph.edges.map encEdge), .row 26 1 (r.1.values.map encRow)], .p (.val (.int .i64 r.2))]) := by
  refine CallF.rle ?_
  refine callF_of_cw [59, 60] Ty.mixed Go.Proofs.Tryz.func53 rfl (by kernel_rfl) (by simp [Go.Proofs.Tryz.ntmps53]) ?_; rw [Go.Proofs.Tryz.ntmps53, Go.Proofs.Tryz.results53]
  unfold f_scarfjointref15_Extract at h
  obtain ⟨r903, hr903, h⟩ := thn_s h
  try simp -implicitDefEqProofs only [go_sem, reduceEqDiff, reduceLT, reduceLeDiff, reduceMul, reduceAdd, reduceIte, reduceCtorEq, Nat.reduceBEq, reduceSub, Int.reduceToNat, encEdge, encEdgeT, encI, encInts, encNode, encRow, encStrs]
  refine callG (w_scarfjointref15_Valid a0 a1 r903 hr903) (by simp -implicitDefEqProofs only [go_sem, reduceEqDiff, reduceLT, reduceLeDiff, reduceMul, reduceAdd, reduceIte, reduceCtorEq, Nat.reduceBEq, reduceSub, Int.reduceToNat, encEdge, encEdgeT, encI, encInts, encNode, encRow, encStrs] <;> rfl) (pleL_refl _) (by first | exact pers | exact scal rfl) ?_
  try simp -implicitDefEqProofs only [go_sem, reduceEqDiff, reduceLT, reduceLeDiff, reduceMul, reduceAdd, reduceIte, reduceCtorEq, Nat.reduceBEq, reduceSub, Int.reduceToNat, encEdge, encEdgeT, encI, encInts, encNode, encRow, encStrs]
  refine condC_splitN (fun b904 => ?_) (fun b904 => ?_)
  · replace h := cond_t h b904
    obtain ⟨r905, hr905, h⟩ := thn_s h
    try simp -implicitDefEqProofs only [go_sem, reduceEqDiff, reduceLT, reduceLeDiff, reduceMul, reduceAdd, reduceIte, reduceCtorEq, Nat.reduceBEq, reduceSub, Int.reduceToNat, encEdge, encEdgeT, encI, encInts, encNode, encRow, encStrs, b904]
    refine callfG 1464 (w_scarfjointref07_Extract a1.graph a2 r905 hr905) (by simp -implicitDefEqProofs only [go_sem, reduceEqDiff, reduceLT, reduceLeDiff, reduceMul, reduceAdd, reduceIte, reduceCtorEq, Nat.reduceBEq, reduceSub, Int.reduceToNat, encEdge, encEdgeT, encI, encInts, encNode, encRow, encStrs, b904] <;> rfl) (pleL_refl _) (by first | exact persF | exact flatF rfl | exact flatF (by simp [RV.flat, RV.flatL, PV.scalar, isVal, encI, encEdge, encI, encI])) (by simp -implicitDefEqProofs only [go_sem, reduceEqDiff, reduceLT, reduceLeDiff, reduceMul, reduceAdd, reduceIte, reduceCtorEq, Nat.reduceBEq, reduceSub, Int.reduceToNat, encEdge, encEdgeT, encI, encInts, encNode, encRow, encStrs, b904]) ?_
    try simp -implicitDefEqProofs only [go_sem, reduceEqDiff, reduceLT, reduceLeDiff, reduceMul, reduceAdd, reduceIte, reduceCtorEq, Nat.reduceBEq, reduceSub, Int.reduceToNat, encEdge, encEdgeT, encI, encInts, encNode, encRow, encStrs, b904]
    refine condC_splitN (fun b906 => ?_) (fun b906 => ?_)
    · replace h := cond_t h b906
      obtain ⟨fus917, h⟩ := chk_s h
      unfold fuel at fus917
      try simp -implicitDefEqProofs only [go_sem, reduceEqDiff, reduceLT, reduceLeDiff, reduceMul, reduceAdd, reduceIte, reduceCtorEq, Nat.reduceBEq, reduceSub, Int.reduceToNat, encEdge, encEdgeT, encI, encInts, encNode, encRow, encStrs, b904, b906]
      refine forN_go (fun x : (Nat × ((List (List Int)))) × (Nat) => envL [(4, .ptr 4 0), (6, .ptr 6 0), (11, .ptr 11 0), (13, .ptr 13 0), (14, .p (.val (.int .i64 ((x.1.1 : Nat) : Int))))]) (fun x => heapL [(4, .box [.p (.lst (a1.graph.nodes.map encI)), .p (.lst (a1.graph.edges.map encEdge)), .p (.lst (a1.values.map encRow))]), (6, .box [.p (.val (.slice none 0 0)), .p (.val (.slice none 0 0)), .p (.val (.slice none 0 0))]), (11, .box [.row 1466 0, .row 1467 0]), (13, .box [.row 1464 0, .row 1465 0, .row 2915 x.2]), (1466, .row 0 3 1 (r905.2.1.nodes.map encI)), (1467, .row 0 3 1 (r905.2.1.edges.map encI)), (1464, .row 0 3 1 (r905.1.nodes.map encI)), (1465, .row 0 73 3 (r905.1.edges.map encEdge)), (2915, .row x.2 26 1 (x.1.2.map encRow))]) 0 h (by refine Weak.trans (weak_nilbox 13 2 2915 26 1 _ rfl rfl rfl (by decide)) ?_; exact (weakL (by simp -implicitDefEqProofs only [go_sem, reduceEqDiff, reduceLT, reduceLeDiff, reduceMul, reduceAdd, reduceIte, reduceCtorEq, Nat.reduceBEq, reduceSub, Int.reduceToNat, encEdge, encEdgeT, encI, encInts, encNode, encRow, encStrs, b904, b906] <;> ((repeat' apply And.intro) <;> rfl)))) ?_ ?_
      · intro i917 s917 g917 nxts917 Rs917 his917 hNs917 h
        have hws917 := wrap_succ (k := i917) his917 (by omega)
        try dsimp only at h
        try simp -implicitDefEqProofs only [go_sem, reduceEqDiff, reduceLT, reduceLeDiff, reduceMul, reduceAdd, reduceIte, reduceCtorEq, Nat.reduceBEq, reduceSub, Int.reduceToNat, encEdge, encEdgeT, encI, encInts, encNode, encRow, encStrs, b904, b906, his917, hws917]
        refine draw_my [(0, .p), (2, .p), (1, .b), (3, .q), (4, .q), (5, .q), (6, .q), (7, .q), (8, .q), (9, .q), (10, .q), (11, .q), (12, .w), (13, .w), (14, .w), (15, .q), (16, .w)] (by kernel_rfl) ?_
        obtain ⟨e926, c926, g926, q926, h⟩ := idx_s encI h
        obtain ⟨e927, c927a, c927b, g927, q927, h⟩ := atZ_s encRow h
        obtain ⟨c928, h⟩ := chk_s h
        have k929 := eq_true (show (e927.length) * 8 ≤ 140737488355328 by omega)
        have k930 := eq_true (map_len (n := 1) (f := encI) (fun _ => rfl) e927)
        obtain ⟨c931, h⟩ := chk_s h
        have k932 := eq_true (show (s917.length + 1) * 24 ≤ 140737488355328 by omega)
        have a933 := map_apps encRow s917 [e927] (c := [[.lst (e927.map encI)]]) rfl
        try simp -implicitDefEqProofs only [go_sem, reduceEqDiff, reduceLT, reduceLeDiff, reduceMul, reduceAdd, reduceIte, reduceCtorEq, Nat.reduceBEq, reduceSub, Int.reduceToNat, encEdge, encEdgeT, encI, encInts, encNode, encRow, encStrs, b904, b906, his917, hws917, c926, g926, c927a, c927b, g927, c928, k929, k930, c931, k932, a933]
        exact hNs917 (s917 ++ [e927]) (g917 + 1) h (weakL (by simp -implicitDefEqProofs only [go_sem, reduceEqDiff, reduceLT, reduceLeDiff, reduceMul, reduceAdd, reduceIte, reduceCtorEq, Nat.reduceBEq, reduceSub, Int.reduceToNat, encEdge, encEdgeT, encI, encInts, encNode, encRow, encStrs, b904, b906, his917, hws917, c926, g926, c927a, c927b, g927, c928, k929, k930, c931, k932, a933] <;> ((repeat' apply And.intro) <;> rfl)))
      · intro i917 s917 g917 Rs917 hes917 h
        have hns917 : ¬ (i917 < r905.2.1.nodes.length) := by omega
        try dsimp only at h
        cases h
        try simp -implicitDefEqProofs only [go_sem, reduceEqDiff, reduceLT, reduceLeDiff, reduceMul, reduceAdd, reduceIte, reduceCtorEq, Nat.reduceBEq, reduceSub, Int.reduceToNat, encEdge, encEdgeT, encI, encInts, encNode, encRow, encStrs, b904, b906, hns917]
        refine ⟨by decide, _, .refl _, ?_⟩
        simp -implicitDefEqProofs only [go_sem, reduceEqDiff, reduceLT, reduceLeDiff, reduceMul, reduceAdd, reduceIte, reduceCtorEq, Nat.reduceBEq, reduceSub, Int.reduceToNat, encEdge, encEdgeT, encI, encInts, encNode, encRow, encStrs, b904, b906, hns917] <;> ((repeat' apply And.intro) <;> rfl)
    · replace h := cond_f h b906
      cases h
      try simp -implicitDefEqProofs only [go_sem, reduceEqDiff, reduceLT, reduceLeDiff, reduceMul, reduceAdd, reduceIte, reduceCtorEq, Nat.reduceBEq, reduceSub, Int.reduceToNat, encEdge, encEdgeT, encI, encInts, encNode, encRow, encStrs, b904, b906]
      refine ⟨by decide, _, .refl _, ?_⟩
      simp -implicitDefEqProofs only [go_sem, reduceEqDiff, reduceLT, reduceLeDiff, reduceMul, reduceAdd, reduceIte, reduceCtorEq, Nat.reduceBEq, reduceSub, Int.reduceToNat, encEdge, encEdgeT, encI, encInts, encNode, encRow, encStrs, b904, b906] <;> ((repeat' apply And.intro) <;> rfl)
  · replace h := cond_f h b904
    cases h
    try simp -implicitDefEqProofs only [go_sem, reduceEqDiff, reduceLT, reduceLeDiff, reduceMul, reduceAdd, reduceIte, reduceCtorEq, Nat.reduceBEq, reduceSub, Int.reduceToNat, encEdge, encEdgeT, encI, encInts, encNode, encRow, encStrs, b904]
    refine ⟨by decide, _, .refl _, ?_⟩
    simp -implicitDefEqProofs only [go_sem, reduceEqDiff, reduceLT, reduceLeDiff, reduceMul, reduceAdd, reduceIte, reduceCtorEq, Nat.reduceBEq, reduceSub, Int.reduceToNat, encEdge, encEdgeT, encI, encInts, encNode, encRow, encStrs, b904] <;> ((repeat' apply And.intro) <;> rfl)


def f_scarfjointref52_Side (a0 : Types) (a1 : Sorts) (a2 : Host) (a3 : Int) : Option (Host × Part × Int) :=
  thn (f_scarfjointref52_Valid a0 a1 a2) fun r935 =>
  cond (decide (r935 = 0)) (
    cond (decide (a3 = 1)) (
      thn (f_scarfjointref52_Part a1 a2.graph a3) fun r938 =>
      thn (f_scarfjointref15_Extract a0 a2 r938) fun r939 =>
      some (r939.1, r938, r939.2)) <|
    cond (decide (a3 = 3)) (
      thn (f_scarfjointref52_Part a1 a2.graph a3) fun r941 =>
      thn (f_scarfjointref15_Extract a0 a2 r941) fun r942 =>
      some (r942.1, r941, r942.2)) <|
    some ((⟨(⟨([] : List Int), ([] : List Edge)⟩ : Graph), ([] : List (List Int))⟩ : Host), (⟨([] : List Int), ([] : List Int)⟩ : Part), 6)) <|
  some ((⟨(⟨([] : List Int), ([] : List Edge)⟩ : Graph), ([] : List (List Int))⟩ : Host), (⟨([] : List Int), ([] : List Int)⟩ : Part), r935)
set_option maxHeartbeats 4000000 in
theorem w_scarfjointref52_Side (a0 : Types) (a1 : Sorts) (a2 : Host) (a3 : Int) (r : Host × Part × Int) (h : f_scarfjointref52_Side a0 a1 a2 a3 = some r) : CallF Go.Proofs.Tryz.prog 21 [.agg [.lst (a0.nodes.map encNode), .lst (a0.edges.map encEdgeT)], .agg [.lst (a1.nodes.map encI), .lst (a1.edges.map encI)], .agg [.lst (a2.graph.nodes.map encI), .lst (a2.graph.edges.map encEdge), .lst (a2.values.map encRow)], .val (.int .i64 a3)] (fun v => v = .tup [.agg [.row 3 1 (r.1.graph.nodes.map encI), .row 73 3 (r.1.graph.edges.map encEdge), .row 26 1 (r.1.values.map encRow)], .agg [.p (.lst (r.2.1.nodes.map encI)), .p (.lst (r.2.1.edges.map encI))], .p (.val (.int .i64 r.2.2))]) := by
  refine CallF.rle ?_
  refine callF_of_cw [2000008] Ty.mixed Go.Proofs.Tryz.func21 rfl (by kernel_rfl) (by simp [Go.Proofs.Tryz.ntmps21]) ?_; rw [Go.Proofs.Tryz.ntmps21, Go.Proofs.Tryz.results21]
  unfold f_scarfjointref52_Side at h
  obtain ⟨r935, hr935, h⟩ := thn_s h
  try simp -implicitDefEqProofs only [go_sem, reduceEqDiff, reduceLT, reduceLeDiff, reduceMul, reduceAdd, reduceIte, reduceCtorEq, Nat.reduceBEq, reduceSub, Int.reduceToNat, encEdge, encEdgeT, encI, encInts, encNode, encRow, encStrs]
  refine callG (w_scarfjointref52_Valid a0 a1 a2 r935 hr935) (by simp -implicitDefEqProofs only [go_sem, reduceEqDiff, reduceLT, reduceLeDiff, reduceMul, reduceAdd, reduceIte, reduceCtorEq, Nat.reduceBEq, reduceSub, Int.reduceToNat, encEdge, encEdgeT, encI, encInts, encNode, encRow, encStrs] <;> rfl) (pleL_refl _) (by first | exact pers | exact scal rfl) ?_
  try simp -implicitDefEqProofs only [go_sem, reduceEqDiff, reduceLT, reduceLeDiff, reduceMul, reduceAdd, reduceIte, reduceCtorEq, Nat.reduceBEq, reduceSub, Int.reduceToNat, encEdge, encEdgeT, encI, encInts, encNode, encRow, encStrs]
  refine condC_splitN (fun b936 => ?_) (fun b936 => ?_)
  · replace h := cond_t h b936
    try simp -implicitDefEqProofs only [go_sem, reduceEqDiff, reduceLT, reduceLeDiff, reduceMul, reduceAdd, reduceIte, reduceCtorEq, Nat.reduceBEq, reduceSub, Int.reduceToNat, encEdge, encEdgeT, encI, encInts, encNode, encRow, encStrs, b936]
    refine walkG_splitN (fun b937 => ?_) (fun b937 => ?_)
    · replace h := cond_t h b937
      obtain ⟨r938, hr938, h⟩ := thn_s h
      try simp -implicitDefEqProofs only [go_sem, reduceEqDiff, reduceLT, reduceLeDiff, reduceMul, reduceAdd, reduceIte, reduceCtorEq, Nat.reduceBEq, reduceSub, Int.reduceToNat, encEdge, encEdgeT, encI, encInts, encNode, encRow, encStrs, b936, b937]
      refine callG (w_scarfjointref52_Part a1 a2.graph a3 r938 hr938) (by simp -implicitDefEqProofs only [go_sem, reduceEqDiff, reduceLT, reduceLeDiff, reduceMul, reduceAdd, reduceIte, reduceCtorEq, Nat.reduceBEq, reduceSub, Int.reduceToNat, encEdge, encEdgeT, encI, encInts, encNode, encRow, encStrs, b936, b937] <;> rfl) (pleL_refl _) (by first | exact pers | exact scal rfl) ?_
      obtain ⟨r939, hr939, h⟩ := thn_s h
      try simp -implicitDefEqProofs only [go_sem, reduceEqDiff, reduceLT, reduceLeDiff, reduceMul, reduceAdd, reduceIte, reduceCtorEq, Nat.reduceBEq, reduceSub, Int.reduceToNat, encEdge, encEdgeT, encI, encInts, encNode, encRow, encStrs, b936, b937]
      refine callfG 1656 (w_scarfjointref15_Extract a0 a2 r938 r939 hr939) (by simp -implicitDefEqProofs only [go_sem, reduceEqDiff, reduceLT, reduceLeDiff, reduceMul, reduceAdd, reduceIte, reduceCtorEq, Nat.reduceBEq, reduceSub, Int.reduceToNat, encEdge, encEdgeT, encI, encInts, encNode, encRow, encStrs, b936, b937] <;> rfl) (pleL_refl _) (by first | exact persF | exact flatF rfl | exact flatF (by simp [RV.flat, RV.flatL, PV.scalar, isVal, encI, encEdge, encRow])) (by simp -implicitDefEqProofs only [go_sem, reduceEqDiff, reduceLT, reduceLeDiff, reduceMul, reduceAdd, reduceIte, reduceCtorEq, Nat.reduceBEq, reduceSub, Int.reduceToNat, encEdge, encEdgeT, encI, encInts, encNode, encRow, encStrs, b936, b937]) ?_
      try simp -implicitDefEqProofs only [go_sem, reduceEqDiff, reduceLT, reduceLeDiff, reduceMul, reduceAdd, reduceIte, reduceCtorEq, Nat.reduceBEq, reduceSub, Int.reduceToNat, encEdge, encEdgeT, encI, encInts, encNode, encRow, encStrs, b936, b937]
      refine draw_txt [.q, .o, .p, .s, .w, .q] (by kernel_rfl) ?_
      cases h
      try simp -implicitDefEqProofs only [go_sem, reduceEqDiff, reduceLT, reduceLeDiff, reduceMul, reduceAdd, reduceIte, reduceCtorEq, Nat.reduceBEq, reduceSub, Int.reduceToNat, encEdge, encEdgeT, encI, encInts, encNode, encRow, encStrs, b936, b937]
      refine ⟨by decide, _, .refl _, ?_⟩
      simp -implicitDefEqProofs only [go_sem, reduceEqDiff, reduceLT, reduceLeDiff, reduceMul, reduceAdd, reduceIte, reduceCtorEq, Nat.reduceBEq, reduceSub, Int.reduceToNat, encEdge, encEdgeT, encI, encInts, encNode, encRow, encStrs, b936, b937] <;> ((repeat' apply And.intro) <;> rfl)
    · replace h := cond_f h b937
      try simp -implicitDefEqProofs only [go_sem, reduceEqDiff, reduceLT, reduceLeDiff, reduceMul, reduceAdd, reduceIte, reduceCtorEq, Nat.reduceBEq, reduceSub, Int.reduceToNat, encEdge, encEdgeT, encI, encInts, encNode, encRow, encStrs, b936, b937]
      refine condC_splitN (fun b940 => ?_) (fun b940 => ?_)
      · replace h := cond_t h b940
        obtain ⟨r941, hr941, h⟩ := thn_s h
        try simp -implicitDefEqProofs only [go_sem, reduceEqDiff, reduceLT, reduceLeDiff, reduceMul, reduceAdd, reduceIte, reduceCtorEq, Nat.reduceBEq, reduceSub, Int.reduceToNat, encEdge, encEdgeT, encI, encInts, encNode, encRow, encStrs, b936, b937, b940]
        refine callG (w_scarfjointref52_Part a1 a2.graph a3 r941 hr941) (by simp -implicitDefEqProofs only [go_sem, reduceEqDiff, reduceLT, reduceLeDiff, reduceMul, reduceAdd, reduceIte, reduceCtorEq, Nat.reduceBEq, reduceSub, Int.reduceToNat, encEdge, encEdgeT, encI, encInts, encNode, encRow, encStrs, b936, b937, b940] <;> rfl) (pleL_refl _) (by first | exact pers | exact scal rfl) ?_
        obtain ⟨r942, hr942, h⟩ := thn_s h
        try simp -implicitDefEqProofs only [go_sem, reduceEqDiff, reduceLT, reduceLeDiff, reduceMul, reduceAdd, reduceIte, reduceCtorEq, Nat.reduceBEq, reduceSub, Int.reduceToNat, encEdge, encEdgeT, encI, encInts, encNode, encRow, encStrs, b936, b937, b940]
        refine callfG 1656 (w_scarfjointref15_Extract a0 a2 r941 r942 hr942) (by simp -implicitDefEqProofs only [go_sem, reduceEqDiff, reduceLT, reduceLeDiff, reduceMul, reduceAdd, reduceIte, reduceCtorEq, Nat.reduceBEq, reduceSub, Int.reduceToNat, encEdge, encEdgeT, encI, encInts, encNode, encRow, encStrs, b936, b937, b940] <;> rfl) (pleL_refl _) (by first | exact persF | exact flatF rfl | exact flatF (by simp [RV.flat, RV.flatL, PV.scalar, isVal, encI, encEdge, encRow])) (by simp -implicitDefEqProofs only [go_sem, reduceEqDiff, reduceLT, reduceLeDiff, reduceMul, reduceAdd, reduceIte, reduceCtorEq, Nat.reduceBEq, reduceSub, Int.reduceToNat, encEdge, encEdgeT, encI, encInts, encNode, encRow, encStrs, b936, b937, b940]) ?_
        try simp -implicitDefEqProofs only [go_sem, reduceEqDiff, reduceLT, reduceLeDiff, reduceMul, reduceAdd, reduceIte, reduceCtorEq, Nat.reduceBEq, reduceSub, Int.reduceToNat, encEdge, encEdgeT, encI, encInts, encNode, encRow, encStrs, b936, b937, b940]
        refine draw_txt [.q, .o, .p, .s, .w, .q] (by kernel_rfl) ?_
        cases h
        try simp -implicitDefEqProofs only [go_sem, reduceEqDiff, reduceLT, reduceLeDiff, reduceMul, reduceAdd, reduceIte, reduceCtorEq, Nat.reduceBEq, reduceSub, Int.reduceToNat, encEdge, encEdgeT, encI, encInts, encNode, encRow, encStrs, b936, b937, b940]
        refine ⟨by decide, _, .refl _, ?_⟩
        simp -implicitDefEqProofs only [go_sem, reduceEqDiff, reduceLT, reduceLeDiff, reduceMul, reduceAdd, reduceIte, reduceCtorEq, Nat.reduceBEq, reduceSub, Int.reduceToNat, encEdge, encEdgeT, encI, encInts, encNode, encRow, encStrs, b936, b937, b940] <;> ((repeat' apply And.intro) <;> rfl)
      · replace h := cond_f h b940
        cases h
        try simp -implicitDefEqProofs only [go_sem, reduceEqDiff, reduceLT, reduceLeDiff, reduceMul, reduceAdd, reduceIte, reduceCtorEq, Nat.reduceBEq, reduceSub, Int.reduceToNat, encEdge, encEdgeT, encI, encInts, encNode, encRow, encStrs, b936, b937, b940]
        refine ⟨by decide, _, .refl _, ?_⟩
        simp -implicitDefEqProofs only [go_sem, reduceEqDiff, reduceLT, reduceLeDiff, reduceMul, reduceAdd, reduceIte, reduceCtorEq, Nat.reduceBEq, reduceSub, Int.reduceToNat, encEdge, encEdgeT, encI, encInts, encNode, encRow, encStrs, b936, b937, b940] <;> ((repeat' apply And.intro) <;> rfl)
  · replace h := cond_f h b936
    cases h
    try simp -implicitDefEqProofs only [go_sem, reduceEqDiff, reduceLT, reduceLeDiff, reduceMul, reduceAdd, reduceIte, reduceCtorEq, Nat.reduceBEq, reduceSub, Int.reduceToNat, encEdge, encEdgeT, encI, encInts, encNode, encRow, encStrs, b936]
    refine ⟨by decide, _, .refl _, ?_⟩
    simp -implicitDefEqProofs only [go_sem, reduceEqDiff, reduceLT, reduceLeDiff, reduceMul, reduceAdd, reduceIte, reduceCtorEq, Nat.reduceBEq, reduceSub, Int.reduceToNat, encEdge, encEdgeT, encI, encInts, encNode, encRow, encStrs, b936] <;> ((repeat' apply And.intro) <;> rfl)


def f_scarfjointref05_SameInts (a0 : List Int) (a1 : List Int) : Option Bool :=
  cond (decide (((a0.length : Nat) : Int) = ((a1.length : Nat) : Int))) (
    chk (a0.length ≤ fuel) <|
    forN (fun i954 (s954 : Unit) nxts954 brks954 =>
      thn (a0[i954]?) fun e958 =>
      thn (a1[i954]?) fun e959 =>
      cond (decide (e958 = e959)) (
        nxts954 ()) <|
      some false)
    (a0.length - 0) 0 () fun s954 =>
    some true) <|
  some false
set_option maxHeartbeats 4000000 in
theorem w_scarfjointref05_SameInts (a0 : List Int) (a1 : List Int) (r : Bool) (h : f_scarfjointref05_SameInts a0 a1 = some r) : CallV Go.Proofs.Tryz.prog 41 [.lst (a0.map encI), .lst (a1.map encI)] (fun v => v = .val (.bool r)) := by
  refine CallV.ple ?_
  refine callV_of_cw [] Ty.mixed Go.Proofs.Tryz.func41 rfl (by kernel_rfl) (by simp [Go.Proofs.Tryz.ntmps41]) ?_; rw [Go.Proofs.Tryz.ntmps41, Go.Proofs.Tryz.results41]
  unfold f_scarfjointref05_SameInts at h
  try simp -implicitDefEqProofs only [go_sem, reduceEqDiff, reduceLT, reduceLeDiff, reduceMul, reduceAdd, reduceIte, reduceCtorEq, Nat.reduceBEq, reduceSub, Int.reduceToNat, encI]
  refine condC_splitN (fun b948 => ?_) (fun b948 => ?_)
  · replace h := cond_t h b948
    obtain ⟨fus954, h⟩ := chk_s h
    unfold fuel at fus954
    try simp -implicitDefEqProofs only [go_sem, reduceEqDiff, reduceLT, reduceLeDiff, reduceMul, reduceAdd, reduceIte, reduceCtorEq, Nat.reduceBEq, reduceSub, Int.reduceToNat, encI, b948]
    refine forN_go (fun x : (Nat × (Unit)) × (Unit) => envL [(0, .p (.lst (a0.map encI))), (1, .p (.lst (a1.map encI))), (5, .p (.val (.int .i64 ((x.1.1 : Nat) : Int))))]) (fun x => heapL []) () h (weakL (by simp -implicitDefEqProofs only [go_sem, reduceEqDiff, reduceLT, reduceLeDiff, reduceMul, reduceAdd, reduceIte, reduceCtorEq, Nat.reduceBEq, reduceSub, Int.reduceToNat, encI, b948] <;> ((repeat' apply And.intro) <;> rfl))) ?_ ?_
    · intro i954 s954 g954 nxts954 Rs954 his954 hNs954 h
      have hws954 := wrap_succ (k := i954) his954 (by omega)
      try dsimp only at h
      try simp -implicitDefEqProofs only [go_sem, reduceEqDiff, reduceLT, reduceLeDiff, reduceMul, reduceAdd, reduceIte, reduceCtorEq, Nat.reduceBEq, reduceSub, Int.reduceToNat, encI, b948, his954, hws954]
      refine draw_txt [.q, .q, .q, .q, .q, .q, .q, .q, .q] (by kernel_rfl) ?_
      obtain ⟨e958, c958, g958, q958, h⟩ := idx_s encI h
      obtain ⟨e959, c959, g959, q959, h⟩ := idx_s encI h
      try simp -implicitDefEqProofs only [go_sem, reduceEqDiff, reduceLT, reduceLeDiff, reduceMul, reduceAdd, reduceIte, reduceCtorEq, Nat.reduceBEq, reduceSub, Int.reduceToNat, encI, b948, his954, hws954, c958, g958, c959, g959]
      refine condC_splitN (fun b960 => ?_) (fun b960 => ?_)
      · replace h := cond_t h b960
        try simp -implicitDefEqProofs only [go_sem, reduceEqDiff, reduceLT, reduceLeDiff, reduceMul, reduceAdd, reduceIte, reduceCtorEq, Nat.reduceBEq, reduceSub, Int.reduceToNat, encI, b948, his954, hws954, c958, g958, c959, g959, b960]
        exact hNs954 () () h (weakL (by simp -implicitDefEqProofs only [go_sem, reduceEqDiff, reduceLT, reduceLeDiff, reduceMul, reduceAdd, reduceIte, reduceCtorEq, Nat.reduceBEq, reduceSub, Int.reduceToNat, encI, b948, his954, hws954, c958, g958, c959, g959, b960] <;> ((repeat' apply And.intro) <;> rfl)))
      · replace h := cond_f h b960
        cases h
        try simp -implicitDefEqProofs only [go_sem, reduceEqDiff, reduceLT, reduceLeDiff, reduceMul, reduceAdd, reduceIte, reduceCtorEq, Nat.reduceBEq, reduceSub, Int.reduceToNat, encI, b948, his954, hws954, c958, g958, c959, g959, b960]
        all_goals ((repeat' apply And.intro) <;> rfl)
    · intro i954 s954 g954 Rs954 hes954 h
      have hns954 : ¬ (i954 < a0.length) := by omega
      try dsimp only at h
      cases h
      try simp -implicitDefEqProofs only [go_sem, reduceEqDiff, reduceLT, reduceLeDiff, reduceMul, reduceAdd, reduceIte, reduceCtorEq, Nat.reduceBEq, reduceSub, Int.reduceToNat, encI, b948, hns954]
      all_goals ((repeat' apply And.intro) <;> rfl)
  · replace h := cond_f h b948
    cases h
    try simp -implicitDefEqProofs only [go_sem, reduceEqDiff, reduceLT, reduceLeDiff, reduceMul, reduceAdd, reduceIte, reduceCtorEq, Nat.reduceBEq, reduceSub, Int.reduceToNat, encI, b948]
    all_goals ((repeat' apply And.intro) <;> rfl)


def f_scarfjointref05_Same (a0 : Graph) (a1 : Graph) : Option Bool :=
  thn (f_scarfjointref05_SameInts a0.nodes a1.nodes) fun r961 =>
  cond r961 (
    cond (decide (((a0.edges.length : Nat) : Int) = ((a1.edges.length : Nat) : Int))) (
      chk (a0.edges.length ≤ fuel) <|
      forN (fun i969 (s969 : Unit) nxts969 brks969 =>
        thn (a0.edges[i969]?) fun e973 =>
        thn (a1.edges[i969]?) fun e974 =>
        cond (decide (e973.type = e974.type) && (decide (e973.src = e974.src) && decide (e973.dst = e974.dst))) (
          nxts969 ()) <|
        some false)
      (a0.edges.length - 0) 0 () fun s969 =>
      some true) <|
    some false) <|
  some false
set_option maxHeartbeats 4000000 in
theorem w_scarfjointref05_Same (a0 : Graph) (a1 : Graph) (r : Bool) (h : f_scarfjointref05_Same a0 a1 = some r) : CallV Go.Proofs.Tryz.prog 49 [.agg [.lst (a0.nodes.map encI), .lst (a0.edges.map encEdge)], .agg [.lst (a1.nodes.map encI), .lst (a1.edges.map encEdge)]] (fun v => v = .val (.bool r)) := by
  refine CallV.ple ?_
  refine callV_of_cw [] Ty.mixed Go.Proofs.Tryz.func49 rfl (by kernel_rfl) (by simp [Go.Proofs.Tryz.ntmps49]) ?_; rw [Go.Proofs.Tryz.ntmps49, Go.Proofs.Tryz.results49]
  unfold f_scarfjointref05_Same at h
  obtain ⟨r961, hr961, h⟩ := thn_s h
  try simp -implicitDefEqProofs only [go_sem, reduceEqDiff, reduceLT, reduceLeDiff, reduceMul, reduceAdd, reduceIte, reduceCtorEq, Nat.reduceBEq, reduceSub, Int.reduceToNat, encEdge, encI]
  refine callG (w_scarfjointref05_SameInts a0.nodes a1.nodes r961 hr961) (by simp -implicitDefEqProofs only [go_sem, reduceEqDiff, reduceLT, reduceLeDiff, reduceMul, reduceAdd, reduceIte, reduceCtorEq, Nat.reduceBEq, reduceSub, Int.reduceToNat, encEdge, encI] <;> rfl) (pleL_refl _) (by first | exact pers | exact scal rfl) ?_
  try simp -implicitDefEqProofs only [go_sem, reduceEqDiff, reduceLT, reduceLeDiff, reduceMul, reduceAdd, reduceIte, reduceCtorEq, Nat.reduceBEq, reduceSub, Int.reduceToNat, encEdge, encI]
  refine walkG_split (fun b962 => ?_) (fun b962 => ?_)
  · replace h := cond_t h b962
    try simp -implicitDefEqProofs only [go_sem, reduceEqDiff, reduceLT, reduceLeDiff, reduceMul, reduceAdd, reduceIte, reduceCtorEq, Nat.reduceBEq, reduceSub, Int.reduceToNat, encEdge, encI, b962]
    refine condC_splitN (fun b963 => ?_) (fun b963 => ?_)
    · replace h := cond_t h b963
      obtain ⟨fus969, h⟩ := chk_s h
      unfold fuel at fus969
      try simp -implicitDefEqProofs only [go_sem, reduceEqDiff, reduceLT, reduceLeDiff, reduceMul, reduceAdd, reduceIte, reduceCtorEq, Nat.reduceBEq, reduceSub, Int.reduceToNat, encEdge, encI, b962, b963]
      refine forN_go (fun x : (Nat × (Unit)) × (Unit) => envL [(2, .ptr 2 0), (3, .ptr 3 0), (5, .p (.val (.int .i64 ((x.1.1 : Nat) : Int))))]) (fun x => heapL [(2, .box [.p (.lst (a0.nodes.map encI)), .p (.lst (a0.edges.map encEdge))]), (3, .box [.p (.lst (a1.nodes.map encI)), .p (.lst (a1.edges.map encEdge))])]) () h (weakL (by simp -implicitDefEqProofs only [go_sem, reduceEqDiff, reduceLT, reduceLeDiff, reduceMul, reduceAdd, reduceIte, reduceCtorEq, Nat.reduceBEq, reduceSub, Int.reduceToNat, encEdge, encI, b962, b963] <;> ((repeat' apply And.intro) <;> rfl))) ?_ ?_
      · intro i969 s969 g969 nxts969 Rs969 his969 hNs969 h
        have hws969 := wrap_succ (k := i969) his969 (by omega)
        try dsimp only at h
        try simp -implicitDefEqProofs only [go_sem, reduceEqDiff, reduceLT, reduceLeDiff, reduceMul, reduceAdd, reduceIte, reduceCtorEq, Nat.reduceBEq, reduceSub, Int.reduceToNat, encEdge, encI, b962, b963, his969, hws969]
        refine draw_txt [.q, .q, .q, .q, .q, .q, .q, .q, .q, .q, .q] (by kernel_rfl) ?_
        obtain ⟨e973, c973, g973, q973, h⟩ := idx_s encEdge h
        obtain ⟨e974, c974, g974, q974, h⟩ := idx_s encEdge h
        try simp -implicitDefEqProofs only [go_sem, reduceEqDiff, reduceLT, reduceLeDiff, reduceMul, reduceAdd, reduceIte, reduceCtorEq, Nat.reduceBEq, reduceSub, Int.reduceToNat, encEdge, encI, b962, b963, his969, hws969, c973, g973, c974, g974]
        refine condC_splitN (fun b975 => ?_) (fun b975 => ?_)
        · replace h := cond_t h b975
          try simp -implicitDefEqProofs only [go_sem, reduceEqDiff, reduceLT, reduceLeDiff, reduceMul, reduceAdd, reduceIte, reduceCtorEq, Nat.reduceBEq, reduceSub, Int.reduceToNat, encEdge, encI, b962, b963, his969, hws969, c973, g973, c974, g974, b975]
          exact hNs969 () () h (weakL (by simp -implicitDefEqProofs only [go_sem, reduceEqDiff, reduceLT, reduceLeDiff, reduceMul, reduceAdd, reduceIte, reduceCtorEq, Nat.reduceBEq, reduceSub, Int.reduceToNat, encEdge, encI, b962, b963, his969, hws969, c973, g973, c974, g974, b975] <;> ((repeat' apply And.intro) <;> rfl)))
        · replace h := cond_f h b975
          cases h
          try simp -implicitDefEqProofs only [go_sem, reduceEqDiff, reduceLT, reduceLeDiff, reduceMul, reduceAdd, reduceIte, reduceCtorEq, Nat.reduceBEq, reduceSub, Int.reduceToNat, encEdge, encI, b962, b963, his969, hws969, c973, g973, c974, g974, b975]
          all_goals ((repeat' apply And.intro) <;> rfl)
      · intro i969 s969 g969 Rs969 hes969 h
        have hns969 : ¬ (i969 < a0.edges.length) := by omega
        try dsimp only at h
        cases h
        try simp -implicitDefEqProofs only [go_sem, reduceEqDiff, reduceLT, reduceLeDiff, reduceMul, reduceAdd, reduceIte, reduceCtorEq, Nat.reduceBEq, reduceSub, Int.reduceToNat, encEdge, encI, b962, b963, hns969]
        all_goals ((repeat' apply And.intro) <;> rfl)
    · replace h := cond_f h b963
      cases h
      try simp -implicitDefEqProofs only [go_sem, reduceEqDiff, reduceLT, reduceLeDiff, reduceMul, reduceAdd, reduceIte, reduceCtorEq, Nat.reduceBEq, reduceSub, Int.reduceToNat, encEdge, encI, b962, b963]
      all_goals ((repeat' apply And.intro) <;> rfl)
  · replace h := cond_f h b962
    cases h
    try simp -implicitDefEqProofs only [go_sem, reduceEqDiff, reduceLT, reduceLeDiff, reduceMul, reduceAdd, reduceIte, reduceCtorEq, Nat.reduceBEq, reduceSub, Int.reduceToNat, encEdge, encI, b962]
    all_goals ((repeat' apply And.intro) <;> rfl)


def f_scarfjointref15_compare (a0 : List Int) (a1 : List Int) : Option Int :=
  iter (fun (s990 : Int) nxts990 brks990 =>
    cond (decide (s990 < ((a0.length : Nat) : Int))) (
      cond (decide (s990 < ((a1.length : Nat) : Int))) (
        thn (atZ a0 s990) fun e999 =>
        thn (atZ a1 s990) fun e1000 =>
        cond (decide (e999 = e1000)) (
          nxts990 (IntKind.i64.wrap (s990 + 1))) <|
        some (IntKind.i64.wrap (e999 - e1000))) <|
      brks990 s990) <|
    brks990 s990)
  fuel 0 fun s990 =>
  some (IntKind.i64.wrap (((a0.length : Nat) : Int) - ((a1.length : Nat) : Int)))
set_option maxHeartbeats 4000000 in
theorem w_scarfjointref15_compare (a0 : List Int) (a1 : List Int) (r : Int) (h : f_scarfjointref15_compare a0 a1 = some r) : CallV Go.Proofs.Tryz.prog 50 [.lst (a0.map encI), .lst (a1.map encI)] (fun v => v = .val (.int .i64 r)) := by
  refine CallV.ple ?_
  refine callV_of_cw [] Ty.mixed Go.Proofs.Tryz.func50 rfl (by kernel_rfl) (by simp [Go.Proofs.Tryz.ntmps50]) ?_; rw [Go.Proofs.Tryz.ntmps50, Go.Proofs.Tryz.results50]
  unfold f_scarfjointref15_compare at h
  try simp -implicitDefEqProofs only [go_sem, reduceEqDiff, reduceLT, reduceLeDiff, reduceMul, reduceAdd, reduceIte, reduceCtorEq, Nat.reduceBEq, reduceSub, Int.reduceToNat, encI]
  refine iter_go (fun x : (Int) × (Unit) => envL [(0, .p (.lst (a0.map encI))), (1, .p (.lst (a1.map encI))), (5, .p (.val (.int .i64 x.1)))]) (fun x => heapL []) () h (weakL (by simp -implicitDefEqProofs only [go_sem, reduceEqDiff, reduceLT, reduceLeDiff, reduceMul, reduceAdd, reduceIte, reduceCtorEq, Nat.reduceBEq, reduceSub, Int.reduceToNat, encI] <;> ((repeat' apply And.intro) <;> rfl))) ?_
  intro s990 g990 nxts990 Rs990 hNs990 h
  try dsimp only at h
  try simp -implicitDefEqProofs only [go_sem, reduceEqDiff, reduceLT, reduceLeDiff, reduceMul, reduceAdd, reduceIte, reduceCtorEq, Nat.reduceBEq, reduceSub, Int.reduceToNat, encI]
  refine walkG_split (fun b997 => ?_) (fun b997 => ?_)
  · replace h := cond_t h b997
    try simp -implicitDefEqProofs only [go_sem, reduceEqDiff, reduceLT, reduceLeDiff, reduceMul, reduceAdd, reduceIte, reduceCtorEq, Nat.reduceBEq, reduceSub, Int.reduceToNat, encI, b997]
    refine condC_split (fun b998 => ?_) (fun b998 => ?_)
    · replace h := cond_t h b998
      try simp -implicitDefEqProofs only [go_sem, reduceEqDiff, reduceLT, reduceLeDiff, reduceMul, reduceAdd, reduceIte, reduceCtorEq, Nat.reduceBEq, reduceSub, Int.reduceToNat, encI, b997, b998]
      refine draw_txt [.q, .q, .q, .q, .q, .q, .q, .q, .q] (by kernel_rfl) ?_
      obtain ⟨e999, c999a, c999b, g999, q999, h⟩ := atZ_s encI h
      obtain ⟨e1000, c1000a, c1000b, g1000, q1000, h⟩ := atZ_s encI h
      try simp -implicitDefEqProofs only [go_sem, reduceEqDiff, reduceLT, reduceLeDiff, reduceMul, reduceAdd, reduceIte, reduceCtorEq, Nat.reduceBEq, reduceSub, Int.reduceToNat, encI, b997, b998, c999a, c999b, g999, c1000a, c1000b, g1000]
      refine condC_splitN (fun b1001 => ?_) (fun b1001 => ?_)
      · replace h := cond_t h b1001
        try simp -implicitDefEqProofs only [go_sem, reduceEqDiff, reduceLT, reduceLeDiff, reduceMul, reduceAdd, reduceIte, reduceCtorEq, Nat.reduceBEq, reduceSub, Int.reduceToNat, encI, b997, b998, c999a, c999b, g999, c1000a, c1000b, g1000, b1001]
        exact hNs990 (IntKind.i64.wrap (s990 + 1)) () h (weakL (by simp -implicitDefEqProofs only [go_sem, reduceEqDiff, reduceLT, reduceLeDiff, reduceMul, reduceAdd, reduceIte, reduceCtorEq, Nat.reduceBEq, reduceSub, Int.reduceToNat, encI, b997, b998, c999a, c999b, g999, c1000a, c1000b, g1000, b1001] <;> ((repeat' apply And.intro) <;> rfl)))
      · replace h := cond_f h b1001
        try simp -implicitDefEqProofs only [go_sem, reduceEqDiff, reduceLT, reduceLeDiff, reduceMul, reduceAdd, reduceIte, reduceCtorEq, Nat.reduceBEq, reduceSub, Int.reduceToNat, encI, b997, b998, c999a, c999b, g999, c1000a, c1000b, g1000, b1001]
        refine draw_txt [.q, .q, .q, .q, .q, .q, .q, .q, .q, .q] (by kernel_rfl) ?_
        cases h
        try simp -implicitDefEqProofs only [go_sem, reduceEqDiff, reduceLT, reduceLeDiff, reduceMul, reduceAdd, reduceIte, reduceCtorEq, Nat.reduceBEq, reduceSub, Int.reduceToNat, encI, b997, b998, c999a, c999b, g999, c1000a, c1000b, g1000, b1001]
        all_goals ((repeat' apply And.intro) <;> rfl)
    · replace h := cond_f h b998
      try dsimp only at h
      cases h
      try simp -implicitDefEqProofs only [go_sem, reduceEqDiff, reduceLT, reduceLeDiff, reduceMul, reduceAdd, reduceIte, reduceCtorEq, Nat.reduceBEq, reduceSub, Int.reduceToNat, encI, b997, b998]
      all_goals ((repeat' apply And.intro) <;> rfl)
  · replace h := cond_f h b997
    try dsimp only at h
    cases h
    try simp -implicitDefEqProofs only [go_sem, reduceEqDiff, reduceLT, reduceLeDiff, reduceMul, reduceAdd, reduceIte, reduceCtorEq, Nat.reduceBEq, reduceSub, Int.reduceToNat, encI, b997]
    all_goals ((repeat' apply And.intro) <;> rfl)


def f_scarfjointref15_Same (a0 : Host) (a1 : Host) : Option Bool :=
  thn (f_scarfjointref05_Same a0.graph a1.graph) fun r976 =>
  cond r976 (
    cond (decide (((a0.values.length : Nat) : Int) = ((a1.values.length : Nat) : Int))) (
      chk (a0.values.length ≤ fuel) <|
      forN (fun i1004 (s1004 : Unit) nxts1004 brks1004 =>
        thn (a0.values[i1004]?) fun e1009 =>
        thn (a1.values[i1004]?) fun e1010 =>
        thn (f_scarfjointref15_compare e1009 e1010) fun r1011 =>
        cond (decide (r1011 = 0)) (
          nxts1004 ()) <|
        some false)
      (a0.values.length - 0) 0 () fun s1004 =>
      some true) <|
    some false) <|
  some false
set_option maxHeartbeats 4000000 in
theorem w_scarfjointref15_Same (a0 : Host) (a1 : Host) (r : Bool) (h : f_scarfjointref15_Same a0 a1 = some r) : CallV Go.Proofs.Tryz.prog 19 [.agg [.lst (a0.graph.nodes.map encI), .lst (a0.graph.edges.map encEdge), .lst (a0.values.map encRow)], .agg [.lst (a1.graph.nodes.map encI), .lst (a1.graph.edges.map encEdge), .lst (a1.values.map encRow)]] (fun v => v = .val (.bool r)) := by
  refine CallV.ple ?_
  refine callV_of_cw [] Ty.mixed Go.Proofs.Tryz.func19 rfl (by kernel_rfl) (by simp [Go.Proofs.Tryz.ntmps19]) ?_; rw [Go.Proofs.Tryz.ntmps19, Go.Proofs.Tryz.results19]
  unfold f_scarfjointref15_Same at h
  obtain ⟨r976, hr976, h⟩ := thn_s h
  try simp -implicitDefEqProofs only [go_sem, reduceEqDiff, reduceLT, reduceLeDiff, reduceMul, reduceAdd, reduceIte, reduceCtorEq, Nat.reduceBEq, reduceSub, Int.reduceToNat, encEdge, encI, encInts, encRow, encStrs]
  refine callG (w_scarfjointref05_Same a0.graph a1.graph r976 hr976) (by simp -implicitDefEqProofs only [go_sem, reduceEqDiff, reduceLT, reduceLeDiff, reduceMul, reduceAdd, reduceIte, reduceCtorEq, Nat.reduceBEq, reduceSub, Int.reduceToNat, encEdge, encI, encInts, encRow, encStrs] <;> rfl) (pleL_refl _) (by first | exact pers | exact scal rfl) ?_
  try simp -implicitDefEqProofs only [go_sem, reduceEqDiff, reduceLT, reduceLeDiff, reduceMul, reduceAdd, reduceIte, reduceCtorEq, Nat.reduceBEq, reduceSub, Int.reduceToNat, encEdge, encI, encInts, encRow, encStrs]
  refine walkG_split (fun b977 => ?_) (fun b977 => ?_)
  · replace h := cond_t h b977
    try simp -implicitDefEqProofs only [go_sem, reduceEqDiff, reduceLT, reduceLeDiff, reduceMul, reduceAdd, reduceIte, reduceCtorEq, Nat.reduceBEq, reduceSub, Int.reduceToNat, encEdge, encI, encInts, encRow, encStrs, b977]
    refine condC_splitN (fun b978 => ?_) (fun b978 => ?_)
    · replace h := cond_t h b978
      obtain ⟨fus1004, h⟩ := chk_s h
      unfold fuel at fus1004
      try simp -implicitDefEqProofs only [go_sem, reduceEqDiff, reduceLT, reduceLeDiff, reduceMul, reduceAdd, reduceIte, reduceCtorEq, Nat.reduceBEq, reduceSub, Int.reduceToNat, encEdge, encI, encInts, encRow, encStrs, b977, b978]
      refine forN_go (fun x : (Nat × (Unit)) × (Unit) => envL [(2, .ptr 2 0), (3, .ptr 3 0), (5, .p (.val (.int .i64 ((x.1.1 : Nat) : Int))))]) (fun x => heapL [(2, .box [.p (.lst (a0.graph.nodes.map encI)), .p (.lst (a0.graph.edges.map encEdge)), .p (.lst (a0.values.map encRow))]), (3, .box [.p (.lst (a1.graph.nodes.map encI)), .p (.lst (a1.graph.edges.map encEdge)), .p (.lst (a1.values.map encRow))])]) () h (weakL (by simp -implicitDefEqProofs only [go_sem, reduceEqDiff, reduceLT, reduceLeDiff, reduceMul, reduceAdd, reduceIte, reduceCtorEq, Nat.reduceBEq, reduceSub, Int.reduceToNat, encEdge, encI, encInts, encRow, encStrs, b977, b978] <;> ((repeat' apply And.intro) <;> rfl))) ?_ ?_
      · intro i1004 s1004 g1004 nxts1004 Rs1004 his1004 hNs1004 h
        have hws1004 := wrap_succ (k := i1004) his1004 (by omega)
        try dsimp only at h
        try simp -implicitDefEqProofs only [go_sem, reduceEqDiff, reduceLT, reduceLeDiff, reduceMul, reduceAdd, reduceIte, reduceCtorEq, Nat.reduceBEq, reduceSub, Int.reduceToNat, encEdge, encI, encInts, encRow, encStrs, b977, b978, his1004, hws1004]
        refine draw_txt [.q, .q, .q, .q, .q, .q, .q, .q, .q, .q, .q, .q] (by kernel_rfl) ?_
        obtain ⟨e1009, c1009, g1009, q1009, h⟩ := idx_s encRow h
        obtain ⟨e1010, c1010, g1010, q1010, h⟩ := idx_s encRow h
        obtain ⟨r1011, hr1011, h⟩ := thn_s h
        try simp -implicitDefEqProofs only [go_sem, reduceEqDiff, reduceLT, reduceLeDiff, reduceMul, reduceAdd, reduceIte, reduceCtorEq, Nat.reduceBEq, reduceSub, Int.reduceToNat, encEdge, encI, encInts, encRow, encStrs, b977, b978, his1004, hws1004, c1009, g1009, c1010, g1010]
        refine calldG (w_scarfjointref15_compare e1009 e1010 r1011 hr1011) (by simp -implicitDefEqProofs only [go_sem, reduceEqDiff, reduceLT, reduceLeDiff, reduceMul, reduceAdd, reduceIte, reduceCtorEq, Nat.reduceBEq, reduceSub, Int.reduceToNat, encEdge, encI, encInts, encRow, encStrs, b977, b978, his1004, hws1004, c1009, g1009, c1010, g1010] <;> rfl) (pleL_refl _) (by first | exact pers | exact scal rfl) ?_
        try simp -implicitDefEqProofs only [go_sem, reduceEqDiff, reduceLT, reduceLeDiff, reduceMul, reduceAdd, reduceIte, reduceCtorEq, Nat.reduceBEq, reduceSub, Int.reduceToNat, encEdge, encI, encInts, encRow, encStrs, b977, b978, his1004, hws1004, c1009, g1009, c1010, g1010]
        refine condC_splitN (fun b1012 => ?_) (fun b1012 => ?_)
        · replace h := cond_t h b1012
          try simp -implicitDefEqProofs only [go_sem, reduceEqDiff, reduceLT, reduceLeDiff, reduceMul, reduceAdd, reduceIte, reduceCtorEq, Nat.reduceBEq, reduceSub, Int.reduceToNat, encEdge, encI, encInts, encRow, encStrs, b977, b978, his1004, hws1004, c1009, g1009, c1010, g1010, b1012]
          exact hNs1004 () () h (weakL (by simp -implicitDefEqProofs only [go_sem, reduceEqDiff, reduceLT, reduceLeDiff, reduceMul, reduceAdd, reduceIte, reduceCtorEq, Nat.reduceBEq, reduceSub, Int.reduceToNat, encEdge, encI, encInts, encRow, encStrs, b977, b978, his1004, hws1004, c1009, g1009, c1010, g1010, b1012] <;> ((repeat' apply And.intro) <;> rfl)))
        · replace h := cond_f h b1012
          cases h
          try simp -implicitDefEqProofs only [go_sem, reduceEqDiff, reduceLT, reduceLeDiff, reduceMul, reduceAdd, reduceIte, reduceCtorEq, Nat.reduceBEq, reduceSub, Int.reduceToNat, encEdge, encI, encInts, encRow, encStrs, b977, b978, his1004, hws1004, c1009, g1009, c1010, g1010, b1012]
          all_goals ((repeat' apply And.intro) <;> rfl)
      · intro i1004 s1004 g1004 Rs1004 hes1004 h
        have hns1004 : ¬ (i1004 < a0.values.length) := by omega
        try dsimp only at h
        cases h
        try simp -implicitDefEqProofs only [go_sem, reduceEqDiff, reduceLT, reduceLeDiff, reduceMul, reduceAdd, reduceIte, reduceCtorEq, Nat.reduceBEq, reduceSub, Int.reduceToNat, encEdge, encI, encInts, encRow, encStrs, b977, b978, hns1004]
        all_goals ((repeat' apply And.intro) <;> rfl)
    · replace h := cond_f h b978
      cases h
      try simp -implicitDefEqProofs only [go_sem, reduceEqDiff, reduceLT, reduceLeDiff, reduceMul, reduceAdd, reduceIte, reduceCtorEq, Nat.reduceBEq, reduceSub, Int.reduceToNat, encEdge, encI, encInts, encRow, encStrs, b977, b978]
      all_goals ((repeat' apply And.intro) <;> rfl)
  · replace h := cond_f h b977
    cases h
    try simp -implicitDefEqProofs only [go_sem, reduceEqDiff, reduceLT, reduceLeDiff, reduceMul, reduceAdd, reduceIte, reduceCtorEq, Nat.reduceBEq, reduceSub, Int.reduceToNat, encEdge, encI, encInts, encRow, encStrs, b977]
    all_goals ((repeat' apply And.intro) <;> rfl)


def f_scarfjointref07_Same (a0 : Part) (a1 : Part) : Option Bool :=
  thn (f_scarfjointref05_SameInts a0.nodes a1.nodes) fun r1015 =>
  cond r1015 (
    thn (f_scarfjointref05_SameInts a0.edges a1.edges) fun r1017 =>
    some r1017) <|
  some false
set_option maxHeartbeats 4000000 in
theorem w_scarfjointref07_Same (a0 : Part) (a1 : Part) (r : Bool) (h : f_scarfjointref07_Same a0 a1 = some r) : CallV Go.Proofs.Tryz.prog 24 [.agg [.lst (a0.nodes.map encI), .lst (a0.edges.map encI)], .agg [.lst (a1.nodes.map encI), .lst (a1.edges.map encI)]] (fun v => v = .val (.bool r)) := by
  refine CallV.ple ?_
  refine callV_of_cw [] Ty.mixed Go.Proofs.Tryz.func24 rfl (by kernel_rfl) (by simp [Go.Proofs.Tryz.ntmps24]) ?_; rw [Go.Proofs.Tryz.ntmps24, Go.Proofs.Tryz.results24]
  unfold f_scarfjointref07_Same at h
  obtain ⟨r1015, hr1015, h⟩ := thn_s h
  try simp -implicitDefEqProofs only [go_sem, reduceEqDiff, reduceLT, reduceLeDiff, reduceMul, reduceAdd, reduceIte, reduceCtorEq, Nat.reduceBEq, reduceSub, Int.reduceToNat, encI]
  refine callG (w_scarfjointref05_SameInts a0.nodes a1.nodes r1015 hr1015) (by simp -implicitDefEqProofs only [go_sem, reduceEqDiff, reduceLT, reduceLeDiff, reduceMul, reduceAdd, reduceIte, reduceCtorEq, Nat.reduceBEq, reduceSub, Int.reduceToNat, encI] <;> rfl) (pleL_refl _) (by first | exact pers | exact scal rfl) ?_
  try simp -implicitDefEqProofs only [go_sem, reduceEqDiff, reduceLT, reduceLeDiff, reduceMul, reduceAdd, reduceIte, reduceCtorEq, Nat.reduceBEq, reduceSub, Int.reduceToNat, encI]
  refine walkG_split (fun b1016 => ?_) (fun b1016 => ?_)
  · replace h := cond_t h b1016
    obtain ⟨r1017, hr1017, h⟩ := thn_s h
    try simp -implicitDefEqProofs only [go_sem, reduceEqDiff, reduceLT, reduceLeDiff, reduceMul, reduceAdd, reduceIte, reduceCtorEq, Nat.reduceBEq, reduceSub, Int.reduceToNat, encI, b1016]
    refine callG (w_scarfjointref05_SameInts a0.edges a1.edges r1017 hr1017) (by simp -implicitDefEqProofs only [go_sem, reduceEqDiff, reduceLT, reduceLeDiff, reduceMul, reduceAdd, reduceIte, reduceCtorEq, Nat.reduceBEq, reduceSub, Int.reduceToNat, encI, b1016] <;> rfl) (pleL_refl _) (by first | exact pers | exact scal rfl) ?_
    cases h
    try simp -implicitDefEqProofs only [go_sem, reduceEqDiff, reduceLT, reduceLeDiff, reduceMul, reduceAdd, reduceIte, reduceCtorEq, Nat.reduceBEq, reduceSub, Int.reduceToNat, encI, b1016]
    all_goals ((repeat' apply And.intro) <;> rfl)
  · replace h := cond_f h b1016
    cases h
    try simp -implicitDefEqProofs only [go_sem, reduceEqDiff, reduceLT, reduceLeDiff, reduceMul, reduceAdd, reduceIte, reduceCtorEq, Nat.reduceBEq, reduceSub, Int.reduceToNat, encI, b1016]
    all_goals ((repeat' apply And.intro) <;> rfl)


def f_scarfjointlaw52_TripleSide (a0 : T_scarfjointlaw52_Case) (a1 : Host) (a2 : Int) : Option Bool :=
  thn (f_scarfjointlaw52_awake) fun r1 =>
  cond r1 (
    thn (f_scarfjointlaw52_few a0.t a0.s (⟨a1.graph, a1.values⟩ : Host)) fun r161 =>
    cond r161 (
      thn (f_triple_Side a0.t a0.s (⟨a1.graph, a1.values⟩ : Host) a2) fun r493 =>
      thn (f_scarfjointref52_Side a0.t a0.s (⟨a1.graph, a1.values⟩ : Host) a2) fun r943 =>
      thn (f_triple_Valid a0.t a0.s (⟨a1.graph, a1.values⟩ : Host)) fun r944 =>
      thn (f_scarfjointref52_Valid a0.t a0.s (⟨a1.graph, a1.values⟩ : Host)) fun r945 =>
      cond (decide (r944 = r945)) (
        cond (decide (r493.2.2 = r943.2.2)) (
          thn (f_scarfjointref15_Same r493.1 r943.1) fun r1013 =>
          cond r1013 (
            thn (f_scarfjointref07_Same r493.2.1 r943.2.1) fun r1018 =>
            some r1018) <|
          some false) <|
        some false) <|
      some false) <|
    thn (f_scarfjointlaw52_awake) fun r1019 =>
    some r1019) <|
  thn (f_scarfjointlaw52_awake) fun r1020 =>
  some r1020
set_option maxHeartbeats 4000000 in
theorem w_scarfjointlaw52_TripleSide (a0 : T_scarfjointlaw52_Case) (a1 : Host) (a2 : Int) (r : Bool) (h : f_scarfjointlaw52_TripleSide a0 a1 a2 = some r) : CallV Go.Proofs.Tryz.prog 6 [.agg [.lst (a0.t.nodes.map encNode), .lst (a0.t.edges.map encEdgeT), .lst (a0.s.nodes.map encI), .lst (a0.s.edges.map encI)], .agg [.lst (a1.graph.nodes.map encI), .lst (a1.graph.edges.map encEdge), .lst (a1.values.map encRow)], .val (.int .i64 a2)] (fun v => v = .val (.bool r)) := by
  refine CallV.ple ?_
  refine callV_of_cw [] Ty.mixed Go.Proofs.Tryz.func6 rfl (by kernel_rfl) (by simp [Go.Proofs.Tryz.ntmps6]) ?_; rw [Go.Proofs.Tryz.ntmps6, Go.Proofs.Tryz.results6]
  unfold f_scarfjointlaw52_TripleSide at h
  obtain ⟨r1, hr1, h⟩ := thn_s h
  try simp -implicitDefEqProofs only [go_sem, reduceEqDiff, reduceLT, reduceLeDiff, reduceMul, reduceAdd, reduceIte, reduceCtorEq, Nat.reduceBEq, reduceSub, Int.reduceToNat, encEdge, encEdgeT, encI, encInts, encNode, encRow, encStrs]
  refine callG (w_scarfjointlaw52_awake r1 hr1) (by simp -implicitDefEqProofs only [go_sem, reduceEqDiff, reduceLT, reduceLeDiff, reduceMul, reduceAdd, reduceIte, reduceCtorEq, Nat.reduceBEq, reduceSub, Int.reduceToNat, encEdge, encEdgeT, encI, encInts, encNode, encRow, encStrs] <;> rfl) (pleL_refl _) (by first | exact pers | exact scal rfl) ?_
  try simp -implicitDefEqProofs only [go_sem, reduceEqDiff, reduceLT, reduceLeDiff, reduceMul, reduceAdd, reduceIte, reduceCtorEq, Nat.reduceBEq, reduceSub, Int.reduceToNat, encEdge, encEdgeT, encI, encInts, encNode, encRow, encStrs]
  refine walkG_split (fun b2 => ?_) (fun b2 => ?_)
  · replace h := cond_t h b2
    obtain ⟨r161, hr161, h⟩ := thn_s h
    try simp -implicitDefEqProofs only [go_sem, reduceEqDiff, reduceLT, reduceLeDiff, reduceMul, reduceAdd, reduceIte, reduceCtorEq, Nat.reduceBEq, reduceSub, Int.reduceToNat, encEdge, encEdgeT, encI, encInts, encNode, encRow, encStrs, b2]
    refine callG (w_scarfjointlaw52_few a0.t a0.s (⟨a1.graph, a1.values⟩ : Host) r161 hr161) (by simp -implicitDefEqProofs only [go_sem, reduceEqDiff, reduceLT, reduceLeDiff, reduceMul, reduceAdd, reduceIte, reduceCtorEq, Nat.reduceBEq, reduceSub, Int.reduceToNat, encEdge, encEdgeT, encI, encInts, encNode, encRow, encStrs, b2] <;> rfl) (pleL_refl _) (by first | exact pers | exact scal rfl) ?_
    try simp -implicitDefEqProofs only [go_sem, reduceEqDiff, reduceLT, reduceLeDiff, reduceMul, reduceAdd, reduceIte, reduceCtorEq, Nat.reduceBEq, reduceSub, Int.reduceToNat, encEdge, encEdgeT, encI, encInts, encNode, encRow, encStrs, b2]
    refine condC_splitN (fun b162 => ?_) (fun b162 => ?_)
    · replace h := cond_t h b162
      obtain ⟨r493, hr493, h⟩ := thn_s h
      try simp -implicitDefEqProofs only [go_sem, reduceEqDiff, reduceLT, reduceLeDiff, reduceMul, reduceAdd, reduceIte, reduceCtorEq, Nat.reduceBEq, reduceSub, Int.reduceToNat, encEdge, encEdgeT, encI, encInts, encNode, encRow, encStrs, b2, b162]
      refine callfG 1512 (w_triple_Side a0.t a0.s (⟨a1.graph, a1.values⟩ : Host) a2 r493 hr493) (by simp -implicitDefEqProofs only [go_sem, reduceEqDiff, reduceLT, reduceLeDiff, reduceMul, reduceAdd, reduceIte, reduceCtorEq, Nat.reduceBEq, reduceSub, Int.reduceToNat, encEdge, encEdgeT, encI, encInts, encNode, encRow, encStrs, b2, b162] <;> rfl) (pleL_refl _) (by first | exact persF | exact flatF rfl | exact flatF (by simp [RV.flat, RV.flatL, PV.scalar, isVal, encI, encEdge, encRow])) (by simp -implicitDefEqProofs only [go_sem, reduceEqDiff, reduceLT, reduceLeDiff, reduceMul, reduceAdd, reduceIte, reduceCtorEq, Nat.reduceBEq, reduceSub, Int.reduceToNat, encEdge, encEdgeT, encI, encInts, encNode, encRow, encStrs, b2, b162]) ?_
      obtain ⟨r943, hr943, h⟩ := thn_s h
      try simp -implicitDefEqProofs only [go_sem, reduceEqDiff, reduceLT, reduceLeDiff, reduceMul, reduceAdd, reduceIte, reduceCtorEq, Nat.reduceBEq, reduceSub, Int.reduceToNat, encEdge, encEdgeT, encI, encInts, encNode, encRow, encStrs, b2, b162]
      refine callfG 1688 (w_scarfjointref52_Side a0.t a0.s (⟨a1.graph, a1.values⟩ : Host) a2 r943 hr943) (by simp -implicitDefEqProofs only [go_sem, reduceEqDiff, reduceLT, reduceLeDiff, reduceMul, reduceAdd, reduceIte, reduceCtorEq, Nat.reduceBEq, reduceSub, Int.reduceToNat, encEdge, encEdgeT, encI, encInts, encNode, encRow, encStrs, b2, b162] <;> rfl) (pleL_refl _) (by first | exact persF | exact flatF rfl | exact flatF (by simp [RV.flat, RV.flatL, PV.scalar, isVal, encI, encEdge, encRow])) (by simp -implicitDefEqProofs only [go_sem, reduceEqDiff, reduceLT, reduceLeDiff, reduceMul, reduceAdd, reduceIte, reduceCtorEq, Nat.reduceBEq, reduceSub, Int.reduceToNat, encEdge, encEdgeT, encI, encInts, encNode, encRow, encStrs, b2, b162]) ?_
      try simp -implicitDefEqProofs only [go_sem, reduceEqDiff, reduceLT, reduceLeDiff, reduceMul, reduceAdd, reduceIte, reduceCtorEq, Nat.reduceBEq, reduceSub, Int.reduceToNat, encEdge, encEdgeT, encI, encInts, encNode, encRow, encStrs, b2, b162]
      refine draw_txt [.q, .q, .q, .q, .q, .q, .q, .q, .q, .q, .q, .q, .q, .q, .q, .q, .q, .q, .q, .q, .q, .q, .q, .q, .q, .q, .q, .q, .q] (by kernel_rfl) ?_
      obtain ⟨r944, hr944, h⟩ := thn_s h
      try simp -implicitDefEqProofs only [go_sem, reduceEqDiff, reduceLT, reduceLeDiff, reduceMul, reduceAdd, reduceIte, reduceCtorEq, Nat.reduceBEq, reduceSub, Int.reduceToNat, encEdge, encEdgeT, encI, encInts, encNode, encRow, encStrs, b2, b162]
      refine calldG (w_triple_Valid a0.t a0.s (⟨a1.graph, a1.values⟩ : Host) r944 hr944) (by simp -implicitDefEqProofs only [go_sem, reduceEqDiff, reduceLT, reduceLeDiff, reduceMul, reduceAdd, reduceIte, reduceCtorEq, Nat.reduceBEq, reduceSub, Int.reduceToNat, encEdge, encEdgeT, encI, encInts, encNode, encRow, encStrs, b2, b162] <;> rfl) (pleL_refl _) (by first | exact pers | exact scal rfl) ?_
      obtain ⟨r945, hr945, h⟩ := thn_s h
      try simp -implicitDefEqProofs only [go_sem, reduceEqDiff, reduceLT, reduceLeDiff, reduceMul, reduceAdd, reduceIte, reduceCtorEq, Nat.reduceBEq, reduceSub, Int.reduceToNat, encEdge, encEdgeT, encI, encInts, encNode, encRow, encStrs, b2, b162]
      refine calldG (w_scarfjointref52_Valid a0.t a0.s (⟨a1.graph, a1.values⟩ : Host) r945 hr945) (by simp -implicitDefEqProofs only [go_sem, reduceEqDiff, reduceLT, reduceLeDiff, reduceMul, reduceAdd, reduceIte, reduceCtorEq, Nat.reduceBEq, reduceSub, Int.reduceToNat, encEdge, encEdgeT, encI, encInts, encNode, encRow, encStrs, b2, b162] <;> rfl) (pleL_refl _) (by first | exact pers | exact scal rfl) ?_
      try simp -implicitDefEqProofs only [go_sem, reduceEqDiff, reduceLT, reduceLeDiff, reduceMul, reduceAdd, reduceIte, reduceCtorEq, Nat.reduceBEq, reduceSub, Int.reduceToNat, encEdge, encEdgeT, encI, encInts, encNode, encRow, encStrs, b2, b162]
      refine walkDG_split (fun b946 => ?_) (fun b946 => ?_)
      · replace h := cond_t h b946
        try simp -implicitDefEqProofs only [go_sem, reduceEqDiff, reduceLT, reduceLeDiff, reduceMul, reduceAdd, reduceIte, reduceCtorEq, Nat.reduceBEq, reduceSub, Int.reduceToNat, encEdge, encEdgeT, encI, encInts, encNode, encRow, encStrs, b2, b162, b946]
        refine walkDG_split (fun b947 => ?_) (fun b947 => ?_)
        · replace h := cond_t h b947
          obtain ⟨r1013, hr1013, h⟩ := thn_s h
          try simp -implicitDefEqProofs only [go_sem, reduceEqDiff, reduceLT, reduceLeDiff, reduceMul, reduceAdd, reduceIte, reduceCtorEq, Nat.reduceBEq, reduceSub, Int.reduceToNat, encEdge, encEdgeT, encI, encInts, encNode, encRow, encStrs, b2, b162, b946, b947]
          refine calldG (w_scarfjointref15_Same r493.1 r943.1 r1013 hr1013) (by simp -implicitDefEqProofs only [go_sem, reduceEqDiff, reduceLT, reduceLeDiff, reduceMul, reduceAdd, reduceIte, reduceCtorEq, Nat.reduceBEq, reduceSub, Int.reduceToNat, encEdge, encEdgeT, encI, encInts, encNode, encRow, encStrs, b2, b162, b946, b947] <;> rfl) (pleL_refl _) (by first | exact pers | exact scal rfl) ?_
          try simp -implicitDefEqProofs only [go_sem, reduceEqDiff, reduceLT, reduceLeDiff, reduceMul, reduceAdd, reduceIte, reduceCtorEq, Nat.reduceBEq, reduceSub, Int.reduceToNat, encEdge, encEdgeT, encI, encInts, encNode, encRow, encStrs, b2, b162, b946, b947]
          refine walkDG_split (fun b1014 => ?_) (fun b1014 => ?_)
          · replace h := cond_t h b1014
            obtain ⟨r1018, hr1018, h⟩ := thn_s h
            try simp -implicitDefEqProofs only [go_sem, reduceEqDiff, reduceLT, reduceLeDiff, reduceMul, reduceAdd, reduceIte, reduceCtorEq, Nat.reduceBEq, reduceSub, Int.reduceToNat, encEdge, encEdgeT, encI, encInts, encNode, encRow, encStrs, b2, b162, b946, b947, b1014]
            refine calldG (w_scarfjointref07_Same r493.2.1 r943.2.1 r1018 hr1018) (by simp -implicitDefEqProofs only [go_sem, reduceEqDiff, reduceLT, reduceLeDiff, reduceMul, reduceAdd, reduceIte, reduceCtorEq, Nat.reduceBEq, reduceSub, Int.reduceToNat, encEdge, encEdgeT, encI, encInts, encNode, encRow, encStrs, b2, b162, b946, b947, b1014] <;> rfl) (pleL_refl _) (by first | exact pers | exact scal rfl) ?_
            cases h
            try simp -implicitDefEqProofs only [go_sem, reduceEqDiff, reduceLT, reduceLeDiff, reduceMul, reduceAdd, reduceIte, reduceCtorEq, Nat.reduceBEq, reduceSub, Int.reduceToNat, encEdge, encEdgeT, encI, encInts, encNode, encRow, encStrs, b2, b162, b946, b947, b1014]
            all_goals ((repeat' apply And.intro) <;> rfl)
          · replace h := cond_f h b1014
            cases h
            try simp -implicitDefEqProofs only [go_sem, reduceEqDiff, reduceLT, reduceLeDiff, reduceMul, reduceAdd, reduceIte, reduceCtorEq, Nat.reduceBEq, reduceSub, Int.reduceToNat, encEdge, encEdgeT, encI, encInts, encNode, encRow, encStrs, b2, b162, b946, b947, b1014]
            all_goals ((repeat' apply And.intro) <;> rfl)
        · replace h := cond_f h b947
          cases h
          try simp -implicitDefEqProofs only [go_sem, reduceEqDiff, reduceLT, reduceLeDiff, reduceMul, reduceAdd, reduceIte, reduceCtorEq, Nat.reduceBEq, reduceSub, Int.reduceToNat, encEdge, encEdgeT, encI, encInts, encNode, encRow, encStrs, b2, b162, b946, b947]
          all_goals ((repeat' apply And.intro) <;> rfl)
      · replace h := cond_f h b946
        cases h
        try simp -implicitDefEqProofs only [go_sem, reduceEqDiff, reduceLT, reduceLeDiff, reduceMul, reduceAdd, reduceIte, reduceCtorEq, Nat.reduceBEq, reduceSub, Int.reduceToNat, encEdge, encEdgeT, encI, encInts, encNode, encRow, encStrs, b2, b162, b946]
        all_goals ((repeat' apply And.intro) <;> rfl)
    · replace h := cond_f h b162
      obtain ⟨r1019, hr1019, h⟩ := thn_s h
      try simp -implicitDefEqProofs only [go_sem, reduceEqDiff, reduceLT, reduceLeDiff, reduceMul, reduceAdd, reduceIte, reduceCtorEq, Nat.reduceBEq, reduceSub, Int.reduceToNat, encEdge, encEdgeT, encI, encInts, encNode, encRow, encStrs, b2, b162]
      refine callG (w_scarfjointlaw52_awake r1019 hr1019) (by simp -implicitDefEqProofs only [go_sem, reduceEqDiff, reduceLT, reduceLeDiff, reduceMul, reduceAdd, reduceIte, reduceCtorEq, Nat.reduceBEq, reduceSub, Int.reduceToNat, encEdge, encEdgeT, encI, encInts, encNode, encRow, encStrs, b2, b162] <;> rfl) (pleL_refl _) (by first | exact pers | exact scal rfl) ?_
      cases h
      try simp -implicitDefEqProofs only [go_sem, reduceEqDiff, reduceLT, reduceLeDiff, reduceMul, reduceAdd, reduceIte, reduceCtorEq, Nat.reduceBEq, reduceSub, Int.reduceToNat, encEdge, encEdgeT, encI, encInts, encNode, encRow, encStrs, b2, b162]
      all_goals ((repeat' apply And.intro) <;> rfl)
  · replace h := cond_f h b2
    obtain ⟨r1020, hr1020, h⟩ := thn_s h
    try simp -implicitDefEqProofs only [go_sem, reduceEqDiff, reduceLT, reduceLeDiff, reduceMul, reduceAdd, reduceIte, reduceCtorEq, Nat.reduceBEq, reduceSub, Int.reduceToNat, encEdge, encEdgeT, encI, encInts, encNode, encRow, encStrs, b2]
    refine callG (w_scarfjointlaw52_awake r1020 hr1020) (by simp -implicitDefEqProofs only [go_sem, reduceEqDiff, reduceLT, reduceLeDiff, reduceMul, reduceAdd, reduceIte, reduceCtorEq, Nat.reduceBEq, reduceSub, Int.reduceToNat, encEdge, encEdgeT, encI, encInts, encNode, encRow, encStrs, b2] <;> rfl) (pleL_refl _) (by first | exact pers | exact scal rfl) ?_
    cases h
    try simp -implicitDefEqProofs only [go_sem, reduceEqDiff, reduceLT, reduceLeDiff, reduceMul, reduceAdd, reduceIte, reduceCtorEq, Nat.reduceBEq, reduceSub, Int.reduceToNat, encEdge, encEdgeT, encI, encInts, encNode, encRow, encStrs, b2]
    all_goals ((repeat' apply And.intro) <;> rfl)

end
end Go.Proofs.YtdlohnchnneaeaaGreat
/- What the printed functions of subgraphs, parts and sides answer. -/
namespace Go.Proofs.YtdlohnchnneaeaaGreat
open Go.Abs

theorem l_subgraph_list {l : List Int} {n : Nat} (h : Asc l n) (hl : l.length ≤ 1000) : f_subgraph_list l (n : Int) = some 0 := by
  refine Ok.eq ?_
  unfold f_subgraph_list
  refine ok_chk (by unfold fuel; omega) ?_
  refine ok_forN (fun j _ => True) (Nat.zero_le _) trivial (fun j s nxt _ hj _ hn => ?_) (fun s _ => .mk rfl)
  have hr := h.range j hj
  refine ok_at hj ?_
  refine ok_f (decide_eq_false (by omega)) ?_
  refine ok_f (decide_eq_false (by omega)) ?_
  refine ok_cond (fun h0 => ?_) (fun _ => hn _ trivial)
  have h0' := of_decide_eq_true h0
  have hw : IntKind.i64.wrap ((j : Int) - 1) = ((j - 1 : Nat) : Int) := by rw [wrapI (by omega)]; omega
  rw [hw]
  refine ok_atZ (by omega) (by omega) ?_
  have := h.asc (j - 1) j (by omega) hj
  refine ok_f (decide_eq_false ?_) (hn _ trivial)
  simp only [Int.toNat_natCast]
  omega
theorem l_scarfjointref07_ascending {l : List Int} {n : Nat} (h : Asc l n) (hl : l.length ≤ 1000) : f_scarfjointref07_ascending l (n : Int) = some 0 := by
  refine Ok.eq ?_
  unfold f_scarfjointref07_ascending
  refine ok_chk (by unfold fuel; omega) ?_
  refine ok_forN (fun j _ => True) (Nat.zero_le _) trivial (fun j s nxt _ hj _ hn => ?_) (fun s _ => .mk rfl)
  have hr := h.range j hj
  refine ok_at hj ?_
  refine ok_f (decide_eq_false (by omega)) ?_
  refine ok_f (decide_eq_false (by omega)) ?_
  refine ok_cond (fun h0 => ?_) (fun _ => hn _ trivial)
  have h0' := of_decide_eq_true h0
  have hw : IntKind.i64.wrap ((j : Int) - 1) = ((j - 1 : Nat) : Int) := by rw [wrapI (by omega)]; omega
  rw [hw]
  refine ok_atZ (by omega) (by omega) ?_
  have := h.asc (j - 1) j (by omega) hj
  refine ok_f (decide_eq_false ?_) (hn _ trivial)
  simp only [Int.toNat_natCast]
  omega
theorem l_isNaN (a : Int) : f_cmp_isNaN_int a = some false := by simp [f_cmp_isNaN_int]
theorem l_isNaN2 (a : Int) : f_slices_isNaN_int a = some false := by simp [f_slices_isNaN_int]
theorem l_less (a b : Int) : f_cmp_Less_int a b = some (decide (a < b)) := by
  refine Ok.eq ?_
  unfold f_cmp_Less_int
  refine ok_eq (l_isNaN a) ?_
  exact ok_f rfl (.mk rfl)
theorem half {m : Int} (h : 0 ≤ m ∧ m ≤ 4000000) : IntKind.i64.wrap ((IntKind.u64.wrap (IntKind.i64.wrap m)).fdiv (2 ^ 1)) = m / 2 := by
  rw [wrapI (n := m) (by omega), IntWalk.u64_in m (by omega)]
  have e : m.fdiv (2 ^ 1) = m / 2 := by
    rw [Int.fdiv_eq_ediv_of_nonneg _ (by decide)]
    rfl
  rw [e, wrapI (by omega)]
theorem l_search {l : List Int} {n : Nat} (h : Asc l n) (hl : l.length ≤ 1000) {x : Int} (hx : x ∈ l) : f_slices_BinarySearch_int l x = some ((posL l x : Int), true) := by
  refine Ok.eq ?_
  obtain ⟨q, hq, hqx⟩ := List.mem_iff_getElem.1 hx
  unfold f_slices_BinarySearch_int
  refine ok_iter (fun s : Int × Int => 0 ≤ s.1 ∧ s.1 ≤ q ∧ (q : Int) ≤ s.2 ∧ s.2 ≤ l.length) (fun s : Int × Int => (s.2 - s.1).toNat) ⟨by simp, by simp, by simp; omega, by simp⟩ (by unfold fuel; simp; omega) ?_
  rintro ⟨i, j⟩ nxt ⟨h1, h2, h3, h4⟩ hn
  simp only at h1 h2 h3 h4 hn ⊢
  refine ok_cond (fun hc => ?_) (fun hc => ?_)
  · have hc' := of_decide_eq_true hc
    rw [half (by omega)]
    have b1 : i ≤ (i + j) / 2 := by omega
    have b2 : (i + j) / 2 < j := by omega
    refine ok_atZ (by omega) (by omega) ?_
    refine ok_eq (l_less _ _) ?_
    refine ok_cond (fun hd => ?_) (fun hd => ?_)
    · have hd' := of_decide_eq_true hd
      have : ((i + j) / 2).toNat < q := by
        rcases Nat.lt_trichotomy ((i + j) / 2).toNat q with h5 | h5 | h5
        · exact h5
        · subst h5; omega
        · have := h.asc q _ h5 (by omega); omega
      rw [wrapI (by omega)]
      exact hn _ ⟨by simp only; omega, by simp only; omega, h3, h4⟩ (by simp only; omega)
    · have hd' := of_decide_eq_false hd
      have : q ≤ ((i + j) / 2).toNat := by
        rcases Nat.lt_or_ge ((i + j) / 2).toNat q with h5 | h5
        · have := h.asc _ q h5 hq; omega
        · exact h5
      exact hn _ ⟨h1, h2, by simp only; omega, by simp only; omega⟩ (by simp only; omega)
  · have hc' := of_decide_eq_false hc
    have hi : i = q := by omega
    subst hi
    refine ok_t (decide_eq_true (by omega)) ?_
    refine ok_atZ (by omega) (by simpa using hq) ?_
    refine ok_t (decide_eq_true (by simpa using hqx)) ?_
    refine .mk ?_
    rw [h.pos hq hqx]
theorem l_has {l : List Int} {n : Nat} (h : Asc l n) (hl : l.length ≤ 1000) {x : Int} (hx : x ∈ l) : f_subgraph_has l x = some true := by
  refine Ok.eq ?_
  unfold f_subgraph_has
  exact ok_eq (l_search h hl hx) (.mk rfl)
theorem l_rhas {l : List Int} {n : Nat} (h : Asc l n) (hl : l.length ≤ 1000) {x : Int} (hx : x ∈ l) : f_scarfjointref07_has l x = some true := by
  refine Ok.eq ?_
  obtain ⟨q, hq, hqx⟩ := List.mem_iff_getElem.1 hx
  unfold f_scarfjointref07_has
  refine ok_chk (by unfold fuel; omega) ?_
  refine ok_forN (fun j _ => j ≤ q) (Nat.zero_le _) (Nat.zero_le _) (fun j s nxt _ hj hjq hn => ?_) (fun s hs => by exfalso; omega)
  refine ok_at hj ?_
  refine ok_cond (fun _ => .mk rfl) (fun hc => hn _ ?_)
  have hc' := of_decide_eq_false hc
  rcases Nat.lt_or_ge j q with h1 | h1
  · exact h1
  · have : j = q := by omega
    subst this
    exact absurd hqx hc'
theorem l_index {l : List Int} {n : Nat} (h : Asc l n) (hl : l.length ≤ 1000) {x : Int} (hx : x ∈ l) : f_scarfjointref07_index l x = some (posL l x : Int) := by
  refine Ok.eq ?_
  obtain ⟨q, hq, hqx⟩ := List.mem_iff_getElem.1 hx
  unfold f_scarfjointref07_index
  refine ok_chk (by unfold fuel; omega) ?_
  refine ok_forN (fun j _ => j ≤ q) (Nat.zero_le _) (Nat.zero_le _) (fun j s nxt _ hj hjq hn => ?_) (fun s hs => by exfalso; omega)
  refine ok_at hj ?_
  refine ok_cond (fun hc => .mk ?_) (fun hc => hn _ ?_)
  · rw [h.pos hj (of_decide_eq_true hc)]
  have hc' := of_decide_eq_false hc
  rcases Nat.lt_or_ge j q with h1 | h1
  · exact h1
  · have : j = q := by omega
    subst this
    exact absurd hqx hc'

theorem edge_at {g : Graph} {p : Part} (h : PartOk g p) {j : Nat} (hj : j < p.edges.length) : ∃ hi : p.edges[j].toNat < g.edges.length, 0 ≤ p.edges[j] ∧ (g.edges[p.edges[j].toNat]).src ∈ p.nodes ∧ (g.edges[p.edges[j].toNat]).dst ∈ p.nodes := by
  have hr := h.edges.range j hj
  have hi : p.edges[j].toNat < g.edges.length := by omega
  refine ⟨hi, hr.1, ?_⟩
  have := h.ends _ (List.getElem_mem hj)
  have e : g.edges.getD p.edges[j].toNat default = g.edges[p.edges[j].toNat] := by simp [hi]
  rw [e] at this
  exact this
theorem l_subgraph_part {g : Graph} {p : Part} (h : PartOk g p) : f_subgraph_part g p = some 0 := by
  have hs := h.small
  refine Ok.eq ?_
  unfold f_subgraph_part
  refine ok_eq (l_subgraph_list h.nodes hs.1) ?_
  refine ok_t rfl ?_
  refine ok_eq (l_subgraph_list h.edges hs.2) ?_
  refine ok_t rfl ?_
  refine ok_chk (by unfold fuel; omega) ?_
  refine ok_forN (fun j _ => True) (Nat.zero_le _) trivial (fun j s nxt _ hj _ hn => ?_) (fun s _ => .mk rfl)
  obtain ⟨hi, h0, h1, h2⟩ := edge_at h hj
  refine ok_at hj ?_
  refine ok_atZ h0 hi ?_
  refine ok_eq (l_has h.nodes hs.1 h1) ?_
  refine ok_t rfl ?_
  refine ok_eq (l_has h.nodes hs.1 h2) ?_
  exact ok_t rfl (hn _ trivial)
theorem l_scarfjointref07_Right {g : Graph} {p : Part} (h : PartOk g p) : f_scarfjointref07_Right g p = some 0 := by
  have hs := h.small
  refine Ok.eq ?_
  unfold f_scarfjointref07_Right
  refine ok_eq (l_scarfjointref07_ascending h.nodes hs.1) ?_
  refine ok_t rfl ?_
  refine ok_eq (l_scarfjointref07_ascending h.edges hs.2) ?_
  refine ok_t rfl ?_
  refine ok_chk (by unfold fuel; omega) ?_
  refine ok_forN (fun j _ => True) (Nat.zero_le _) trivial (fun j s nxt _ hj _ hn => ?_) (fun s _ => .mk rfl)
  obtain ⟨hi, h0, h1, h2⟩ := edge_at h hj
  refine ok_at hj ?_
  refine ok_atZ h0 hi ?_
  refine ok_eq (l_rhas h.nodes hs.1 h1) ?_
  refine ok_t rfl ?_
  refine ok_eq (l_rhas h.nodes hs.1 h2) ?_
  exact ok_t rfl (hn _ trivial)
end Go.Proofs.YtdlohnchnneaeaaGreat
/- Sides: both functions answer alike. -/
namespace Go.Proofs.YtdlohnchnneaeaaGreat
open Go.Abs

def extG (g : Graph) (p : Part) : Graph := ⟨p.nodes.map (fun n => g.nodes.getD n.toNat default), p.edges.map (fun n => ⟨(g.edges.getD n.toNat default).type, posL p.nodes (g.edges.getD n.toNat default).src, posL p.nodes (g.edges.getD n.toNat default).dst⟩)⟩
def extH (h : Host) (p : Part) : Host := ⟨extG h.graph p, p.nodes.map (fun n => h.values.getD n.toNat default)⟩
theorem node_at {g : Graph} {p : Part} (h : PartOk g p) {j : Nat} (hj : j < p.nodes.length) : ∃ _ : p.nodes[j].toNat < g.nodes.length, 0 ≤ p.nodes[j] := by
  have hr := h.nodes.range j hj
  exact ⟨by omega, hr.1⟩

theorem l_subgraph_Valid {g : Graph} (hf : FewG g) (hv : validG g = 0) {p : Part} (h : PartOk g p) : f_subgraph_Valid g p = some 0 := by
  refine Ok.eq ?_
  unfold f_subgraph_Valid
  refine ok_eq (r := validG g) (giv_t hf) ?_
  refine ok_t (decide_eq_true hv) ?_
  exact ok_eq (l_subgraph_part h) (.mk rfl)
theorem l_ref07_Valid {g : Graph} (hf : FewG g) (hv : validG g = 0) {p : Part} (h : PartOk g p) : f_scarfjointref07_Valid g p = some 0 := by
  refine Ok.eq ?_
  unfold f_scarfjointref07_Valid
  refine ok_eq (r := validG g) (giv_t hf) ?_
  refine ok_t (decide_eq_true hv) ?_
  exact ok_eq (l_scarfjointref07_Right h) (.mk rfl)
theorem l_clone {l : List Int} (hl : l.length ≤ 1000000) : f_slices_Clone_int l = some l := giv_t hl

theorem l_subgraph_Extract {g : Graph} (hf : FewG g) (hv : validG g = 0) {p : Part} (h : PartOk g p) : f_subgraph_Extract g p = some (extG g p, ⟨p.nodes, p.edges⟩, 0) := by
  have hs := h.small
  refine Ok.eq ?_
  unfold f_subgraph_Extract
  refine ok_eq (l_subgraph_Valid hf hv h) ?_
  refine ok_t rfl ?_
  refine ok_chk (by unfold fuel; omega) ?_
  refine ok_map p.nodes (fun n => g.nodes.getD n.toNat default) (fun j s nxt hj hsl hn => ?_) ?_
  · obtain ⟨hi, h0⟩ := node_at h hj
    refine ok_at hj ?_
    refine ok_atZ h0 hi ?_
    refine ok_chk (by omega) ?_
    have e : g.nodes.getD p.nodes[j].toNat default = g.nodes[p.nodes[j].toNat] := by simp [hi]
    rw [e] at hn
    exact hn
  refine ok_chk (by unfold fuel; omega) ?_
  refine ok_map p.edges (fun n => (⟨(g.edges.getD n.toNat default).type, posL p.nodes (g.edges.getD n.toNat default).src, posL p.nodes (g.edges.getD n.toNat default).dst⟩ : Edge)) (fun j s nxt hj hsl hn => ?_) ?_
  · obtain ⟨hi, h0, h1, h2⟩ := edge_at h hj
    refine ok_at hj ?_
    refine ok_atZ h0 hi ?_
    refine ok_eq (l_search h.nodes hs.1 h1) ?_
    refine ok_eq (l_search h.nodes hs.1 h2) ?_
    refine ok_chk (by omega) ?_
    have e : g.edges.getD p.edges[j].toNat default = g.edges[p.edges[j].toNat] := by simp [hi]
    rw [e] at hn
    exact hn
  refine ok_eq (l_clone (by omega)) ?_
  refine ok_eq (l_clone (by omega)) ?_
  exact .mk rfl
theorem l_ref07_Extract {g : Graph} (hf : FewG g) (hv : validG g = 0) {p : Part} (h : PartOk g p) : f_scarfjointref07_Extract g p = some (extG g p, ⟨p.nodes, p.edges⟩, 0) := by
  have hs := h.small
  refine Ok.eq ?_
  unfold f_scarfjointref07_Extract
  refine ok_eq (l_ref07_Valid hf hv h) ?_
  refine ok_t rfl ?_
  refine ok_chk (by unfold fuel; omega) ?_
  refine ok_map p.nodes (fun n => g.nodes.getD n.toNat default) (fun j s nxt hj hsl hn => ?_) ?_
  · obtain ⟨hi, h0⟩ := node_at h hj
    refine ok_at hj ?_
    refine ok_atZ h0 hi ?_
    refine ok_chk (by omega) ?_
    have e : g.nodes.getD p.nodes[j].toNat default = g.nodes[p.nodes[j].toNat] := by simp [hi]
    rw [e] at hn
    exact hn
  refine ok_chk (by unfold fuel; omega) ?_
  refine ok_map p.edges (fun n => (⟨(g.edges.getD n.toNat default).type, posL p.nodes (g.edges.getD n.toNat default).src, posL p.nodes (g.edges.getD n.toNat default).dst⟩ : Edge)) (fun j s nxt hj hsl hn => ?_) ?_
  · obtain ⟨hi, h0, h1, h2⟩ := edge_at h hj
    refine ok_at hj ?_
    refine ok_atZ h0 hi ?_
    refine ok_eq (l_index h.nodes hs.1 h1) ?_
    refine ok_eq (l_index h.nodes hs.1 h2) ?_
    refine ok_chk (by omega) ?_
    have e : g.edges.getD p.edges[j].toNat default = g.edges[p.edges[j].toNat] := by simp [hi]
    rw [e] at hn
    exact hn
  refine ok_chk (by omega) ?_
  refine ok_chk (by omega) ?_
  exact .mk rfl

theorem validTr_parts {t : Types} {s : Sorts} {h : Host} (hv : validTr t s h = 0) : (validH t h).2 = 0 ∧ validG h.graph = 0 := by
  unfold validTr at hv
  split at hv
  · rename_i h1; exact absurd hv h1
  refine ⟨hv, ?_⟩
  unfold validH at hv
  split at hv
  · rename_i h2; exact absurd hv h2
  split at hv
  · rename_i h2; exact absurd hv h2
  · rename_i h2; simpa using h2

theorem l_host_Extract {t : Types} (hf : FewT t) {s : Sorts} {h : Host} (hh : FewH h) (hv : validTr t s h = 0) {p : Part} (hp : PartOk h.graph p) : f_host_Extract t h p = some (extH h p, 0) := by
  have hs := hp.small
  obtain ⟨h1, h2⟩ := validTr_parts hv
  have hvt := vTr hf hv
  refine Ok.eq ?_
  unfold f_host_Extract
  have hv0 : f_host_valid t h = some 0 := by
    refine Ok.eq ?_
    unfold f_host_valid
    exact ok_eq (r := validH t h) (giv_t ⟨hf, hh⟩) (.mk h1)
  refine ok_eq hv0 ?_
  refine ok_t rfl ?_
  refine ok_eq (l_subgraph_Extract hh.graph h2 hp) ?_
  refine ok_t rfl ?_
  refine ok_chk (by unfold fuel; omega) ?_
  refine ok_map p.nodes (fun n => h.values.getD n.toNat default) (fun j s nxt hj hsl hn => ?_) (.mk rfl)
  obtain ⟨hi, h0⟩ := node_at hp hj
  have hi' : p.nodes[j].toNat < h.values.length := by rw [hvt.vals]; exact hi
  refine ok_at hj ?_
  refine ok_atZ h0 hi' ?_
  refine ok_eq (l_clone (by have := hh.row _ (List.getElem_mem hi'); omega)) ?_
  refine ok_chk (by omega) ?_
  have e : h.values.getD p.nodes[j].toNat default = h.values[p.nodes[j].toNat] := by simp [hi']
  rw [e] at hn
  exact hn
theorem l_ref15_Extract {t : Types} (hf : FewT t) {s : Sorts} {h : Host} (hh : FewH h) (hv : validTr t s h = 0) {p : Part} (hp : PartOk h.graph p) : f_scarfjointref15_Extract t h p = some (extH h p, 0) := by
  have hs := hp.small
  obtain ⟨h1, h2⟩ := validTr_parts hv
  have hvt := vTr hf hv
  refine Ok.eq ?_
  unfold f_scarfjointref15_Extract
  refine ok_eq (r := validH t h) (giv_t ⟨hf, hh⟩) ?_
  refine ok_t (decide_eq_true h1) ?_
  refine ok_eq (l_ref07_Extract hh.graph h2 hp) ?_
  refine ok_t rfl ?_
  dsimp only
  refine ok_chk (by unfold fuel; omega) ?_
  refine ok_map p.nodes (fun n => h.values.getD n.toNat default) (fun j s nxt hj hsl hn => ?_) (.mk rfl)
  obtain ⟨hi, h0⟩ := node_at hp hj
  have hi' : p.nodes[j].toNat < h.values.length := by rw [hvt.vals]; exact hi
  refine ok_at hj ?_
  refine ok_atZ h0 hi' ?_
  refine ok_chk (by have := hh.row _ (List.getElem_mem hi'); omega) ?_
  refine ok_chk (by omega) ?_
  have e : h.values.getD p.nodes[j].toNat default = h.values[p.nodes[j].toNat] := by simp [hi']
  rw [e] at hn
  exact hn

theorem l_triple_part {s : Sorts} {g : Graph} (ho : OkTr s g) (k : Int) : f_triple_part s g k = some (partX s g k) := by
  have hgn := ho.nodes
  have hge := ho.edges
  refine Ok.eq ?_
  unfold f_triple_part
  refine ok_chk (by unfold fuel; omega) ?_
  refine ok_forN (fun j o => o = pick (fun i => decide (nodeS s g i = k)) j) (Nat.zero_le _) rfl (fun j o nxt _ hj e hn => ?_) (fun o e => ?_)
  · subst e
    have hP := pick_succ (fun i => decide (nodeS s g i = k)) j
    have hL := pick_len (fun i => decide (nodeS s g i = k)) j
    have hk := ho.kind j hj
    have e1 : g.nodes.getD j default = g.nodes[j] := by simp [hj]
    rw [e1] at hk
    have e2 : s.nodes[g.nodes[j].toNat]'(by have := hk.2; have := hk.1; omega) = nodeS s g j := by unfold nodeS; rw [e1]; have := hk.2; have := hk.1; simp [show g.nodes[j].toNat < s.nodes.length by omega]
    refine ok_at hj ?_
    refine ok_atZ hk.1 (by have := hk.2; have := hk.1; omega) ?_
    rw [e2]
    refine ok_cond (fun h1 => ?_) (fun h1 => ?_)
    · rw [if_pos h1] at hP
      refine ok_chk (by omega) ?_
      exact hn _ hP.symm
    · rw [if_neg (by rw [h1]; decide)] at hP
      exact hn _ hP.symm
  subst e
  refine ok_chk (by unfold fuel; omega) ?_
  refine ok_forN (fun j o => o = pick (fun i => decide (edgeS s g i = k)) j) (Nat.zero_le _) rfl (fun j o nxt _ hj e hn => ?_) (fun o e => by subst e; exact .mk rfl)
  subst e
  have hP := pick_succ (fun i => decide (edgeS s g i = k)) j
  have hL := pick_len (fun i => decide (edgeS s g i = k)) j
  have hk := ho.type j hj
  have e1 : g.edges.getD j default = g.edges[j] := by simp [hj]
  rw [e1] at hk
  have e2 : s.edges[g.edges[j].type.toNat]'(by have := hk.2; have := hk.1; omega) = edgeS s g j := by unfold edgeS; rw [e1]; have := hk.2; have := hk.1; simp [show g.edges[j].type.toNat < s.edges.length by omega]
  refine ok_at hj ?_
  refine ok_atZ hk.1 (by have := hk.2; have := hk.1; omega) ?_
  rw [e2]
  refine ok_cond (fun h1 => ?_) (fun h1 => ?_)
  · rw [if_pos h1] at hP
    refine ok_chk (by omega) ?_
    exact hn _ hP.symm
  · rw [if_neg (by rw [h1]; decide)] at hP
    exact hn _ hP.symm

def sideX (t : Types) (s : Sorts) (h : Host) (k : Int) : Host × Part × Int :=
  if validTr t s h ≠ 0 then (⟨⟨[], []⟩, []⟩, ⟨[], []⟩, validTr t s h)
  else if k = 1 ∨ k = 3 then (extH h (partX s h.graph k), partX s h.graph k, 0) else (⟨⟨[], []⟩, []⟩, ⟨[], []⟩, 6)
theorem l_triple_Side {t : Types} (hf : FewT t) {s : Sorts} (hs : FewS s) {h : Host} (hh : FewH h) (k : Int) : f_triple_Side t s h k = some (sideX t s h k) := by
  refine Ok.eq ?_
  unfold f_triple_Side sideX
  refine ok_eq (r := validTr t s h) (giv_t ⟨hf, hs, hh⟩) ?_
  refine ok_cond (fun hc => ?_) (fun hc => .mk ?_)
  · have hv := of_decide_eq_true hc
    have hvt := vTr hf hv
    rw [if_neg (by rw [hv]; decide)]
    refine ok_cond (fun h1 => ?_) (fun h1 => ok_cond (fun h3 => ?_) (fun h3 => .mk ?_))
    · have h1' := of_decide_eq_true h1
      rw [if_pos (.inl h1')]
      refine ok_eq (l_triple_part hvt.ok k) ?_
      refine ok_eq (l_host_Extract hf hh hv (partX_ok hvt (by omega))) ?_
      exact ok_t rfl (.mk rfl)
    · have h3' := of_decide_eq_true h3
      rw [if_pos (.inr h3')]
      refine ok_eq (l_triple_part hvt.ok k) ?_
      refine ok_eq (l_host_Extract hf hh hv (partX_ok hvt (by omega))) ?_
      exact ok_t rfl (.mk rfl)
    · rw [if_neg (by have := of_decide_eq_false h1; have := of_decide_eq_false h3; omega)]
  · rw [if_pos (of_decide_eq_false hc)]
theorem l_ref52_Side {t : Types} (hf : FewT t) {s : Sorts} (hs : FewS s) {h : Host} (hh : FewH h) (k : Int) : f_scarfjointref52_Side t s h k = some (sideX t s h k) := by
  refine Ok.eq ?_
  unfold f_scarfjointref52_Side sideX
  refine ok_eq (r := validTr t s h) (giv_t ⟨hf, hs, hh⟩) ?_
  refine ok_cond (fun hc => ?_) (fun hc => .mk ?_)
  · have hv := of_decide_eq_true hc
    have hvt := vTr hf hv
    rw [if_neg (by rw [hv]; decide)]
    refine ok_cond (fun h1 => ?_) (fun h1 => ok_cond (fun h3 => ?_) (fun h3 => .mk ?_))
    · have h1' := of_decide_eq_true h1
      rw [if_pos (.inl h1')]
      refine ok_eq (r := partX s h.graph k) (giv_t hvt.ok) ?_
      exact ok_eq (l_ref15_Extract hf hh hv (partX_ok hvt (by omega))) (.mk rfl)
    · have h3' := of_decide_eq_true h3
      rw [if_pos (.inr h3')]
      refine ok_eq (r := partX s h.graph k) (giv_t hvt.ok) ?_
      exact ok_eq (l_ref15_Extract hf hh hv (partX_ok hvt (by omega))) (.mk rfl)
    · rw [if_neg (by have := of_decide_eq_false h1; have := of_decide_eq_false h3; omega)]
  · rw [if_pos (of_decide_eq_false hc)]
end Go.Proofs.YtdlohnchnneaeaaGreat
/- Small arguments; equal values; TripleSide. -/
namespace Go.Proofs.YtdlohnchnneaeaaGreat
open Go.Abs

theorem ok_all {α O : Type} {Q : O → Prop} {f : Nat → Unit → (Unit → Option O) → (Unit → Option O) → Option O} {K : Unit → Option O} (l : List α) (p : α → Prop)
    (hr : ∀ j (nxt : Unit → Option O) (hj : j < l.length), (p l[j] → Ok (nxt ()) Q) → Ok (f j () nxt K) Q) (he : (∀ x ∈ l, p x) → Ok (K ()) Q) : Ok (forN f (l.length - 0) 0 () K) Q := by
  refine ok_forN (fun j _ => ∀ i (h : i < l.length), i < j → p l[i]) (Nat.zero_le _) (fun i _ h => absurd h (Nat.not_lt_zero i)) (fun j s nxt _ hj hq hn => ?_) (fun s hq => ?_)
  · refine hr j nxt hj fun hp => hn () fun i h hi => ?_
    rcases Nat.lt_succ_iff_lt_or_eq.1 hi with h' | h'
    · exact hq i h h'
    · subst h'; exact hp
  · refine he fun x hx => ?_
    obtain ⟨i, hi, rfl⟩ := List.mem_iff_getElem.1 hx
    exact hq i hi hi

theorem l_few04 {t : Types} (hm : FitT t) : Ok (f_scarfjointref04_Few t) (fun b => b = true → FewT t) := by
  have no : ∀ {Q : Prop}, (false = true → Q) := fun h => by cases h
  unfold f_scarfjointref04_Few
  refine ok_cond (fun _ => .mk no) (fun h1 => ?_)
  refine ok_cond (fun _ => .mk no) (fun h2 => ?_)
  have h1' := of_decide_eq_false h1
  have h2' := of_decide_eq_false h2
  have hn20 : t.nodes.length ≤ 20 := by omega
  refine ok_chk (by unfold fuel; omega) ?_
  refine ok_forN (fun j s => (0 ≤ s ∧ s ≤ 30) ∧ ∀ i, i < j → goodN (t.nodes.getD i default)) (Nat.zero_le _) ⟨by decide, fun i h => absurd h (Nat.not_lt_zero i)⟩ (fun j s nxt _ hj hq hn => ?_) (fun s hq => ?_)
  · obtain ⟨hs, hq⟩ := hq
    have hfit := hm.attrs _ (List.getElem_mem hj)
    refine ok_at hj ?_
    rw [wrapI (by omega)]
    refine ok_cond (fun _ => .mk no) (fun h3 => ?_)
    have h3' := of_decide_eq_false h3
    refine ok_cond (fun _ => .mk no) (fun h4 => ?_)
    have h4' := of_decide_eq_false h4
    refine ok_chk (by unfold fuel; omega) ?_
    refine ok_all (t.nodes[j]).attrs FewA (fun i nxt2 hi hn2 => ?_) (fun hall => ?_)
    · refine ok_at hi ?_
      refine ok_cond (fun _ => .mk no) (fun h5 => ?_)
      have h5' := of_decide_eq_false h5
      refine ok_cond (fun _ => .mk no) (fun h6 => ?_)
      have h6' := of_decide_eq_false h6
      refine ok_chk (by unfold fuel; omega) ?_
      refine ok_all ((t.nodes[j]).attrs[i]).names (fun w => w.size ≤ 40) (fun m nxt3 hm3 hn3 => ?_) (fun hw => hn2 ⟨by omega, by omega, hw⟩)
      refine ok_at hm3 ?_
      refine ok_cond (fun _ => .mk no) (fun h7 => ?_)
      have h7' := of_decide_eq_false h7
      exact hn3 (by omega)
    · refine hn _ ⟨by omega, all_succP hq ?_⟩
      have e : t.nodes.getD j default = t.nodes[j] := by simp [hj]
      rw [e]
      refine ⟨by omega, by omega, fun i hi => ?_⟩
      have e2 : (t.nodes[j]).attrs.getD i default = (t.nodes[j]).attrs[i] := by simp [hi]
      rw [e2]
      exact hall _ (List.getElem_mem hi)
  · refine ok_chk (by unfold fuel; omega) ?_
    refine ok_all t.edges (fun e => e.name.size ≤ 40) (fun i nxt2 hi hn2 => ?_) (fun hall => .mk fun _ => ?_)
    · refine ok_at hi ?_
      refine ok_cond (fun _ => .mk no) (fun h7 => ?_)
      have h7' := of_decide_eq_false h7
      exact hn2 (by omega)
    · exact fewT_of hn20 (by omega) hq.2 (fun i hi => hall _ (getD_mem hi))
theorem l_fewS {s : Sorts} (hm : SmallS s) : Ok (f_scarfjointref52_Few s) (fun b => b = true → FewS s) := by
  obtain ⟨h1, h2⟩ := hm
  unfold f_scarfjointref52_Few
  refine .mk fun h => ?_
  have h' := of_decide_eq_true h
  rw [wrapI (by omega)] at h'
  unfold FewS
  omega
theorem l_few05 (g : Graph) : Ok (f_scarfjointref05_Few g) (fun b => b = true → FewG g) := by
  unfold f_scarfjointref05_Few
  refine ok_cond (fun h1 => .mk fun h2 => ?_) (fun _ => .mk fun h => by cases h)
  have h1' := of_decide_eq_true h1
  have h2' := of_decide_eq_true h2
  exact ⟨by omega, by omega⟩
theorem l_few15 (h : Host) : Ok (f_scarfjointref15_Few h) (fun b => b = true → FewH h) := by
  have no : ∀ {Q : Prop}, (false = true → Q) := fun h => by cases h
  unfold f_scarfjointref15_Few
  refine ok_thn (l_few05 h.graph) fun b hb => ?_
  refine ok_cond (fun h1 => ?_) (fun _ => .mk no)
  refine ok_cond (fun _ => .mk no) (fun h2 => ?_)
  have h2' := of_decide_eq_false h2
  refine ok_chk (by unfold fuel; omega) ?_
  refine ok_all h.values (fun l => l.length ≤ 12) (fun i nxt hi hn => ?_) (fun hall => .mk fun _ => ⟨hb h1, by omega, hall⟩)
  refine ok_at hi ?_
  refine ok_cond (fun _ => .mk no) (fun h7 => ?_)
  have h7' := of_decide_eq_false h7
  exact hn (by omega)
theorem l_few {t : Types} (hm : FitT t) {s : Sorts} (hs : SmallS s) (h : Host) : Ok (f_scarfjointlaw52_few t s h) (fun b => b = true → FewT t ∧ FewS s ∧ FewH h) := by
  have no : ∀ {Q : Prop}, (false = true → Q) := fun h => by cases h
  unfold f_scarfjointlaw52_few
  refine ok_thn (l_few04 hm) fun b hb => ?_
  refine ok_cond (fun h1 => ?_) (fun _ => .mk no)
  refine ok_thn (l_fewS hs) fun c hc => ?_
  refine ok_cond (fun h2 => ?_) (fun _ => .mk no)
  refine ok_thn (l_few15 h) fun d hd => ?_
  exact .mk fun h3 => ⟨hb h1, hc h2, hd h3⟩

theorem l_sameInts {a : List Int} (h : a.length ≤ 1000000) : f_scarfjointref05_SameInts a a = some true := by
  refine Ok.eq ?_
  unfold f_scarfjointref05_SameInts
  refine ok_t (decide_eq_true rfl) ?_
  refine ok_chk (by unfold fuel; omega) ?_
  refine ok_all a (fun _ => True) (fun i nxt hi hn => ?_) (fun _ => .mk rfl)
  refine ok_at hi ?_
  refine ok_at hi ?_
  exact ok_t (decide_eq_true rfl) (hn trivial)
theorem l_sameG {g : Graph} (h : g.nodes.length ≤ 1000000 ∧ g.edges.length ≤ 1000000) : f_scarfjointref05_Same g g = some true := by
  refine Ok.eq ?_
  unfold f_scarfjointref05_Same
  refine ok_eq (l_sameInts h.1) ?_
  refine ok_t rfl ?_
  refine ok_t (decide_eq_true rfl) ?_
  refine ok_chk (by unfold fuel; omega) ?_
  refine ok_all g.edges (fun _ => True) (fun i nxt hi hn => ?_) (fun _ => .mk rfl)
  refine ok_at hi ?_
  refine ok_at hi ?_
  exact ok_t (by simp) (hn trivial)
theorem l_compare {a : List Int} (h : a.length ≤ 1000000) : f_scarfjointref15_compare a a = some 0 := by
  refine Ok.eq ?_
  unfold f_scarfjointref15_compare
  refine ok_iter (fun s : Int => 0 ≤ s ∧ s ≤ a.length) (fun s : Int => ((a.length : Int) - s).toNat) ⟨by simp, by simp⟩ (by unfold fuel; simp; omega) (fun s nxt hs hn => ?_)
  refine ok_cond (fun h1 => ?_) (fun h1 => .mk ?_)
  · have h1' := of_decide_eq_true h1
    refine ok_t h1 ?_
    refine ok_atZ hs.1 (by omega) ?_
    refine ok_atZ hs.1 (by omega) ?_
    refine ok_t (decide_eq_true rfl) ?_
    rw [wrapI (by omega)]
    exact hn _ ⟨by omega, by omega⟩ (by omega)
  · rw [Int.sub_self]; rfl
theorem l_sameH {h : Host} (h1 : h.graph.nodes.length ≤ 1000000 ∧ h.graph.edges.length ≤ 1000000) (h2 : h.values.length ≤ 1000000) (h3 : ∀ l ∈ h.values, l.length ≤ 1000000) : f_scarfjointref15_Same h h = some true := by
  refine Ok.eq ?_
  unfold f_scarfjointref15_Same
  refine ok_eq (l_sameG h1) ?_
  refine ok_t rfl ?_
  refine ok_t (decide_eq_true rfl) ?_
  refine ok_chk (by unfold fuel; omega) ?_
  refine ok_all h.values (fun _ => True) (fun i nxt hi hn => ?_) (fun _ => .mk rfl)
  refine ok_at hi ?_
  refine ok_at hi ?_
  refine ok_eq (l_compare (h3 _ (List.getElem_mem hi))) ?_
  exact ok_t rfl (hn trivial)
theorem l_sameP {p : Part} (h : p.nodes.length ≤ 1000000 ∧ p.edges.length ≤ 1000000) : f_scarfjointref07_Same p p = some true := by
  refine Ok.eq ?_
  unfold f_scarfjointref07_Same
  refine ok_eq (l_sameInts h.1) ?_
  refine ok_t rfl ?_
  exact ok_eq (l_sameInts h.2) (.mk rfl)

theorem sideX_small {t : Types} (hf : FewT t) {s : Sorts} {h : Host} (hh : FewH h) (k : Int) :
    ((sideX t s h k).1.graph.nodes.length ≤ 1000000 ∧ (sideX t s h k).1.graph.edges.length ≤ 1000000) ∧ (sideX t s h k).1.values.length ≤ 1000000 ∧ (∀ l ∈ (sideX t s h k).1.values, l.length ≤ 1000000) ∧
    ((sideX t s h k).2.1.nodes.length ≤ 1000000 ∧ (sideX t s h k).2.1.edges.length ≤ 1000000) := by
  unfold sideX
  split
  · simp
  rename_i hv
  split
  · have hvt := vTr hf (by simpa using hv)
    rename_i hk
    have hp := (partX_ok hvt (k := k) (by omega)).small
    refine ⟨⟨?_, ?_⟩, ?_, ?_, by dsimp only; omega, by dsimp only; omega⟩
    · show (List.map _ _).length ≤ _; rw [List.length_map]; omega
    · show (List.map _ _).length ≤ _; rw [List.length_map]; omega
    · show (List.map _ _).length ≤ _; rw [List.length_map]; omega
    · intro l hl
      have hl' : l ∈ List.map _ _ := hl
      obtain ⟨n, hn, rfl⟩ := List.mem_map.1 hl'
      by_cases h0 : n.toNat < h.values.length
      · have := hh.row _ (getD_mem (a := n.toNat) h0)
        omega
      · have : h.values.getD n.toNat default = [] := by simp [Nat.le_of_not_lt h0]; rfl
        rw [this]; simp
  · simp

theorem l_TripleSide (c : T_scarfjointlaw52_Case) (hm : FitT c.t) (hs : SmallS c.s) (h : Host) (k : Int) : f_scarfjointlaw52_TripleSide c h k = some true := by
  refine Ok.eq ?_
  unfold f_scarfjointlaw52_TripleSide
  refine ok_eq (r := true) rfl ?_
  refine ok_t rfl ?_
  refine ok_thn (l_few hm hs h) fun b hb => ?_
  refine ok_cond (fun h1 => ?_) (fun _ => ok_eq (r := true) rfl (.mk rfl))
  obtain ⟨h2, h3, h4⟩ := hb h1
  refine ok_eq (l_triple_Side h2 h3 h4 k) ?_
  refine ok_eq (l_ref52_Side h2 h3 h4 k) ?_
  refine ok_eq (r := validTr c.t c.s h) (giv_t ⟨h2, h3, h4⟩) ?_
  refine ok_eq (r := validTr c.t c.s h) (giv_t ⟨h2, h3, h4⟩) ?_
  refine ok_t (decide_eq_true rfl) ?_
  refine ok_t (decide_eq_true rfl) ?_
  obtain ⟨q1, q2, q3, q4⟩ := sideX_small h2 (s := c.s) h4 k
  refine ok_eq (l_sameH q1 q2 q3) ?_
  refine ok_t rfl ?_
  exact ok_eq (l_sameP q4) (.mk rfl)
theorem TripleSide_ok (t : Types) (hm : FitT t) (s : Sorts) (hs : SmallS s) (h : Host) (k : Int) : CallV Go.Proofs.Tryz.prog 6 [encCase t s, encHost h, .val (.int .i64 k)] (fun v => v = .val (.bool true)) :=
  w_scarfjointlaw52_TripleSide ⟨t, s⟩ h k true (l_TripleSide ⟨t, s⟩ hm hs h k)
end Go.Proofs.YtdlohnchnneaeaaGreat
