/- Joined texts, part 3: lemmas for the statement. No condition. -/
import Derived.Test.YtdlohnchnneaeaaGreatJ2
import Derived.Test.YtdlohnchnneaeaaGreatProg
import Derived.KernelRfl
import Derived.Lib.Bytealg
set_option linter.unusedSimpArgs false
set_option linter.unusedVariables false
open Nat (reduceEqDiff reduceLT reduceLeDiff reduceMul reduceAdd reduceSub)
/- Facts on the types of this seat's program, by the kernel. Printed by gen_ty.py. -/
namespace Go.Proofs.YtdlohnchnneaeaaGreat.Ty
open Go Go.Abs
theorem mixed : Go.Proofs.Tryz.prog.follows .mixedOrders = true := by kernel_rfl
-- 2: int64
@[go_sem] theorem size2 : tySize Go.Proofs.Tryz.prog 2 = some 1 := by kernel_rfl
@[go_sem] theorem agg2 : tyAgg Go.Proofs.Tryz.prog 2 = some false := by kernel_rfl
@[go_sem] theorem zero2 : tyZero Go.Proofs.Tryz.prog 2 = some [.int .i64 0] := by kernel_rfl
@[go_sem] theorem int2 : tyInt Go.Proofs.Tryz.prog 2 = some .i64 := by kernel_rfl
@[go_sem] theorem und2 : (Program.underlying Go.Proofs.Tryz.prog 2).isSome = true := by kernel_rfl
-- 3: int
@[go_sem] theorem size3 : tySize Go.Proofs.Tryz.prog 3 = some 1 := by kernel_rfl
@[go_sem] theorem agg3 : tyAgg Go.Proofs.Tryz.prog 3 = some false := by kernel_rfl
@[go_sem] theorem zero3 : tyZero Go.Proofs.Tryz.prog 3 = some [.int .i64 0] := by kernel_rfl
@[go_sem] theorem int3 : tyInt Go.Proofs.Tryz.prog 3 = some .i64 := by kernel_rfl
@[go_sem] theorem und3 : (Program.underlying Go.Proofs.Tryz.prog 3).isSome = true := by kernel_rfl
-- 4: bool
@[go_sem] theorem size4 : tySize Go.Proofs.Tryz.prog 4 = some 1 := by kernel_rfl
@[go_sem] theorem agg4 : tyAgg Go.Proofs.Tryz.prog 4 = some false := by kernel_rfl
@[go_sem] theorem zero4 : tyZero Go.Proofs.Tryz.prog 4 = some [.bool false] := by kernel_rfl
@[go_sem] theorem bool4 : tyBool Go.Proofs.Tryz.prog 4 = true := by kernel_rfl
-- 5: uint8
@[go_sem] theorem size5 : tySize Go.Proofs.Tryz.prog 5 = some 1 := by kernel_rfl
@[go_sem] theorem agg5 : tyAgg Go.Proofs.Tryz.prog 5 = some false := by kernel_rfl
@[go_sem] theorem zero5 : tyZero Go.Proofs.Tryz.prog 5 = some [.int .u8 0] := by kernel_rfl
@[go_sem] theorem int5 : tyInt Go.Proofs.Tryz.prog 5 = some .u8 := by kernel_rfl
@[go_sem] theorem und5 : (Program.underlying Go.Proofs.Tryz.prog 5).isSome = true := by kernel_rfl
-- 6: abi.BoundsErrorCode
@[go_sem] theorem size6 : tySize Go.Proofs.Tryz.prog 6 = some 1 := by kernel_rfl
@[go_sem] theorem agg6 : tyAgg Go.Proofs.Tryz.prog 6 = some false := by kernel_rfl
@[go_sem] theorem zero6 : tyZero Go.Proofs.Tryz.prog 6 = some [.int .u8 0] := by kernel_rfl
@[go_sem] theorem int6 : tyInt Go.Proofs.Tryz.prog 6 = some .u8 := by kernel_rfl
@[go_sem] theorem und6 : (Program.underlying Go.Proofs.Tryz.prog 6).isSome = true := by kernel_rfl
-- 7: struct { x int64; y int; signed bool; code abi.BoundsErrorCode }
@[go_sem] theorem size7 : tySize Go.Proofs.Tryz.prog 7 = some 4 := by kernel_rfl
@[go_sem] theorem agg7 : tyAgg Go.Proofs.Tryz.prog 7 = some true := by kernel_rfl
@[go_sem] theorem zero7 : tyZero Go.Proofs.Tryz.prog 7 = some [.int .i64 0, .int .i64 0, .bool false, .int .u8 0] := by kernel_rfl
@[go_sem] theorem pl7 : tyPlaces Go.Proofs.Tryz.prog 7 = some [(0, 1), (1, 1), (2, 1), (3, 1)] := by kernel_rfl
@[go_sem] theorem fld7_0 : fldOff Go.Proofs.Tryz.prog 7 0 = some (0, 1) := by kernel_rfl
@[go_sem] theorem fld7_1 : fldOff Go.Proofs.Tryz.prog 7 1 = some (1, 1) := by kernel_rfl
@[go_sem] theorem fld7_2 : fldOff Go.Proofs.Tryz.prog 7 2 = some (2, 1) := by kernel_rfl
@[go_sem] theorem fld7_3 : fldOff Go.Proofs.Tryz.prog 7 3 = some (3, 1) := by kernel_rfl
-- 8: runtime.boundsError
@[go_sem] theorem size8 : tySize Go.Proofs.Tryz.prog 8 = some 4 := by kernel_rfl
@[go_sem] theorem agg8 : tyAgg Go.Proofs.Tryz.prog 8 = some true := by kernel_rfl
@[go_sem] theorem zero8 : tyZero Go.Proofs.Tryz.prog 8 = some [.int .i64 0, .int .i64 0, .bool false, .int .u8 0] := by kernel_rfl
@[go_sem] theorem pl8 : tyPlaces Go.Proofs.Tryz.prog 8 = some [(0, 1), (1, 1), (2, 1), (3, 1)] := by kernel_rfl
@[go_sem] theorem fld8_0 : fldOff Go.Proofs.Tryz.prog 8 0 = some (0, 1) := by kernel_rfl
@[go_sem] theorem fld8_1 : fldOff Go.Proofs.Tryz.prog 8 1 = some (1, 1) := by kernel_rfl
@[go_sem] theorem fld8_2 : fldOff Go.Proofs.Tryz.prog 8 2 = some (2, 1) := by kernel_rfl
@[go_sem] theorem fld8_3 : fldOff Go.Proofs.Tryz.prog 8 3 = some (3, 1) := by kernel_rfl
-- 9: string
@[go_sem] theorem size9 : tySize Go.Proofs.Tryz.prog 9 = some 1 := by kernel_rfl
@[go_sem] theorem agg9 : tyAgg Go.Proofs.Tryz.prog 9 = some false := by kernel_rfl
@[go_sem] theorem zero9 : tyZero Go.Proofs.Tryz.prog 9 = some [.string ⟨#[]⟩] := by kernel_rfl
@[go_sem] theorem str9 : tyStr Go.Proofs.Tryz.prog 9 = true := by kernel_rfl
-- 10: runtime.errorString
@[go_sem] theorem size10 : tySize Go.Proofs.Tryz.prog 10 = some 1 := by kernel_rfl
@[go_sem] theorem agg10 : tyAgg Go.Proofs.Tryz.prog 10 = some false := by kernel_rfl
@[go_sem] theorem zero10 : tyZero Go.Proofs.Tryz.prog 10 = some [.string ⟨#[]⟩] := by kernel_rfl
@[go_sem] theorem str10 : tyStr Go.Proofs.Tryz.prog 10 = true := by kernel_rfl
-- 11: runtime.plainError
@[go_sem] theorem size11 : tySize Go.Proofs.Tryz.prog 11 = some 1 := by kernel_rfl
@[go_sem] theorem agg11 : tyAgg Go.Proofs.Tryz.prog 11 = some false := by kernel_rfl
@[go_sem] theorem zero11 : tyZero Go.Proofs.Tryz.prog 11 = some [.string ⟨#[]⟩] := by kernel_rfl
@[go_sem] theorem str11 : tyStr Go.Proofs.Tryz.prog 11 = true := by kernel_rfl
-- 12: uintptr
@[go_sem] theorem size12 : tySize Go.Proofs.Tryz.prog 12 = some 1 := by kernel_rfl
@[go_sem] theorem agg12 : tyAgg Go.Proofs.Tryz.prog 12 = some false := by kernel_rfl
@[go_sem] theorem zero12 : tyZero Go.Proofs.Tryz.prog 12 = some [.int .u64 0] := by kernel_rfl
@[go_sem] theorem int12 : tyInt Go.Proofs.Tryz.prog 12 = some .u64 := by kernel_rfl
@[go_sem] theorem und12 : (Program.underlying Go.Proofs.Tryz.prog 12).isSome = true := by kernel_rfl
-- 13: struct { msg string; addr uintptr }
@[go_sem] theorem size13 : tySize Go.Proofs.Tryz.prog 13 = some 2 := by kernel_rfl
@[go_sem] theorem agg13 : tyAgg Go.Proofs.Tryz.prog 13 = some true := by kernel_rfl
@[go_sem] theorem zero13 : tyZero Go.Proofs.Tryz.prog 13 = some [.string ⟨#[]⟩, .int .u64 0] := by kernel_rfl
@[go_sem] theorem pl13 : tyPlaces Go.Proofs.Tryz.prog 13 = some [(0, 1), (1, 1)] := by kernel_rfl
@[go_sem] theorem fld13_0 : fldOff Go.Proofs.Tryz.prog 13 0 = some (0, 1) := by kernel_rfl
@[go_sem] theorem fld13_1 : fldOff Go.Proofs.Tryz.prog 13 1 = some (1, 1) := by kernel_rfl
-- 14: runtime.errorAddressString
@[go_sem] theorem size14 : tySize Go.Proofs.Tryz.prog 14 = some 2 := by kernel_rfl
@[go_sem] theorem agg14 : tyAgg Go.Proofs.Tryz.prog 14 = some true := by kernel_rfl
@[go_sem] theorem zero14 : tyZero Go.Proofs.Tryz.prog 14 = some [.string ⟨#[]⟩, .int .u64 0] := by kernel_rfl
@[go_sem] theorem pl14 : tyPlaces Go.Proofs.Tryz.prog 14 = some [(0, 1), (1, 1)] := by kernel_rfl
@[go_sem] theorem fld14_0 : fldOff Go.Proofs.Tryz.prog 14 0 = some (0, 1) := by kernel_rfl
@[go_sem] theorem fld14_1 : fldOff Go.Proofs.Tryz.prog 14 1 = some (1, 1) := by kernel_rfl
-- 15: *runtime.TypeAssertionError
@[go_sem] theorem size15 : tySize Go.Proofs.Tryz.prog 15 = some 1 := by kernel_rfl
@[go_sem] theorem agg15 : tyAgg Go.Proofs.Tryz.prog 15 = some false := by kernel_rfl
@[go_sem] theorem zero15 : tyZero Go.Proofs.Tryz.prog 15 = some [.pointer none] := by kernel_rfl
-- 16: *runtime.PanicNilError
@[go_sem] theorem size16 : tySize Go.Proofs.Tryz.prog 16 = some 1 := by kernel_rfl
@[go_sem] theorem agg16 : tyAgg Go.Proofs.Tryz.prog 16 = some false := by kernel_rfl
@[go_sem] theorem zero16 : tyZero Go.Proofs.Tryz.prog 16 = some [.pointer none] := by kernel_rfl
-- 17: *abi.Type
@[go_sem] theorem size17 : tySize Go.Proofs.Tryz.prog 17 = some 1 := by kernel_rfl
@[go_sem] theorem agg17 : tyAgg Go.Proofs.Tryz.prog 17 = some false := by kernel_rfl
@[go_sem] theorem zero17 : tyZero Go.Proofs.Tryz.prog 17 = some [.pointer none] := by kernel_rfl
-- 18: struct { typ *abi.Type }
@[go_sem] theorem size18 : tySize Go.Proofs.Tryz.prog 18 = some 1 := by kernel_rfl
@[go_sem] theorem agg18 : tyAgg Go.Proofs.Tryz.prog 18 = some true := by kernel_rfl
@[go_sem] theorem zero18 : tyZero Go.Proofs.Tryz.prog 18 = some [.pointer none] := by kernel_rfl
@[go_sem] theorem pl18 : tyPlaces Go.Proofs.Tryz.prog 18 = some [(0, 1)] := by kernel_rfl
@[go_sem] theorem fld18_0 : fldOff Go.Proofs.Tryz.prog 18 0 = some (0, 1) := by kernel_rfl
-- 19: maps.unhashableTypeError
@[go_sem] theorem size19 : tySize Go.Proofs.Tryz.prog 19 = some 1 := by kernel_rfl
@[go_sem] theorem agg19 : tyAgg Go.Proofs.Tryz.prog 19 = some true := by kernel_rfl
@[go_sem] theorem zero19 : tyZero Go.Proofs.Tryz.prog 19 = some [.pointer none] := by kernel_rfl
@[go_sem] theorem pl19 : tyPlaces Go.Proofs.Tryz.prog 19 = some [(0, 1)] := by kernel_rfl
@[go_sem] theorem fld19_0 : fldOff Go.Proofs.Tryz.prog 19 0 = some (0, 1) := by kernel_rfl
-- 21: int32
@[go_sem] theorem size21 : tySize Go.Proofs.Tryz.prog 21 = some 1 := by kernel_rfl
@[go_sem] theorem agg21 : tyAgg Go.Proofs.Tryz.prog 21 = some false := by kernel_rfl
@[go_sem] theorem zero21 : tyZero Go.Proofs.Tryz.prog 21 = some [.int .i32 0] := by kernel_rfl
@[go_sem] theorem int21 : tyInt Go.Proofs.Tryz.prog 21 = some .i32 := by kernel_rfl
@[go_sem] theorem und21 : (Program.underlying Go.Proofs.Tryz.prog 21).isSome = true := by kernel_rfl
-- 22: []api.NodeType
@[go_sem] theorem size22 : tySize Go.Proofs.Tryz.prog 22 = some 1 := by kernel_rfl
@[go_sem] theorem agg22 : tyAgg Go.Proofs.Tryz.prog 22 = some false := by kernel_rfl
@[go_sem] theorem zero22 : tyZero Go.Proofs.Tryz.prog 22 = some [.slice none 0 0] := by kernel_rfl
@[go_sem] theorem elem22 : slElem Go.Proofs.Tryz.prog 22 = some 97 := by kernel_rfl
@[go_sem] theorem isSl22 : isSlice Go.Proofs.Tryz.prog 22 = true := by kernel_rfl
@[go_sem] theorem app22 : appTypes Go.Proofs.Tryz.prog 22 22 = some (97, 4, 56) := by kernel_rfl
-- 23: []api.EdgeType
@[go_sem] theorem size23 : tySize Go.Proofs.Tryz.prog 23 = some 1 := by kernel_rfl
@[go_sem] theorem agg23 : tyAgg Go.Proofs.Tryz.prog 23 = some false := by kernel_rfl
@[go_sem] theorem zero23 : tyZero Go.Proofs.Tryz.prog 23 = some [.slice none 0 0] := by kernel_rfl
@[go_sem] theorem elem23 : slElem Go.Proofs.Tryz.prog 23 = some 99 := by kernel_rfl
@[go_sem] theorem isSl23 : isSlice Go.Proofs.Tryz.prog 23 = true := by kernel_rfl
@[go_sem] theorem app23 : appTypes Go.Proofs.Tryz.prog 23 23 = some (99, 7, 64) := by kernel_rfl
-- 24: struct { Nodes []api.NodeType; Edges []api.EdgeType }
@[go_sem] theorem size24 : tySize Go.Proofs.Tryz.prog 24 = some 2 := by kernel_rfl
@[go_sem] theorem agg24 : tyAgg Go.Proofs.Tryz.prog 24 = some true := by kernel_rfl
@[go_sem] theorem zero24 : tyZero Go.Proofs.Tryz.prog 24 = some [.slice none 0 0, .slice none 0 0] := by kernel_rfl
@[go_sem] theorem pl24 : tyPlaces Go.Proofs.Tryz.prog 24 = some [(0, 1), (1, 1)] := by kernel_rfl
@[go_sem] theorem fld24_0 : fldOff Go.Proofs.Tryz.prog 24 0 = some (0, 1) := by kernel_rfl
@[go_sem] theorem fld24_1 : fldOff Go.Proofs.Tryz.prog 24 1 = some (1, 1) := by kernel_rfl
-- 25: api.Types
@[go_sem] theorem size25 : tySize Go.Proofs.Tryz.prog 25 = some 2 := by kernel_rfl
@[go_sem] theorem agg25 : tyAgg Go.Proofs.Tryz.prog 25 = some true := by kernel_rfl
@[go_sem] theorem zero25 : tyZero Go.Proofs.Tryz.prog 25 = some [.slice none 0 0, .slice none 0 0] := by kernel_rfl
@[go_sem] theorem pl25 : tyPlaces Go.Proofs.Tryz.prog 25 = some [(0, 1), (1, 1)] := by kernel_rfl
@[go_sem] theorem fld25_0 : fldOff Go.Proofs.Tryz.prog 25 0 = some (0, 1) := by kernel_rfl
@[go_sem] theorem fld25_1 : fldOff Go.Proofs.Tryz.prog 25 1 = some (1, 1) := by kernel_rfl
-- 26: []int
@[go_sem] theorem size26 : tySize Go.Proofs.Tryz.prog 26 = some 1 := by kernel_rfl
@[go_sem] theorem agg26 : tyAgg Go.Proofs.Tryz.prog 26 = some false := by kernel_rfl
@[go_sem] theorem zero26 : tyZero Go.Proofs.Tryz.prog 26 = some [.slice none 0 0] := by kernel_rfl
@[go_sem] theorem elem26 : slElem Go.Proofs.Tryz.prog 26 = some 3 := by kernel_rfl
@[go_sem] theorem isSl26 : isSlice Go.Proofs.Tryz.prog 26 = true := by kernel_rfl
@[go_sem] theorem app26 : appTypes Go.Proofs.Tryz.prog 26 26 = some (3, 1, 8) := by kernel_rfl
-- 27: struct { Nodes []int; Edges []int }
@[go_sem] theorem size27 : tySize Go.Proofs.Tryz.prog 27 = some 2 := by kernel_rfl
@[go_sem] theorem agg27 : tyAgg Go.Proofs.Tryz.prog 27 = some true := by kernel_rfl
@[go_sem] theorem zero27 : tyZero Go.Proofs.Tryz.prog 27 = some [.slice none 0 0, .slice none 0 0] := by kernel_rfl
@[go_sem] theorem pl27 : tyPlaces Go.Proofs.Tryz.prog 27 = some [(0, 1), (1, 1)] := by kernel_rfl
@[go_sem] theorem fld27_0 : fldOff Go.Proofs.Tryz.prog 27 0 = some (0, 1) := by kernel_rfl
@[go_sem] theorem fld27_1 : fldOff Go.Proofs.Tryz.prog 27 1 = some (1, 1) := by kernel_rfl
-- 28: api.Sorts
@[go_sem] theorem size28 : tySize Go.Proofs.Tryz.prog 28 = some 2 := by kernel_rfl
@[go_sem] theorem agg28 : tyAgg Go.Proofs.Tryz.prog 28 = some true := by kernel_rfl
@[go_sem] theorem zero28 : tyZero Go.Proofs.Tryz.prog 28 = some [.slice none 0 0, .slice none 0 0] := by kernel_rfl
@[go_sem] theorem pl28 : tyPlaces Go.Proofs.Tryz.prog 28 = some [(0, 1), (1, 1)] := by kernel_rfl
@[go_sem] theorem fld28_0 : fldOff Go.Proofs.Tryz.prog 28 0 = some (0, 1) := by kernel_rfl
@[go_sem] theorem fld28_1 : fldOff Go.Proofs.Tryz.prog 28 1 = some (1, 1) := by kernel_rfl
-- 29: struct { T api.Types; S api.Sorts }
@[go_sem] theorem size29 : tySize Go.Proofs.Tryz.prog 29 = some 4 := by kernel_rfl
@[go_sem] theorem agg29 : tyAgg Go.Proofs.Tryz.prog 29 = some true := by kernel_rfl
@[go_sem] theorem zero29 : tyZero Go.Proofs.Tryz.prog 29 = some [.slice none 0 0, .slice none 0 0, .slice none 0 0, .slice none 0 0] := by kernel_rfl
@[go_sem] theorem pl29 : tyPlaces Go.Proofs.Tryz.prog 29 = some [(0, 2), (2, 2)] := by kernel_rfl
@[go_sem] theorem fld29_0 : fldOff Go.Proofs.Tryz.prog 29 0 = some (0, 2) := by kernel_rfl
@[go_sem] theorem fld29_1 : fldOff Go.Proofs.Tryz.prog 29 1 = some (2, 2) := by kernel_rfl
-- 30: scarfjointlaw52.Case
@[go_sem] theorem size30 : tySize Go.Proofs.Tryz.prog 30 = some 4 := by kernel_rfl
@[go_sem] theorem agg30 : tyAgg Go.Proofs.Tryz.prog 30 = some true := by kernel_rfl
@[go_sem] theorem zero30 : tyZero Go.Proofs.Tryz.prog 30 = some [.slice none 0 0, .slice none 0 0, .slice none 0 0, .slice none 0 0] := by kernel_rfl
@[go_sem] theorem pl30 : tyPlaces Go.Proofs.Tryz.prog 30 = some [(0, 2), (2, 2)] := by kernel_rfl
@[go_sem] theorem fld30_0 : fldOff Go.Proofs.Tryz.prog 30 0 = some (0, 2) := by kernel_rfl
@[go_sem] theorem fld30_1 : fldOff Go.Proofs.Tryz.prog 30 1 = some (2, 2) := by kernel_rfl
-- 31: []api.Edge
@[go_sem] theorem size31 : tySize Go.Proofs.Tryz.prog 31 = some 1 := by kernel_rfl
@[go_sem] theorem agg31 : tyAgg Go.Proofs.Tryz.prog 31 = some false := by kernel_rfl
@[go_sem] theorem zero31 : tyZero Go.Proofs.Tryz.prog 31 = some [.slice none 0 0] := by kernel_rfl
@[go_sem] theorem elem31 : slElem Go.Proofs.Tryz.prog 31 = some 73 := by kernel_rfl
@[go_sem] theorem isSl31 : isSlice Go.Proofs.Tryz.prog 31 = true := by kernel_rfl
@[go_sem] theorem app31 : appTypes Go.Proofs.Tryz.prog 31 31 = some (73, 3, 24) := by kernel_rfl
-- 32: struct { Nodes []int; Edges []api.Edge }
@[go_sem] theorem size32 : tySize Go.Proofs.Tryz.prog 32 = some 2 := by kernel_rfl
@[go_sem] theorem agg32 : tyAgg Go.Proofs.Tryz.prog 32 = some true := by kernel_rfl
@[go_sem] theorem zero32 : tyZero Go.Proofs.Tryz.prog 32 = some [.slice none 0 0, .slice none 0 0] := by kernel_rfl
@[go_sem] theorem pl32 : tyPlaces Go.Proofs.Tryz.prog 32 = some [(0, 1), (1, 1)] := by kernel_rfl
@[go_sem] theorem fld32_0 : fldOff Go.Proofs.Tryz.prog 32 0 = some (0, 1) := by kernel_rfl
@[go_sem] theorem fld32_1 : fldOff Go.Proofs.Tryz.prog 32 1 = some (1, 1) := by kernel_rfl
-- 33: api.Graph
@[go_sem] theorem size33 : tySize Go.Proofs.Tryz.prog 33 = some 2 := by kernel_rfl
@[go_sem] theorem agg33 : tyAgg Go.Proofs.Tryz.prog 33 = some true := by kernel_rfl
@[go_sem] theorem zero33 : tyZero Go.Proofs.Tryz.prog 33 = some [.slice none 0 0, .slice none 0 0] := by kernel_rfl
@[go_sem] theorem pl33 : tyPlaces Go.Proofs.Tryz.prog 33 = some [(0, 1), (1, 1)] := by kernel_rfl
@[go_sem] theorem fld33_0 : fldOff Go.Proofs.Tryz.prog 33 0 = some (0, 1) := by kernel_rfl
@[go_sem] theorem fld33_1 : fldOff Go.Proofs.Tryz.prog 33 1 = some (1, 1) := by kernel_rfl
-- 34: [][]int
@[go_sem] theorem size34 : tySize Go.Proofs.Tryz.prog 34 = some 1 := by kernel_rfl
@[go_sem] theorem agg34 : tyAgg Go.Proofs.Tryz.prog 34 = some false := by kernel_rfl
@[go_sem] theorem zero34 : tyZero Go.Proofs.Tryz.prog 34 = some [.slice none 0 0] := by kernel_rfl
@[go_sem] theorem elem34 : slElem Go.Proofs.Tryz.prog 34 = some 26 := by kernel_rfl
@[go_sem] theorem isSl34 : isSlice Go.Proofs.Tryz.prog 34 = true := by kernel_rfl
@[go_sem] theorem app34 : appTypes Go.Proofs.Tryz.prog 34 34 = some (26, 1, 24) := by kernel_rfl
-- 35: struct { Graph api.Graph; Values [][]int }
@[go_sem] theorem size35 : tySize Go.Proofs.Tryz.prog 35 = some 3 := by kernel_rfl
@[go_sem] theorem agg35 : tyAgg Go.Proofs.Tryz.prog 35 = some true := by kernel_rfl
@[go_sem] theorem zero35 : tyZero Go.Proofs.Tryz.prog 35 = some [.slice none 0 0, .slice none 0 0, .slice none 0 0] := by kernel_rfl
@[go_sem] theorem pl35 : tyPlaces Go.Proofs.Tryz.prog 35 = some [(0, 2), (2, 1)] := by kernel_rfl
@[go_sem] theorem fld35_0 : fldOff Go.Proofs.Tryz.prog 35 0 = some (0, 2) := by kernel_rfl
@[go_sem] theorem fld35_1 : fldOff Go.Proofs.Tryz.prog 35 1 = some (2, 1) := by kernel_rfl
-- 36: api.Host
@[go_sem] theorem size36 : tySize Go.Proofs.Tryz.prog 36 = some 3 := by kernel_rfl
@[go_sem] theorem agg36 : tyAgg Go.Proofs.Tryz.prog 36 = some true := by kernel_rfl
@[go_sem] theorem zero36 : tyZero Go.Proofs.Tryz.prog 36 = some [.slice none 0 0, .slice none 0 0, .slice none 0 0] := by kernel_rfl
@[go_sem] theorem pl36 : tyPlaces Go.Proofs.Tryz.prog 36 = some [(0, 2), (2, 1)] := by kernel_rfl
@[go_sem] theorem fld36_0 : fldOff Go.Proofs.Tryz.prog 36 0 = some (0, 2) := by kernel_rfl
@[go_sem] theorem fld36_1 : fldOff Go.Proofs.Tryz.prog 36 1 = some (2, 1) := by kernel_rfl
-- 39: []api.Pair
@[go_sem] theorem size39 : tySize Go.Proofs.Tryz.prog 39 = some 1 := by kernel_rfl
@[go_sem] theorem agg39 : tyAgg Go.Proofs.Tryz.prog 39 = some false := by kernel_rfl
@[go_sem] theorem zero39 : tyZero Go.Proofs.Tryz.prog 39 = some [.slice none 0 0] := by kernel_rfl
@[go_sem] theorem elem39 : slElem Go.Proofs.Tryz.prog 39 = some 45 := by kernel_rfl
@[go_sem] theorem isSl39 : isSlice Go.Proofs.Tryz.prog 39 = true := by kernel_rfl
@[go_sem] theorem app39 : appTypes Go.Proofs.Tryz.prog 39 39 = some (45, 2, 16) := by kernel_rfl
-- 40: api.Errno
@[go_sem] theorem size40 : tySize Go.Proofs.Tryz.prog 40 = some 1 := by kernel_rfl
@[go_sem] theorem agg40 : tyAgg Go.Proofs.Tryz.prog 40 = some false := by kernel_rfl
@[go_sem] theorem zero40 : tyZero Go.Proofs.Tryz.prog 40 = some [.int .i64 0] := by kernel_rfl
@[go_sem] theorem int40 : tyInt Go.Proofs.Tryz.prog 40 = some .i64 := by kernel_rfl
@[go_sem] theorem und40 : (Program.underlying Go.Proofs.Tryz.prog 40).isSome = true := by kernel_rfl
-- 44: struct { A int; B int }
@[go_sem] theorem size44 : tySize Go.Proofs.Tryz.prog 44 = some 2 := by kernel_rfl
@[go_sem] theorem agg44 : tyAgg Go.Proofs.Tryz.prog 44 = some true := by kernel_rfl
@[go_sem] theorem zero44 : tyZero Go.Proofs.Tryz.prog 44 = some [.int .i64 0, .int .i64 0] := by kernel_rfl
@[go_sem] theorem pl44 : tyPlaces Go.Proofs.Tryz.prog 44 = some [(0, 1), (1, 1)] := by kernel_rfl
@[go_sem] theorem fld44_0 : fldOff Go.Proofs.Tryz.prog 44 0 = some (0, 1) := by kernel_rfl
@[go_sem] theorem fld44_1 : fldOff Go.Proofs.Tryz.prog 44 1 = some (1, 1) := by kernel_rfl
-- 45: api.Pair
@[go_sem] theorem size45 : tySize Go.Proofs.Tryz.prog 45 = some 2 := by kernel_rfl
@[go_sem] theorem agg45 : tyAgg Go.Proofs.Tryz.prog 45 = some true := by kernel_rfl
@[go_sem] theorem zero45 : tyZero Go.Proofs.Tryz.prog 45 = some [.int .i64 0, .int .i64 0] := by kernel_rfl
@[go_sem] theorem pl45 : tyPlaces Go.Proofs.Tryz.prog 45 = some [(0, 1), (1, 1)] := by kernel_rfl
@[go_sem] theorem fld45_0 : fldOff Go.Proofs.Tryz.prog 45 0 = some (0, 1) := by kernel_rfl
@[go_sem] theorem fld45_1 : fldOff Go.Proofs.Tryz.prog 45 1 = some (1, 1) := by kernel_rfl
-- 55: api.Part
@[go_sem] theorem size55 : tySize Go.Proofs.Tryz.prog 55 = some 2 := by kernel_rfl
@[go_sem] theorem agg55 : tyAgg Go.Proofs.Tryz.prog 55 = some true := by kernel_rfl
@[go_sem] theorem zero55 : tyZero Go.Proofs.Tryz.prog 55 = some [.slice none 0 0, .slice none 0 0] := by kernel_rfl
@[go_sem] theorem pl55 : tyPlaces Go.Proofs.Tryz.prog 55 = some [(0, 1), (1, 1)] := by kernel_rfl
@[go_sem] theorem fld55_0 : fldOff Go.Proofs.Tryz.prog 55 0 = some (0, 1) := by kernel_rfl
@[go_sem] theorem fld55_1 : fldOff Go.Proofs.Tryz.prog 55 1 = some (1, 1) := by kernel_rfl
-- 61: [][2]uint8
@[go_sem] theorem size61 : tySize Go.Proofs.Tryz.prog 61 = some 1 := by kernel_rfl
@[go_sem] theorem agg61 : tyAgg Go.Proofs.Tryz.prog 61 = some false := by kernel_rfl
@[go_sem] theorem zero61 : tyZero Go.Proofs.Tryz.prog 61 = some [.slice none 0 0] := by kernel_rfl
@[go_sem] theorem elem61 : slElem Go.Proofs.Tryz.prog 61 = some 102 := by kernel_rfl
@[go_sem] theorem isSl61 : isSlice Go.Proofs.Tryz.prog 61 = true := by kernel_rfl
@[go_sem] theorem app61 : appTypes Go.Proofs.Tryz.prog 61 61 = some (102, 2, 2) := by kernel_rfl
-- 62: [][3]uint8
@[go_sem] theorem size62 : tySize Go.Proofs.Tryz.prog 62 = some 1 := by kernel_rfl
@[go_sem] theorem agg62 : tyAgg Go.Proofs.Tryz.prog 62 = some false := by kernel_rfl
@[go_sem] theorem zero62 : tyZero Go.Proofs.Tryz.prog 62 = some [.slice none 0 0] := by kernel_rfl
@[go_sem] theorem elem62 : slElem Go.Proofs.Tryz.prog 62 = some 108 := by kernel_rfl
@[go_sem] theorem isSl62 : isSlice Go.Proofs.Tryz.prog 62 = true := by kernel_rfl
@[go_sem] theorem app62 : appTypes Go.Proofs.Tryz.prog 62 62 = some (108, 3, 3) := by kernel_rfl
-- 63: struct { Nodes [][2]uint8; Edges [][3]uint8 }
@[go_sem] theorem size63 : tySize Go.Proofs.Tryz.prog 63 = some 2 := by kernel_rfl
@[go_sem] theorem agg63 : tyAgg Go.Proofs.Tryz.prog 63 = some true := by kernel_rfl
@[go_sem] theorem zero63 : tyZero Go.Proofs.Tryz.prog 63 = some [.slice none 0 0, .slice none 0 0] := by kernel_rfl
@[go_sem] theorem pl63 : tyPlaces Go.Proofs.Tryz.prog 63 = some [(0, 1), (1, 1)] := by kernel_rfl
@[go_sem] theorem fld63_0 : fldOff Go.Proofs.Tryz.prog 63 0 = some (0, 1) := by kernel_rfl
@[go_sem] theorem fld63_1 : fldOff Go.Proofs.Tryz.prog 63 1 = some (1, 1) := by kernel_rfl
-- 64: scarfjointref15.Draft
@[go_sem] theorem size64 : tySize Go.Proofs.Tryz.prog 64 = some 2 := by kernel_rfl
@[go_sem] theorem agg64 : tyAgg Go.Proofs.Tryz.prog 64 = some true := by kernel_rfl
@[go_sem] theorem zero64 : tyZero Go.Proofs.Tryz.prog 64 = some [.slice none 0 0, .slice none 0 0] := by kernel_rfl
@[go_sem] theorem pl64 : tyPlaces Go.Proofs.Tryz.prog 64 = some [(0, 1), (1, 1)] := by kernel_rfl
@[go_sem] theorem fld64_0 : fldOff Go.Proofs.Tryz.prog 64 0 = some (0, 1) := by kernel_rfl
@[go_sem] theorem fld64_1 : fldOff Go.Proofs.Tryz.prog 64 1 = some (1, 1) := by kernel_rfl
-- 72: struct { Type int; From int; To int }
@[go_sem] theorem size72 : tySize Go.Proofs.Tryz.prog 72 = some 3 := by kernel_rfl
@[go_sem] theorem agg72 : tyAgg Go.Proofs.Tryz.prog 72 = some true := by kernel_rfl
@[go_sem] theorem zero72 : tyZero Go.Proofs.Tryz.prog 72 = some [.int .i64 0, .int .i64 0, .int .i64 0] := by kernel_rfl
@[go_sem] theorem pl72 : tyPlaces Go.Proofs.Tryz.prog 72 = some [(0, 1), (1, 1), (2, 1)] := by kernel_rfl
@[go_sem] theorem fld72_0 : fldOff Go.Proofs.Tryz.prog 72 0 = some (0, 1) := by kernel_rfl
@[go_sem] theorem fld72_1 : fldOff Go.Proofs.Tryz.prog 72 1 = some (1, 1) := by kernel_rfl
@[go_sem] theorem fld72_2 : fldOff Go.Proofs.Tryz.prog 72 2 = some (2, 1) := by kernel_rfl
-- 73: api.Edge
@[go_sem] theorem size73 : tySize Go.Proofs.Tryz.prog 73 = some 3 := by kernel_rfl
@[go_sem] theorem agg73 : tyAgg Go.Proofs.Tryz.prog 73 = some true := by kernel_rfl
@[go_sem] theorem zero73 : tyZero Go.Proofs.Tryz.prog 73 = some [.int .i64 0, .int .i64 0, .int .i64 0] := by kernel_rfl
@[go_sem] theorem pl73 : tyPlaces Go.Proofs.Tryz.prog 73 = some [(0, 1), (1, 1), (2, 1)] := by kernel_rfl
@[go_sem] theorem fld73_0 : fldOff Go.Proofs.Tryz.prog 73 0 = some (0, 1) := by kernel_rfl
@[go_sem] theorem fld73_1 : fldOff Go.Proofs.Tryz.prog 73 1 = some (1, 1) := by kernel_rfl
@[go_sem] theorem fld73_2 : fldOff Go.Proofs.Tryz.prog 73 2 = some (2, 1) := by kernel_rfl
-- 95: []api.Attr
@[go_sem] theorem size95 : tySize Go.Proofs.Tryz.prog 95 = some 1 := by kernel_rfl
@[go_sem] theorem agg95 : tyAgg Go.Proofs.Tryz.prog 95 = some false := by kernel_rfl
@[go_sem] theorem zero95 : tyZero Go.Proofs.Tryz.prog 95 = some [.slice none 0 0] := by kernel_rfl
@[go_sem] theorem elem95 : slElem Go.Proofs.Tryz.prog 95 = some 107 := by kernel_rfl
@[go_sem] theorem isSl95 : isSlice Go.Proofs.Tryz.prog 95 = true := by kernel_rfl
@[go_sem] theorem app95 : appTypes Go.Proofs.Tryz.prog 95 95 = some (107, 4, 56) := by kernel_rfl
-- 96: struct { Name string; Parent int; Abstract bool; Attrs []api.Attr }
@[go_sem] theorem size96 : tySize Go.Proofs.Tryz.prog 96 = some 4 := by kernel_rfl
@[go_sem] theorem agg96 : tyAgg Go.Proofs.Tryz.prog 96 = some true := by kernel_rfl
@[go_sem] theorem zero96 : tyZero Go.Proofs.Tryz.prog 96 = some [.string ⟨#[]⟩, .int .i64 0, .bool false, .slice none 0 0] := by kernel_rfl
@[go_sem] theorem pl96 : tyPlaces Go.Proofs.Tryz.prog 96 = some [(0, 1), (1, 1), (2, 1), (3, 1)] := by kernel_rfl
@[go_sem] theorem fld96_0 : fldOff Go.Proofs.Tryz.prog 96 0 = some (0, 1) := by kernel_rfl
@[go_sem] theorem fld96_1 : fldOff Go.Proofs.Tryz.prog 96 1 = some (1, 1) := by kernel_rfl
@[go_sem] theorem fld96_2 : fldOff Go.Proofs.Tryz.prog 96 2 = some (2, 1) := by kernel_rfl
@[go_sem] theorem fld96_3 : fldOff Go.Proofs.Tryz.prog 96 3 = some (3, 1) := by kernel_rfl
-- 97: api.NodeType
@[go_sem] theorem size97 : tySize Go.Proofs.Tryz.prog 97 = some 4 := by kernel_rfl
@[go_sem] theorem agg97 : tyAgg Go.Proofs.Tryz.prog 97 = some true := by kernel_rfl
@[go_sem] theorem zero97 : tyZero Go.Proofs.Tryz.prog 97 = some [.string ⟨#[]⟩, .int .i64 0, .bool false, .slice none 0 0] := by kernel_rfl
@[go_sem] theorem pl97 : tyPlaces Go.Proofs.Tryz.prog 97 = some [(0, 1), (1, 1), (2, 1), (3, 1)] := by kernel_rfl
@[go_sem] theorem fld97_0 : fldOff Go.Proofs.Tryz.prog 97 0 = some (0, 1) := by kernel_rfl
@[go_sem] theorem fld97_1 : fldOff Go.Proofs.Tryz.prog 97 1 = some (1, 1) := by kernel_rfl
@[go_sem] theorem fld97_2 : fldOff Go.Proofs.Tryz.prog 97 2 = some (2, 1) := by kernel_rfl
@[go_sem] theorem fld97_3 : fldOff Go.Proofs.Tryz.prog 97 3 = some (3, 1) := by kernel_rfl
-- 98: struct { Name string; From int; To int; OutLow int; OutHigh int; InLow
@[go_sem] theorem size98 : tySize Go.Proofs.Tryz.prog 98 = some 7 := by kernel_rfl
@[go_sem] theorem agg98 : tyAgg Go.Proofs.Tryz.prog 98 = some true := by kernel_rfl
@[go_sem] theorem zero98 : tyZero Go.Proofs.Tryz.prog 98 = some [.string ⟨#[]⟩, .int .i64 0, .int .i64 0, .int .i64 0, .int .i64 0, .int .i64 0, .int .i64 0] := by kernel_rfl
@[go_sem] theorem pl98 : tyPlaces Go.Proofs.Tryz.prog 98 = some [(0, 1), (1, 1), (2, 1), (3, 1), (4, 1), (5, 1), (6, 1)] := by kernel_rfl
@[go_sem] theorem fld98_0 : fldOff Go.Proofs.Tryz.prog 98 0 = some (0, 1) := by kernel_rfl
@[go_sem] theorem fld98_1 : fldOff Go.Proofs.Tryz.prog 98 1 = some (1, 1) := by kernel_rfl
@[go_sem] theorem fld98_2 : fldOff Go.Proofs.Tryz.prog 98 2 = some (2, 1) := by kernel_rfl
@[go_sem] theorem fld98_3 : fldOff Go.Proofs.Tryz.prog 98 3 = some (3, 1) := by kernel_rfl
@[go_sem] theorem fld98_4 : fldOff Go.Proofs.Tryz.prog 98 4 = some (4, 1) := by kernel_rfl
@[go_sem] theorem fld98_5 : fldOff Go.Proofs.Tryz.prog 98 5 = some (5, 1) := by kernel_rfl
@[go_sem] theorem fld98_6 : fldOff Go.Proofs.Tryz.prog 98 6 = some (6, 1) := by kernel_rfl
-- 99: api.EdgeType
@[go_sem] theorem size99 : tySize Go.Proofs.Tryz.prog 99 = some 7 := by kernel_rfl
@[go_sem] theorem agg99 : tyAgg Go.Proofs.Tryz.prog 99 = some true := by kernel_rfl
@[go_sem] theorem zero99 : tyZero Go.Proofs.Tryz.prog 99 = some [.string ⟨#[]⟩, .int .i64 0, .int .i64 0, .int .i64 0, .int .i64 0, .int .i64 0, .int .i64 0] := by kernel_rfl
@[go_sem] theorem pl99 : tyPlaces Go.Proofs.Tryz.prog 99 = some [(0, 1), (1, 1), (2, 1), (3, 1), (4, 1), (5, 1), (6, 1)] := by kernel_rfl
@[go_sem] theorem fld99_0 : fldOff Go.Proofs.Tryz.prog 99 0 = some (0, 1) := by kernel_rfl
@[go_sem] theorem fld99_1 : fldOff Go.Proofs.Tryz.prog 99 1 = some (1, 1) := by kernel_rfl
@[go_sem] theorem fld99_2 : fldOff Go.Proofs.Tryz.prog 99 2 = some (2, 1) := by kernel_rfl
@[go_sem] theorem fld99_3 : fldOff Go.Proofs.Tryz.prog 99 3 = some (3, 1) := by kernel_rfl
@[go_sem] theorem fld99_4 : fldOff Go.Proofs.Tryz.prog 99 4 = some (4, 1) := by kernel_rfl
@[go_sem] theorem fld99_5 : fldOff Go.Proofs.Tryz.prog 99 5 = some (5, 1) := by kernel_rfl
@[go_sem] theorem fld99_6 : fldOff Go.Proofs.Tryz.prog 99 6 = some (6, 1) := by kernel_rfl
-- 102: [2]uint8
@[go_sem] theorem size102 : tySize Go.Proofs.Tryz.prog 102 = some 2 := by kernel_rfl
@[go_sem] theorem agg102 : tyAgg Go.Proofs.Tryz.prog 102 = some true := by kernel_rfl
@[go_sem] theorem zero102 : tyZero Go.Proofs.Tryz.prog 102 = some [.int .u8 0, .int .u8 0] := by kernel_rfl
@[go_sem] theorem arr102 : arrOf Go.Proofs.Tryz.prog 102 = some (2, 5) := by kernel_rfl
@[go_sem] theorem pl102 : tyPlaces Go.Proofs.Tryz.prog 102 = some [(0, 1), (1, 1)] := by kernel_rfl
-- 105: []string
@[go_sem] theorem size105 : tySize Go.Proofs.Tryz.prog 105 = some 1 := by kernel_rfl
@[go_sem] theorem agg105 : tyAgg Go.Proofs.Tryz.prog 105 = some false := by kernel_rfl
@[go_sem] theorem zero105 : tyZero Go.Proofs.Tryz.prog 105 = some [.slice none 0 0] := by kernel_rfl
@[go_sem] theorem elem105 : slElem Go.Proofs.Tryz.prog 105 = some 9 := by kernel_rfl
@[go_sem] theorem isSl105 : isSlice Go.Proofs.Tryz.prog 105 = true := by kernel_rfl
@[go_sem] theorem app105 : appTypes Go.Proofs.Tryz.prog 105 105 = some (9, 1, 16) := by kernel_rfl
-- 106: struct { Name string; Low int; High int; Names []string }
@[go_sem] theorem size106 : tySize Go.Proofs.Tryz.prog 106 = some 4 := by kernel_rfl
@[go_sem] theorem agg106 : tyAgg Go.Proofs.Tryz.prog 106 = some true := by kernel_rfl
@[go_sem] theorem zero106 : tyZero Go.Proofs.Tryz.prog 106 = some [.string ⟨#[]⟩, .int .i64 0, .int .i64 0, .slice none 0 0] := by kernel_rfl
@[go_sem] theorem pl106 : tyPlaces Go.Proofs.Tryz.prog 106 = some [(0, 1), (1, 1), (2, 1), (3, 1)] := by kernel_rfl
@[go_sem] theorem fld106_0 : fldOff Go.Proofs.Tryz.prog 106 0 = some (0, 1) := by kernel_rfl
@[go_sem] theorem fld106_1 : fldOff Go.Proofs.Tryz.prog 106 1 = some (1, 1) := by kernel_rfl
@[go_sem] theorem fld106_2 : fldOff Go.Proofs.Tryz.prog 106 2 = some (2, 1) := by kernel_rfl
@[go_sem] theorem fld106_3 : fldOff Go.Proofs.Tryz.prog 106 3 = some (3, 1) := by kernel_rfl
-- 107: api.Attr
@[go_sem] theorem size107 : tySize Go.Proofs.Tryz.prog 107 = some 4 := by kernel_rfl
@[go_sem] theorem agg107 : tyAgg Go.Proofs.Tryz.prog 107 = some true := by kernel_rfl
@[go_sem] theorem zero107 : tyZero Go.Proofs.Tryz.prog 107 = some [.string ⟨#[]⟩, .int .i64 0, .int .i64 0, .slice none 0 0] := by kernel_rfl
@[go_sem] theorem pl107 : tyPlaces Go.Proofs.Tryz.prog 107 = some [(0, 1), (1, 1), (2, 1), (3, 1)] := by kernel_rfl
@[go_sem] theorem fld107_0 : fldOff Go.Proofs.Tryz.prog 107 0 = some (0, 1) := by kernel_rfl
@[go_sem] theorem fld107_1 : fldOff Go.Proofs.Tryz.prog 107 1 = some (1, 1) := by kernel_rfl
@[go_sem] theorem fld107_2 : fldOff Go.Proofs.Tryz.prog 107 2 = some (2, 1) := by kernel_rfl
@[go_sem] theorem fld107_3 : fldOff Go.Proofs.Tryz.prog 107 3 = some (3, 1) := by kernel_rfl
-- 108: [3]uint8
@[go_sem] theorem size108 : tySize Go.Proofs.Tryz.prog 108 = some 3 := by kernel_rfl
@[go_sem] theorem agg108 : tyAgg Go.Proofs.Tryz.prog 108 = some true := by kernel_rfl
@[go_sem] theorem zero108 : tyZero Go.Proofs.Tryz.prog 108 = some [.int .u8 0, .int .u8 0, .int .u8 0] := by kernel_rfl
@[go_sem] theorem arr108 : arrOf Go.Proofs.Tryz.prog 108 = some (3, 5) := by kernel_rfl
@[go_sem] theorem pl108 : tyPlaces Go.Proofs.Tryz.prog 108 = some [(0, 1), (1, 1), (2, 1)] := by kernel_rfl
-- 114: uint
@[go_sem] theorem size114 : tySize Go.Proofs.Tryz.prog 114 = some 1 := by kernel_rfl
@[go_sem] theorem agg114 : tyAgg Go.Proofs.Tryz.prog 114 = some false := by kernel_rfl
@[go_sem] theorem zero114 : tyZero Go.Proofs.Tryz.prog 114 = some [.int .u64 0] := by kernel_rfl
@[go_sem] theorem int114 : tyInt Go.Proofs.Tryz.prog 114 = some .u64 := by kernel_rfl
@[go_sem] theorem und114 : (Program.underlying Go.Proofs.Tryz.prog 114).isSome = true := by kernel_rfl
-- 120: [][][]int
@[go_sem] theorem size120 : tySize Go.Proofs.Tryz.prog 120 = some 1 := by kernel_rfl
@[go_sem] theorem agg120 : tyAgg Go.Proofs.Tryz.prog 120 = some false := by kernel_rfl
@[go_sem] theorem zero120 : tyZero Go.Proofs.Tryz.prog 120 = some [.slice none 0 0] := by kernel_rfl
@[go_sem] theorem elem120 : slElem Go.Proofs.Tryz.prog 120 = some 34 := by kernel_rfl
@[go_sem] theorem isSl120 : isSlice Go.Proofs.Tryz.prog 120 = true := by kernel_rfl
@[go_sem] theorem app120 : appTypes Go.Proofs.Tryz.prog 120 120 = some (34, 1, 24) := by kernel_rfl
-- 124: api.Morphism
@[go_sem] theorem size124 : tySize Go.Proofs.Tryz.prog 124 = some 2 := by kernel_rfl
@[go_sem] theorem agg124 : tyAgg Go.Proofs.Tryz.prog 124 = some true := by kernel_rfl
@[go_sem] theorem zero124 : tyZero Go.Proofs.Tryz.prog 124 = some [.slice none 0 0, .slice none 0 0] := by kernel_rfl
@[go_sem] theorem pl124 : tyPlaces Go.Proofs.Tryz.prog 124 = some [(0, 1), (1, 1)] := by kernel_rfl
@[go_sem] theorem fld124_0 : fldOff Go.Proofs.Tryz.prog 124 0 = some (0, 1) := by kernel_rfl
@[go_sem] theorem fld124_1 : fldOff Go.Proofs.Tryz.prog 124 1 = some (1, 1) := by kernel_rfl
-- 134: slices.sortedHint
@[go_sem] theorem size134 : tySize Go.Proofs.Tryz.prog 134 = some 1 := by kernel_rfl
@[go_sem] theorem agg134 : tyAgg Go.Proofs.Tryz.prog 134 = some false := by kernel_rfl
@[go_sem] theorem zero134 : tyZero Go.Proofs.Tryz.prog 134 = some [.int .i64 0] := by kernel_rfl
@[go_sem] theorem int134 : tyInt Go.Proofs.Tryz.prog 134 = some .i64 := by kernel_rfl
@[go_sem] theorem und134 : (Program.underlying Go.Proofs.Tryz.prog 134).isSome = true := by kernel_rfl
-- 142: uint32
@[go_sem] theorem size142 : tySize Go.Proofs.Tryz.prog 142 = some 1 := by kernel_rfl
@[go_sem] theorem agg142 : tyAgg Go.Proofs.Tryz.prog 142 = some false := by kernel_rfl
@[go_sem] theorem zero142 : tyZero Go.Proofs.Tryz.prog 142 = some [.int .u32 0] := by kernel_rfl
@[go_sem] theorem int142 : tyInt Go.Proofs.Tryz.prog 142 = some .u32 := by kernel_rfl
@[go_sem] theorem und142 : (Program.underlying Go.Proofs.Tryz.prog 142).isSome = true := by kernel_rfl
-- 144: uint64
@[go_sem] theorem size144 : tySize Go.Proofs.Tryz.prog 144 = some 1 := by kernel_rfl
@[go_sem] theorem agg144 : tyAgg Go.Proofs.Tryz.prog 144 = some false := by kernel_rfl
@[go_sem] theorem zero144 : tyZero Go.Proofs.Tryz.prog 144 = some [.int .u64 0] := by kernel_rfl
@[go_sem] theorem int144 : tyInt Go.Proofs.Tryz.prog 144 = some .u64 := by kernel_rfl
@[go_sem] theorem und144 : (Program.underlying Go.Proofs.Tryz.prog 144).isSome = true := by kernel_rfl
-- 155: slices.xorshift
@[go_sem] theorem size155 : tySize Go.Proofs.Tryz.prog 155 = some 1 := by kernel_rfl
@[go_sem] theorem agg155 : tyAgg Go.Proofs.Tryz.prog 155 = some false := by kernel_rfl
@[go_sem] theorem zero155 : tyZero Go.Proofs.Tryz.prog 155 = some [.int .u64 0] := by kernel_rfl
@[go_sem] theorem int155 : tyInt Go.Proofs.Tryz.prog 155 = some .u64 := by kernel_rfl
@[go_sem] theorem und155 : (Program.underlying Go.Proofs.Tryz.prog 155).isSome = true := by kernel_rfl
-- 159: *int
@[go_sem] theorem size159 : tySize Go.Proofs.Tryz.prog 159 = some 1 := by kernel_rfl
@[go_sem] theorem agg159 : tyAgg Go.Proofs.Tryz.prog 159 = some false := by kernel_rfl
@[go_sem] theorem zero159 : tyZero Go.Proofs.Tryz.prog 159 = some [.pointer none] := by kernel_rfl
-- 173: *slices.xorshift
@[go_sem] theorem size173 : tySize Go.Proofs.Tryz.prog 173 = some 1 := by kernel_rfl
@[go_sem] theorem agg173 : tyAgg Go.Proofs.Tryz.prog 173 = some false := by kernel_rfl
@[go_sem] theorem zero173 : tyZero Go.Proofs.Tryz.prog 173 = some [.pointer none] := by kernel_rfl
-- 178: struct { Kind int; Text string; Line int }
@[go_sem] theorem size178 : tySize Go.Proofs.Tryz.prog 178 = some 3 := by kernel_rfl
@[go_sem] theorem agg178 : tyAgg Go.Proofs.Tryz.prog 178 = some true := by kernel_rfl
@[go_sem] theorem zero178 : tyZero Go.Proofs.Tryz.prog 178 = some [.int .i64 0, .string ⟨#[]⟩, .int .i64 0] := by kernel_rfl
@[go_sem] theorem pl178 : tyPlaces Go.Proofs.Tryz.prog 178 = some [(0, 1), (1, 1), (2, 1)] := by kernel_rfl
@[go_sem] theorem fld178_0 : fldOff Go.Proofs.Tryz.prog 178 0 = some (0, 1) := by kernel_rfl
@[go_sem] theorem fld178_1 : fldOff Go.Proofs.Tryz.prog 178 1 = some (1, 1) := by kernel_rfl
@[go_sem] theorem fld178_2 : fldOff Go.Proofs.Tryz.prog 178 2 = some (2, 1) := by kernel_rfl
-- 179: api.Token
@[go_sem] theorem size179 : tySize Go.Proofs.Tryz.prog 179 = some 3 := by kernel_rfl
@[go_sem] theorem agg179 : tyAgg Go.Proofs.Tryz.prog 179 = some true := by kernel_rfl
@[go_sem] theorem zero179 : tyZero Go.Proofs.Tryz.prog 179 = some [.int .i64 0, .string ⟨#[]⟩, .int .i64 0] := by kernel_rfl
@[go_sem] theorem pl179 : tyPlaces Go.Proofs.Tryz.prog 179 = some [(0, 1), (1, 1), (2, 1)] := by kernel_rfl
@[go_sem] theorem fld179_0 : fldOff Go.Proofs.Tryz.prog 179 0 = some (0, 1) := by kernel_rfl
@[go_sem] theorem fld179_1 : fldOff Go.Proofs.Tryz.prog 179 1 = some (1, 1) := by kernel_rfl
@[go_sem] theorem fld179_2 : fldOff Go.Proofs.Tryz.prog 179 2 = some (2, 1) := by kernel_rfl
-- 204: struct { _interface *abi.Type; concrete *abi.Type; asserted *abi.Type;
@[go_sem] theorem size204 : tySize Go.Proofs.Tryz.prog 204 = some 4 := by kernel_rfl
@[go_sem] theorem agg204 : tyAgg Go.Proofs.Tryz.prog 204 = some true := by kernel_rfl
@[go_sem] theorem zero204 : tyZero Go.Proofs.Tryz.prog 204 = some [.pointer none, .pointer none, .pointer none, .string ⟨#[]⟩] := by kernel_rfl
@[go_sem] theorem pl204 : tyPlaces Go.Proofs.Tryz.prog 204 = some [(0, 1), (1, 1), (2, 1), (3, 1)] := by kernel_rfl
@[go_sem] theorem fld204_0 : fldOff Go.Proofs.Tryz.prog 204 0 = some (0, 1) := by kernel_rfl
@[go_sem] theorem fld204_1 : fldOff Go.Proofs.Tryz.prog 204 1 = some (1, 1) := by kernel_rfl
@[go_sem] theorem fld204_2 : fldOff Go.Proofs.Tryz.prog 204 2 = some (2, 1) := by kernel_rfl
@[go_sem] theorem fld204_3 : fldOff Go.Proofs.Tryz.prog 204 3 = some (3, 1) := by kernel_rfl
-- 205: runtime.TypeAssertionError
@[go_sem] theorem size205 : tySize Go.Proofs.Tryz.prog 205 = some 4 := by kernel_rfl
@[go_sem] theorem agg205 : tyAgg Go.Proofs.Tryz.prog 205 = some true := by kernel_rfl
@[go_sem] theorem zero205 : tyZero Go.Proofs.Tryz.prog 205 = some [.pointer none, .pointer none, .pointer none, .string ⟨#[]⟩] := by kernel_rfl
@[go_sem] theorem pl205 : tyPlaces Go.Proofs.Tryz.prog 205 = some [(0, 1), (1, 1), (2, 1), (3, 1)] := by kernel_rfl
@[go_sem] theorem fld205_0 : fldOff Go.Proofs.Tryz.prog 205 0 = some (0, 1) := by kernel_rfl
@[go_sem] theorem fld205_1 : fldOff Go.Proofs.Tryz.prog 205 1 = some (1, 1) := by kernel_rfl
@[go_sem] theorem fld205_2 : fldOff Go.Proofs.Tryz.prog 205 2 = some (2, 1) := by kernel_rfl
@[go_sem] theorem fld205_3 : fldOff Go.Proofs.Tryz.prog 205 3 = some (3, 1) := by kernel_rfl
-- 206: [0]*runtime.PanicNilError
@[go_sem] theorem size206 : tySize Go.Proofs.Tryz.prog 206 = some 0 := by kernel_rfl
@[go_sem] theorem agg206 : tyAgg Go.Proofs.Tryz.prog 206 = some true := by kernel_rfl
@[go_sem] theorem zero206 : tyZero Go.Proofs.Tryz.prog 206 = some [] := by kernel_rfl
@[go_sem] theorem arr206 : arrOf Go.Proofs.Tryz.prog 206 = some (0, 16) := by kernel_rfl
@[go_sem] theorem pl206 : tyPlaces Go.Proofs.Tryz.prog 206 = some [] := by kernel_rfl
-- 207: struct { _ [0]*runtime.PanicNilError }
@[go_sem] theorem size207 : tySize Go.Proofs.Tryz.prog 207 = some 0 := by kernel_rfl
@[go_sem] theorem agg207 : tyAgg Go.Proofs.Tryz.prog 207 = some true := by kernel_rfl
@[go_sem] theorem zero207 : tyZero Go.Proofs.Tryz.prog 207 = some [] := by kernel_rfl
@[go_sem] theorem pl207 : tyPlaces Go.Proofs.Tryz.prog 207 = some [(0, 0)] := by kernel_rfl
@[go_sem] theorem fld207_0 : fldOff Go.Proofs.Tryz.prog 207 0 = some (0, 0) := by kernel_rfl
-- 208: runtime.PanicNilError
@[go_sem] theorem size208 : tySize Go.Proofs.Tryz.prog 208 = some 0 := by kernel_rfl
@[go_sem] theorem agg208 : tyAgg Go.Proofs.Tryz.prog 208 = some true := by kernel_rfl
@[go_sem] theorem zero208 : tyZero Go.Proofs.Tryz.prog 208 = some [] := by kernel_rfl
@[go_sem] theorem pl208 : tyPlaces Go.Proofs.Tryz.prog 208 = some [(0, 0)] := by kernel_rfl
@[go_sem] theorem fld208_0 : fldOff Go.Proofs.Tryz.prog 208 0 = some (0, 0) := by kernel_rfl
-- 210: abi.TFlag
@[go_sem] theorem size210 : tySize Go.Proofs.Tryz.prog 210 = some 1 := by kernel_rfl
@[go_sem] theorem agg210 : tyAgg Go.Proofs.Tryz.prog 210 = some false := by kernel_rfl
@[go_sem] theorem zero210 : tyZero Go.Proofs.Tryz.prog 210 = some [.int .u8 0] := by kernel_rfl
@[go_sem] theorem int210 : tyInt Go.Proofs.Tryz.prog 210 = some .u8 := by kernel_rfl
@[go_sem] theorem und210 : (Program.underlying Go.Proofs.Tryz.prog 210).isSome = true := by kernel_rfl
-- 211: abi.Kind
@[go_sem] theorem size211 : tySize Go.Proofs.Tryz.prog 211 = some 1 := by kernel_rfl
@[go_sem] theorem agg211 : tyAgg Go.Proofs.Tryz.prog 211 = some false := by kernel_rfl
@[go_sem] theorem zero211 : tyZero Go.Proofs.Tryz.prog 211 = some [.int .u8 0] := by kernel_rfl
@[go_sem] theorem int211 : tyInt Go.Proofs.Tryz.prog 211 = some .u8 := by kernel_rfl
@[go_sem] theorem und211 : (Program.underlying Go.Proofs.Tryz.prog 211).isSome = true := by kernel_rfl
-- 213: *uint8
@[go_sem] theorem size213 : tySize Go.Proofs.Tryz.prog 213 = some 1 := by kernel_rfl
@[go_sem] theorem agg213 : tyAgg Go.Proofs.Tryz.prog 213 = some false := by kernel_rfl
@[go_sem] theorem zero213 : tyZero Go.Proofs.Tryz.prog 213 = some [.pointer none] := by kernel_rfl
-- 214: abi.NameOff
@[go_sem] theorem size214 : tySize Go.Proofs.Tryz.prog 214 = some 1 := by kernel_rfl
@[go_sem] theorem agg214 : tyAgg Go.Proofs.Tryz.prog 214 = some false := by kernel_rfl
@[go_sem] theorem zero214 : tyZero Go.Proofs.Tryz.prog 214 = some [.int .i32 0] := by kernel_rfl
@[go_sem] theorem int214 : tyInt Go.Proofs.Tryz.prog 214 = some .i32 := by kernel_rfl
@[go_sem] theorem und214 : (Program.underlying Go.Proofs.Tryz.prog 214).isSome = true := by kernel_rfl
-- 215: abi.TypeOff
@[go_sem] theorem size215 : tySize Go.Proofs.Tryz.prog 215 = some 1 := by kernel_rfl
@[go_sem] theorem agg215 : tyAgg Go.Proofs.Tryz.prog 215 = some false := by kernel_rfl
@[go_sem] theorem zero215 : tyZero Go.Proofs.Tryz.prog 215 = some [.int .i32 0] := by kernel_rfl
@[go_sem] theorem int215 : tyInt Go.Proofs.Tryz.prog 215 = some .i32 := by kernel_rfl
@[go_sem] theorem und215 : (Program.underlying Go.Proofs.Tryz.prog 215).isSome = true := by kernel_rfl
-- 216: struct { Size_ uintptr; PtrBytes uintptr; Hash uint32; TFlag abi.TFlag
@[go_sem] theorem size216 : tySize Go.Proofs.Tryz.prog 216 = some 11 := by kernel_rfl
@[go_sem] theorem agg216 : tyAgg Go.Proofs.Tryz.prog 216 = some true := by kernel_rfl
@[go_sem] theorem zero216 : tyZero Go.Proofs.Tryz.prog 216 = some [.int .u64 0, .int .u64 0, .int .u32 0, .int .u8 0, .int .u8 0, .int .u8 0, .int .u8 0, .nilFunc, .pointer none, .int .i32 0, .int .i32 0] := by kernel_rfl
-- 217: abi.Type
@[go_sem] theorem size217 : tySize Go.Proofs.Tryz.prog 217 = some 11 := by kernel_rfl
@[go_sem] theorem agg217 : tyAgg Go.Proofs.Tryz.prog 217 = some true := by kernel_rfl
@[go_sem] theorem zero217 : tyZero Go.Proofs.Tryz.prog 217 = some [.int .u64 0, .int .u64 0, .int .u32 0, .int .u8 0, .int .u8 0, .int .u8 0, .int .u8 0, .nilFunc, .pointer none, .int .i32 0, .int .i32 0] := by kernel_rfl
-- 218: unsafe.Pointer
@[go_sem] theorem size218 : tySize Go.Proofs.Tryz.prog 218 = some 1 := by kernel_rfl
@[go_sem] theorem agg218 : tyAgg Go.Proofs.Tryz.prog 218 = some false := by kernel_rfl
@[go_sem] theorem zero218 : tyZero Go.Proofs.Tryz.prog 218 = some [.pointer none] := by kernel_rfl
@[go_sem] theorem sk45 : structK Go.Proofs.Tryz.prog 45 = some [.i, .i] := by kernel_rfl
@[go_sem] theorem sk73 : structK Go.Proofs.Tryz.prog 73 = some [.i, .i, .i] := by kernel_rfl
@[go_sem] theorem sk99 : structK Go.Proofs.Tryz.prog 99 = some [.s, .i, .i, .i, .i, .i, .i] := by kernel_rfl
@[go_sem] theorem sk179 : structK Go.Proofs.Tryz.prog 179 = some [.i, .s, .i] := by kernel_rfl
end Go.Proofs.YtdlohnchnneaeaaGreat.Ty
namespace Go.Abs
theorem take0 {α β : Type} (f : α → β) (l : List α) (n : Nat) : (l.map f).take n = (l.take n).map f := (List.map_take ..).symm
theorem drop0 {α β : Type} (f : α → β) (l : List α) (n : Nat) : (l.map f).drop n = (l.drop n).map f := (List.map_drop ..).symm
attribute [go_sem] take0 drop0 Nat.le_refl Nat.not_lt_zero Nat.zero_le Nat.zero_lt_succ decide_true decide_false Bool.not_not exists_eq'
end Go.Abs
/- Go's data of this program as plain data, and how they are encoded. -/
namespace Go.Proofs.YtdlohnchnneaeaaGreat
open Go.Abs

def encI (n : Int) : List PV := [.val (.int .i64 n)]
def encS (s : ByteArray) : List PV := [.val (.string s)]
def encInts (l : List Int) : PV := .lst (l.map encI)
def encStrs (l : List ByteArray) : PV := .lst (l.map encS)

structure Attr where
  name : ByteArray
  low : Int
  high : Int
  names : List ByteArray
structure NodeT where
  name : ByteArray
  parent : Int
  abs : Bool
  attrs : List Attr
structure EdgeT where
  name : ByteArray
  src : Int
  dst : Int
  outLow : Int
  outHigh : Int
  inLow : Int
  inHigh : Int
structure Types where
  nodes : List NodeT
  edges : List EdgeT
structure Sorts where
  nodes : List Int
  edges : List Int
structure Edge where
  type : Int
  src : Int
  dst : Int
structure Graph where
  nodes : List Int
  edges : List Edge
structure Host where
  graph : Graph
  values : List (List Int)
structure GPair where
  a : Int
  b : Int

instance : Inhabited ByteArray := ⟨.empty⟩
instance : Inhabited Attr := ⟨⟨.empty, 0, 0, []⟩⟩
instance : Inhabited NodeT := ⟨⟨.empty, 0, false, []⟩⟩
instance : Inhabited EdgeT := ⟨⟨.empty, 0, 0, 0, 0, 0, 0⟩⟩
instance : Inhabited Edge := ⟨⟨0, 0, 0⟩⟩
instance : Inhabited GPair := ⟨⟨0, 0⟩⟩

def encAttr (a : Attr) : List PV := [.val (.string a.name), .val (.int .i64 a.low), .val (.int .i64 a.high), encStrs a.names]
def encNode (n : NodeT) : List PV := [.val (.string n.name), .val (.int .i64 n.parent), .val (.bool n.abs), .lst (n.attrs.map encAttr)]
def encEdgeT (e : EdgeT) : List PV := [.val (.string e.name), .val (.int .i64 e.src), .val (.int .i64 e.dst), .val (.int .i64 e.outLow), .val (.int .i64 e.outHigh), .val (.int .i64 e.inLow), .val (.int .i64 e.inHigh)]
def encEdge (e : Edge) : List PV := [.val (.int .i64 e.type), .val (.int .i64 e.src), .val (.int .i64 e.dst)]
def encPair (p : GPair) : List PV := [.val (.int .i64 p.a), .val (.int .i64 p.b)]
def encRow (l : List Int) : List PV := [encInts l]
def encTypes (t : Types) : PV := .agg [.lst (t.nodes.map encNode), .lst (t.edges.map encEdgeT)]
def encSorts (s : Sorts) : PV := .agg [encInts s.nodes, encInts s.edges]
def encGraph (g : Graph) : PV := .agg [encInts g.nodes, .lst (g.edges.map encEdge)]
def encHost (h : Host) : PV := .agg [encInts h.graph.nodes, .lst (h.graph.edges.map encEdge), .lst (h.values.map encRow)]

theorem getD_map {α : Type} [Inhabited α] (f : α → List PV) {l : List α} {n : Nat} (h : n < l.length) : (l.map f).getD n [] = f (l.getD n default) := by
  simp [h]
theorem take_succ_getD {α : Type} [Inhabited α] {l : List α} {n : Nat} (h : n < l.length) : l.take (n + 1) = l.take n ++ [l.getD n default] := by
  rw [List.take_add_one]; simp [h]
theorem wrap_succ {k n : Nat} (h : k < n) (hn : n ≤ 4611686018427387904) : IntKind.i64.wrap ((k : Int) + 1) = ((k + 1 : Nat) : Int) := by
  rw [IntWalk.i64_in _ (by omega)]; omega

section
variable {P : Program} {N : Nat} {own : List Nat} {ops : Array Oper} {K : Env → AHeap → Prop} {env : Env} {H : AHeap}
theorem lend1_p (x : PV) : lend1 H (.p x) = some (x, false) := rfl
theorem lendL_map (ps : List PV) : lendL (lend1 H) (ps.map AV.p) = some (ps, false) := by
  induction ps with
  | nil => rfl
  | cons a r ih => simp [lendL, lend1_p, ih]
theorem lendL_app (qs bs : List AV) : lendL (lend1 H) (qs ++ bs) = (match lendL (lend1 H) qs, lendL (lend1 H) bs with | some (xs, b), some (ys, c) => some (xs ++ ys, b || c) | _, _ => none) := by
  induction qs with
  | nil =>
    simp only [List.nil_append, lendL]
    cases lendL (lend1 H) bs with
    | none => rfl
    | some r => obtain ⟨ys, c⟩ := r; simp
  | cons a r ih =>
    simp only [List.cons_append, lendL, ih]
    cases lend1 H a with
    | none => rfl
    | some q =>
      cases lendL (lend1 H) r with
      | none => rfl
      | some r1 =>
        cases lendL (lend1 H) bs with
        | none => rfl
        | some r2 => simp [Bool.or_assoc]
theorem condC_splitN {b : Bool} {x y : Code} {K : Kont} (h1 : b = true → condC P N own (.p (.val (.bool false))) x y K env H) (h2 : b = false → condC P N own (.p (.val (.bool true))) x y K env H) : condC P N own (.p (.val (.bool !b))) x y K env H := by
  cases b
  · exact h2 rfl
  · exact h1 rfl
theorem walkG_split {b : Bool} {o : Oper} {rest : List Oper} (h1 : b = true → walkG P N own ops (some true) o rest K env H) (h2 : b = false → walkG P N own ops (some false) o rest K env H) : walkG P N own ops (some b) o rest K env H := by
  cases b
  · exact h2 rfl
  · exact h1 rfl
theorem walkG_splitN {b : Bool} {o : Oper} {rest : List Oper} (h1 : b = true → walkG P N own ops (some false) o rest K env H) (h2 : b = false → walkG P N own ops (some true) o rest K env H) : walkG P N own ops (some !b) o rest K env H := by
  cases b
  · exact h2 rfl
  · exact h1 rfl
theorem walkDG_splitN {b : Bool} {c : Cls} {o : Oper} {rest : List (Oper × Cls)} (h1 : b = true → walkDG P N own ops (some false) c o rest K env H) (h2 : b = false → walkDG P N own ops (some true) c o rest K env H) : walkDG P N own ops (some !b) c o rest K env H := by
  cases b
  · exact h2 rfl
  · exact h1 rfl
theorem walkDG_split {b : Bool} {c : Cls} {o : Oper} {rest : List (Oper × Cls)} (h1 : b = true → walkDG P N own ops (some true) c o rest K env H) (h2 : b = false → walkDG P N own ops (some false) c o rest K env H) : walkDG P N own ops (some b) c o rest K env H := by
  cases b
  · exact h2 rfl
  · exact h1 rfl
end
end Go.Proofs.YtdlohnchnneaeaaGreat
/- The small tests. -/
namespace Go.Proofs.YtdlohnchnneaeaaGreat
open Go.Abs

theorem is_ok (n : Int) : CallV Go.Proofs.Tryz.prog 65 [.val (.int .i64 n)] (fun r => r = .val (.bool (decide (1 ≤ n) && decide (n ≤ 3)))) := by
  refine callV_of_cw [] Ty.mixed Go.Proofs.Tryz.func65 rfl (by kernel_rfl) (by simp [Go.Proofs.Tryz.ntmps65]) ?_; rw [Go.Proofs.Tryz.ntmps65, Go.Proofs.Tryz.results65]
  simp -implicitDefEqProofs only [go_sem, reduceEqDiff, reduceLT, reduceLeDiff, reduceMul, reduceAdd, reduceIte, reduceCtorEq, Nat.reduceBEq, reduceSub, Int.reduceToNat]
  refine walkG_split (fun h => ?_) (fun h => ?_) <;> simp -implicitDefEqProofs only [go_sem, reduceEqDiff, reduceLT, reduceLeDiff, reduceMul, reduceAdd, reduceIte, reduceCtorEq, Nat.reduceBEq, reduceSub, Int.reduceToNat, h]

theorem in_ok (n a b : Int) : CallV Go.Proofs.Tryz.prog 82 [.val (.int .i64 n), .val (.int .i64 a), .val (.int .i64 b)] (fun r => r = .val (.bool (decide (a ≤ n) && decide (n ≤ b)))) := by
  refine callV_of_cw [] Ty.mixed Go.Proofs.Tryz.func82 rfl (by kernel_rfl) (by simp [Go.Proofs.Tryz.ntmps82]) ?_; rw [Go.Proofs.Tryz.ntmps82, Go.Proofs.Tryz.results82]
  simp -implicitDefEqProofs only [go_sem, reduceEqDiff, reduceLT, reduceLeDiff, reduceMul, reduceAdd, reduceIte, reduceCtorEq, Nat.reduceBEq, reduceSub, Int.reduceToNat]
  refine walkG_split (fun h => ?_) (fun h => ?_) <;> simp -implicitDefEqProofs only [go_sem, reduceEqDiff, reduceLT, reduceLeDiff, reduceMul, reduceAdd, reduceIte, reduceCtorEq, Nat.reduceBEq, reduceSub, Int.reduceToNat, h]

theorem within_ok (n m : Int) : CallV Go.Proofs.Tryz.prog 104 [.val (.int .i64 n), .val (.int .i64 m)] (fun r => r = .val (.bool (decide (0 ≤ n) && decide (n ≤ m)))) := by
  refine callV_of_cw [] Ty.mixed Go.Proofs.Tryz.func104 rfl (by kernel_rfl) (by simp [Go.Proofs.Tryz.ntmps104]) ?_; rw [Go.Proofs.Tryz.ntmps104, Go.Proofs.Tryz.results104]
  simp -implicitDefEqProofs only [go_sem, reduceEqDiff, reduceLT, reduceLeDiff, reduceMul, reduceAdd, reduceIte, reduceCtorEq, Nat.reduceBEq, reduceSub, Int.reduceToNat]
  refine walkG_split (fun h => ?_) (fun h => ?_) <;> simp -implicitDefEqProofs only [go_sem, reduceEqDiff, reduceLT, reduceLeDiff, reduceMul, reduceAdd, reduceIte, reduceCtorEq, Nat.reduceBEq, reduceSub, Int.reduceToNat, h]
end Go.Proofs.YtdlohnchnneaeaaGreat
/- The small tests, continued. -/
namespace Go.Proofs.YtdlohnchnneaeaaGreat
open Go.Abs

def boundB (a b : Int) : Bool := (decide (0 ≤ a) && decide (a ≤ 40)) && (decide (b = -1) || (decide (a ≤ b) && decide (b ≤ 40)))
theorem bounded_ok (a b : Int) : CallV Go.Proofs.Tryz.prog 126 [.val (.int .i64 a), .val (.int .i64 b)] (fun r => r = .val (.bool (boundB a b))) := by
  unfold boundB
  refine callV_of_cw [] Ty.mixed Go.Proofs.Tryz.func126 rfl (by kernel_rfl) (by simp [Go.Proofs.Tryz.ntmps126]) ?_; rw [Go.Proofs.Tryz.ntmps126, Go.Proofs.Tryz.results126]
  simp -implicitDefEqProofs only [go_sem, reduceEqDiff, reduceLT, reduceLeDiff, reduceMul, reduceAdd, reduceIte, reduceCtorEq, Nat.reduceBEq, reduceSub, Int.reduceToNat]
  repeat' first | done | (refine walkG_splitN (fun h => ?_) (fun h => ?_) <;> try simp -implicitDefEqProofs only [go_sem, reduceEqDiff, reduceLT, reduceLeDiff, reduceMul, reduceAdd, reduceIte, reduceCtorEq, Nat.reduceBEq, reduceSub, Int.reduceToNat, h]) | (refine walkG_split (fun h => ?_) (fun h => ?_) <;> try simp -implicitDefEqProofs only [go_sem, reduceEqDiff, reduceLT, reduceLeDiff, reduceMul, reduceAdd, reduceIte, reduceCtorEq, Nat.reduceBEq, reduceSub, Int.reduceToNat, h]) | (refine condC_splitN (fun h => ?_) (fun h => ?_) <;> try simp -implicitDefEqProofs only [go_sem, reduceEqDiff, reduceLT, reduceLeDiff, reduceMul, reduceAdd, reduceIte, reduceCtorEq, Nat.reduceBEq, reduceSub, Int.reduceToNat, h]) | (refine condC_split (fun h => ?_) (fun h => ?_) <;> try simp -implicitDefEqProofs only [go_sem, reduceEqDiff, reduceLT, reduceLeDiff, reduceMul, reduceAdd, reduceIte, reduceCtorEq, Nat.reduceBEq, reduceSub, Int.reduceToNat, h])
theorem bound_ok (a b : Int) : CallV Go.Proofs.Tryz.prog 129 [.val (.int .i64 a), .val (.int .i64 b)] (fun r => r = .val (.bool (boundB a b))) := by
  unfold boundB
  refine callV_of_cw [] Ty.mixed Go.Proofs.Tryz.func129 rfl (by kernel_rfl) (by simp [Go.Proofs.Tryz.ntmps129]) ?_; rw [Go.Proofs.Tryz.ntmps129, Go.Proofs.Tryz.results129]
  simp -implicitDefEqProofs only [go_sem, reduceEqDiff, reduceLT, reduceLeDiff, reduceMul, reduceAdd, reduceIte, reduceCtorEq, Nat.reduceBEq, reduceSub, Int.reduceToNat]
  refine call_go (in_ok a 0 40) (by simp -implicitDefEqProofs only [go_sem, reduceEqDiff, reduceLT, reduceLeDiff, reduceMul, reduceAdd, reduceIte, reduceCtorEq, Nat.reduceBEq, reduceSub, Int.reduceToNat] <;> rfl) (scal rfl) ?_
  simp -implicitDefEqProofs only [go_sem, reduceEqDiff, reduceLT, reduceLeDiff, reduceMul, reduceAdd, reduceIte, reduceCtorEq, Nat.reduceBEq, reduceSub, Int.reduceToNat]
  repeat' first | done | (refine walkG_splitN (fun h => ?_) (fun h => ?_) <;> try simp -implicitDefEqProofs only [go_sem, reduceEqDiff, reduceLT, reduceLeDiff, reduceMul, reduceAdd, reduceIte, reduceCtorEq, Nat.reduceBEq, reduceSub, Int.reduceToNat, h]) | (refine walkG_split (fun h => ?_) (fun h => ?_) <;> try simp -implicitDefEqProofs only [go_sem, reduceEqDiff, reduceLT, reduceLeDiff, reduceMul, reduceAdd, reduceIte, reduceCtorEq, Nat.reduceBEq, reduceSub, Int.reduceToNat, h]) | (refine condC_splitN (fun h => ?_) (fun h => ?_) <;> try simp -implicitDefEqProofs only [go_sem, reduceEqDiff, reduceLT, reduceLeDiff, reduceMul, reduceAdd, reduceIte, reduceCtorEq, Nat.reduceBEq, reduceSub, Int.reduceToNat, h]) | (refine condC_split (fun h => ?_) (fun h => ?_) <;> try simp -implicitDefEqProofs only [go_sem, reduceEqDiff, reduceLT, reduceLeDiff, reduceMul, reduceAdd, reduceIte, reduceCtorEq, Nat.reduceBEq, reduceSub, Int.reduceToNat, h])
  all_goals
    refine call_go (in_ok b a 40) (by simp -implicitDefEqProofs only [go_sem, reduceEqDiff, reduceLT, reduceLeDiff, reduceMul, reduceAdd, reduceIte, reduceCtorEq, Nat.reduceBEq, reduceSub, Int.reduceToNat] <;> rfl) (scal rfl) ?_
    simp -implicitDefEqProofs only [go_sem, reduceEqDiff, reduceLT, reduceLeDiff, reduceMul, reduceAdd, reduceIte, reduceCtorEq, Nat.reduceBEq, reduceSub, Int.reduceToNat, *]

def letterB (n : Int) : Bool := (decide (97 ≤ n) && decide (n ≤ 122)) || (decide (65 ≤ n) && decide (n ≤ 90))
def digitB (n : Int) : Bool := decide (48 ≤ n) && decide (n ≤ 57)
def partB (n : Int) : Bool := (letterB n || digitB n) || decide (n = 95)
theorem letter_ok (n : Int) : CallV Go.Proofs.Tryz.prog 161 [.val (.int .u8 n)] (fun r => r = .val (.bool (letterB n))) := by
  unfold letterB
  refine callV_of_cw [] Ty.mixed Go.Proofs.Tryz.func161 rfl (by kernel_rfl) (by simp [Go.Proofs.Tryz.ntmps161]) ?_; rw [Go.Proofs.Tryz.ntmps161, Go.Proofs.Tryz.results161]
  simp -implicitDefEqProofs only [go_sem, reduceEqDiff, reduceLT, reduceLeDiff, reduceMul, reduceAdd, reduceIte, reduceCtorEq, Nat.reduceBEq, reduceSub, Int.reduceToNat]
  repeat' first | done | (refine walkG_splitN (fun h => ?_) (fun h => ?_) <;> try simp -implicitDefEqProofs only [go_sem, reduceEqDiff, reduceLT, reduceLeDiff, reduceMul, reduceAdd, reduceIte, reduceCtorEq, Nat.reduceBEq, reduceSub, Int.reduceToNat, h]) | (refine walkG_split (fun h => ?_) (fun h => ?_) <;> try simp -implicitDefEqProofs only [go_sem, reduceEqDiff, reduceLT, reduceLeDiff, reduceMul, reduceAdd, reduceIte, reduceCtorEq, Nat.reduceBEq, reduceSub, Int.reduceToNat, h]) | (refine condC_splitN (fun h => ?_) (fun h => ?_) <;> try simp -implicitDefEqProofs only [go_sem, reduceEqDiff, reduceLT, reduceLeDiff, reduceMul, reduceAdd, reduceIte, reduceCtorEq, Nat.reduceBEq, reduceSub, Int.reduceToNat, h]) | (refine condC_split (fun h => ?_) (fun h => ?_) <;> try simp -implicitDefEqProofs only [go_sem, reduceEqDiff, reduceLT, reduceLeDiff, reduceMul, reduceAdd, reduceIte, reduceCtorEq, Nat.reduceBEq, reduceSub, Int.reduceToNat, h])
end Go.Proofs.YtdlohnchnneaeaaGreat
/- slices.IndexFunc, ContainsFunc, Index, Contains. -/
namespace Go.Proofs.YtdlohnchnneaeaaGreat
open Go.Abs

def idxOf {α : Type} (p : α → Bool) (l : List α) : Int := match l.findIdx? p with
  | some i => i
  | none => -1
theorem idxOf_at {α : Type} [Inhabited α] {p : α → Bool} {l : List α} {k : Nat} (hk : k < l.length) (h1 : ∀ j, j < k → p (l.getD j default) = false) (h2 : p (l.getD k default) = true) : idxOf p l = k := by
  have : l.findIdx? p = some k := by
    rw [List.findIdx?_eq_some_iff_getElem]
    refine ⟨hk, by simpa [hk] using h2, fun j hj => ?_⟩
    have := h1 j hj
    have hjl : j < l.length := by omega
    simpa [hjl] using this
  simp [idxOf, this]
theorem idxOf_none {α : Type} [Inhabited α] {p : α → Bool} {l : List α} (h1 : ∀ j, j < l.length → p (l.getD j default) = false) : idxOf p l = -1 := by
  have : l.findIdx? p = none := by
    rw [List.findIdx?_eq_none_iff]
    intro x hx
    obtain ⟨j, hj, rfl⟩ := List.getElem_of_mem hx
    have := h1 j hj
    simpa [hj] using this
  simp [idxOf, this]
theorem idxOf_any {α : Type} {p : α → Bool} {l : List α} : decide (0 ≤ idxOf p l) = l.any p := by
  unfold idxOf
  cases h : l.findIdx? p with
  | none =>
    rw [List.findIdx?_eq_none_iff] at h
    have : l.any p = false := by simpa using h
    simp [this]
  | some i =>
    rw [List.findIdx?_eq_some_iff_getElem] at h
    obtain ⟨hi, h, _⟩ := h
    have : l.any p = true := List.any_eq_true.2 ⟨_, List.getElem_mem hi, h⟩
    simp [this]
def pA (cs : List PV) : PV := .agg cs
def pV (cs : List PV) : PV := cs.getD 0 .emp

theorem index_attr (p : Attr → Bool) (l : List Attr) (hl : l.length ≤ 1000000) (k : FuncId) (fs cs : List PV) (hp : ∀ x ∈ l, CallV Go.Proofs.Tryz.prog k (fs ++ [pA (encAttr x)] ++ cs) (fun r => r = .val (.bool (p x)))) :
    CallV Go.Proofs.Tryz.prog 157 [.lst (l.map encAttr), .clo (.func k) fs cs] (fun r => r = .val (.int .i64 (idxOf p l))) := by
  refine callV_of_cw [] Ty.mixed Go.Proofs.Tryz.func157 rfl (by kernel_rfl) (by simp [Go.Proofs.Tryz.ntmps157]) ?_; rw [Go.Proofs.Tryz.ntmps157, Go.Proofs.Tryz.results157]
  simp -implicitDefEqProofs only [go_sem, reduceEqDiff, reduceLT, reduceLeDiff, reduceMul, reduceAdd, reduceIte, reduceCtorEq, Nat.reduceBEq, reduceSub, Int.reduceToNat]
  refine loop_rule (σ := Nat) (fun x => (upd (upd (upd (upd env0 0 (.p (.lst (l.map encAttr)))) 1 (.p (.clo (.func k) fs cs))) 7 (.p (.val (.int .i64 l.length)))) 8 (.p (.val (.int .i64 x))))) (fun x => heap0)
    (fun x => x ≤ l.length ∧ ∀ j, j < x → p (l.getD j default) = false) (fun x => l.length - x) 0 ⟨Nat.zero_le _, fun j hj => absurd hj (Nat.not_lt_zero j)⟩ (weak_mk (by repeat (first | exact sub_env0 _ | refine sub_upd ?_ (by first | rfl | simp [upd]))) (by repeat (first | exact hsub0 _ | refine hsub_hset ?_ (by first | rfl | simp [hset]))) (by repeat (first | exact ids_env0 _ | refine ids_upd ?_ (by simp [idsOk, idsOkL, hset]))) (by repeat (first | exact boxIds0 _ | refine boxIds_row ?_ | refine boxIds_shut ?_ | refine boxIds_box ?_ (by simp [idsOk, idsOkL, hset]))) (by repeat (first | exact keep0 _ | refine keep_low (by decide) ?_ | refine keep_high (by simp [hset]) ?_))) ?_
  rintro x ⟨hx, hq⟩
  simp -implicitDefEqProofs only [go_sem, reduceEqDiff, reduceLT, reduceLeDiff, reduceMul, reduceAdd, reduceIte, reduceCtorEq, Nat.reduceBEq, reduceSub, Int.reduceToNat]
  refine condC_split (fun hc => ?_) (fun hc => ?_)
  · have hlt : x < l.length := by simpa using hc
    simp -implicitDefEqProofs only [go_sem, reduceEqDiff, reduceLT, reduceLeDiff, reduceMul, reduceAdd, reduceIte, reduceCtorEq, Nat.reduceBEq, reduceSub, Int.reduceToNat, getD_map encAttr hlt, hlt, encAttr]
    refine call_go (hp (l.getD x default) (by simp [hlt])) (by simp -implicitDefEqProofs only [go_sem, reduceEqDiff, reduceLT, reduceLeDiff, reduceMul, reduceAdd, reduceIte, reduceCtorEq, Nat.reduceBEq, reduceSub, Int.reduceToNat, lendL_app, lendL_map, encAttr, pA, Bool.or_false, Bool.false_or] <;> rfl) (scal rfl) ?_
    simp -implicitDefEqProofs only [go_sem, reduceEqDiff, reduceLT, reduceLeDiff, reduceMul, reduceAdd, reduceIte, reduceCtorEq, Nat.reduceBEq, reduceSub, Int.reduceToNat]
    refine condC_split (fun hb => ?_) (fun hb => ?_) <;> simp -implicitDefEqProofs only [go_sem, reduceEqDiff, reduceLT, reduceLeDiff, reduceMul, reduceAdd, reduceIte, reduceCtorEq, Nat.reduceBEq, reduceSub, Int.reduceToNat]
    · exact (idxOf_at hlt hq hb).symm
    · refine loopN_mk (x + 1) ⟨hlt, fun j hj => ?_⟩ (by omega) ?_
      · rcases Nat.lt_succ_iff_lt_or_eq.1 hj with h | h
        · exact hq j h
        · rw [h]; exact hb
      · rw [wrap_succ hlt (by omega)]
        exact (weak_mk (by repeat (first | exact sub_env0 _ | refine sub_upd ?_ (by first | rfl | simp [upd]))) (by repeat (first | exact hsub0 _ | refine hsub_hset ?_ (by first | rfl | simp [hset]))) (by repeat (first | exact ids_env0 _ | refine ids_upd ?_ (by simp [idsOk, idsOkL, hset]))) (by repeat (first | exact boxIds0 _ | refine boxIds_row ?_ | refine boxIds_shut ?_ | refine boxIds_box ?_ (by simp [idsOk, idsOkL, hset]))) (by repeat (first | exact keep0 _ | refine keep_low (by decide) ?_ | refine keep_high (by simp [hset]) ?_)))
  · have hge : l.length ≤ x := by simpa using hc
    simp -implicitDefEqProofs only [go_sem, reduceEqDiff, reduceLT, reduceLeDiff, reduceMul, reduceAdd, reduceIte, reduceCtorEq, Nat.reduceBEq, reduceSub, Int.reduceToNat, hc]
    rw [idxOf_none fun j hj => hq j (by omega)]
theorem contains_attr (p : Attr → Bool) (l : List Attr) (hl : l.length ≤ 1000000) (k : FuncId) (fs cs : List PV) (hp : ∀ x ∈ l, CallV Go.Proofs.Tryz.prog k (fs ++ [pA (encAttr x)] ++ cs) (fun r => r = .val (.bool (p x)))) :
    CallV Go.Proofs.Tryz.prog 143 [.lst (l.map encAttr), .clo (.func k) fs cs] (fun r => r = .val (.bool (l.any p))) := by
  refine callV_of_cw [] Ty.mixed Go.Proofs.Tryz.func143 rfl (by kernel_rfl) (by simp [Go.Proofs.Tryz.ntmps143]) ?_; rw [Go.Proofs.Tryz.ntmps143, Go.Proofs.Tryz.results143]
  simp -implicitDefEqProofs only [go_sem, reduceEqDiff, reduceLT, reduceLeDiff, reduceMul, reduceAdd, reduceIte, reduceCtorEq, Nat.reduceBEq, reduceSub, Int.reduceToNat]
  refine call_go (index_attr p l hl k fs cs hp) (by simp -implicitDefEqProofs only [go_sem, reduceEqDiff, reduceLT, reduceLeDiff, reduceMul, reduceAdd, reduceIte, reduceCtorEq, Nat.reduceBEq, reduceSub, Int.reduceToNat] <;> rfl) (scal rfl) ?_
  simp -implicitDefEqProofs only [go_sem, reduceEqDiff, reduceLT, reduceLeDiff, reduceMul, reduceAdd, reduceIte, reduceCtorEq, Nat.reduceBEq, reduceSub, Int.reduceToNat]
  exact idxOf_any
theorem index_node (p : NodeT → Bool) (l : List NodeT) (hl : l.length ≤ 1000000) (k : FuncId) (fs cs : List PV) (hp : ∀ x ∈ l, CallV Go.Proofs.Tryz.prog k (fs ++ [pA (encNode x)] ++ cs) (fun r => r = .val (.bool (p x)))) :
    CallV Go.Proofs.Tryz.prog 142 [.lst (l.map encNode), .clo (.func k) fs cs] (fun r => r = .val (.int .i64 (idxOf p l))) := by
  refine callV_of_cw [] Ty.mixed Go.Proofs.Tryz.func142 rfl (by kernel_rfl) (by simp [Go.Proofs.Tryz.ntmps142]) ?_; rw [Go.Proofs.Tryz.ntmps142, Go.Proofs.Tryz.results142]
  simp -implicitDefEqProofs only [go_sem, reduceEqDiff, reduceLT, reduceLeDiff, reduceMul, reduceAdd, reduceIte, reduceCtorEq, Nat.reduceBEq, reduceSub, Int.reduceToNat]
  refine loop_rule (σ := Nat) (fun x => (upd (upd (upd (upd env0 0 (.p (.lst (l.map encNode)))) 1 (.p (.clo (.func k) fs cs))) 7 (.p (.val (.int .i64 l.length)))) 8 (.p (.val (.int .i64 x))))) (fun x => heap0)
    (fun x => x ≤ l.length ∧ ∀ j, j < x → p (l.getD j default) = false) (fun x => l.length - x) 0 ⟨Nat.zero_le _, fun j hj => absurd hj (Nat.not_lt_zero j)⟩ (weak_mk (by repeat (first | exact sub_env0 _ | refine sub_upd ?_ (by first | rfl | simp [upd]))) (by repeat (first | exact hsub0 _ | refine hsub_hset ?_ (by first | rfl | simp [hset]))) (by repeat (first | exact ids_env0 _ | refine ids_upd ?_ (by simp [idsOk, idsOkL, hset]))) (by repeat (first | exact boxIds0 _ | refine boxIds_row ?_ | refine boxIds_shut ?_ | refine boxIds_box ?_ (by simp [idsOk, idsOkL, hset]))) (by repeat (first | exact keep0 _ | refine keep_low (by decide) ?_ | refine keep_high (by simp [hset]) ?_))) ?_
  rintro x ⟨hx, hq⟩
  simp -implicitDefEqProofs only [go_sem, reduceEqDiff, reduceLT, reduceLeDiff, reduceMul, reduceAdd, reduceIte, reduceCtorEq, Nat.reduceBEq, reduceSub, Int.reduceToNat]
  refine condC_split (fun hc => ?_) (fun hc => ?_)
  · have hlt : x < l.length := by simpa using hc
    simp -implicitDefEqProofs only [go_sem, reduceEqDiff, reduceLT, reduceLeDiff, reduceMul, reduceAdd, reduceIte, reduceCtorEq, Nat.reduceBEq, reduceSub, Int.reduceToNat, getD_map encNode hlt, hlt, encNode]
    refine call_go (hp (l.getD x default) (by simp [hlt])) (by simp -implicitDefEqProofs only [go_sem, reduceEqDiff, reduceLT, reduceLeDiff, reduceMul, reduceAdd, reduceIte, reduceCtorEq, Nat.reduceBEq, reduceSub, Int.reduceToNat, lendL_app, lendL_map, encNode, pA, Bool.or_false, Bool.false_or] <;> rfl) (scal rfl) ?_
    simp -implicitDefEqProofs only [go_sem, reduceEqDiff, reduceLT, reduceLeDiff, reduceMul, reduceAdd, reduceIte, reduceCtorEq, Nat.reduceBEq, reduceSub, Int.reduceToNat]
    refine condC_split (fun hb => ?_) (fun hb => ?_) <;> simp -implicitDefEqProofs only [go_sem, reduceEqDiff, reduceLT, reduceLeDiff, reduceMul, reduceAdd, reduceIte, reduceCtorEq, Nat.reduceBEq, reduceSub, Int.reduceToNat]
    · exact (idxOf_at hlt hq hb).symm
    · refine loopN_mk (x + 1) ⟨hlt, fun j hj => ?_⟩ (by omega) ?_
      · rcases Nat.lt_succ_iff_lt_or_eq.1 hj with h | h
        · exact hq j h
        · rw [h]; exact hb
      · rw [wrap_succ hlt (by omega)]
        exact (weak_mk (by repeat (first | exact sub_env0 _ | refine sub_upd ?_ (by first | rfl | simp [upd]))) (by repeat (first | exact hsub0 _ | refine hsub_hset ?_ (by first | rfl | simp [hset]))) (by repeat (first | exact ids_env0 _ | refine ids_upd ?_ (by simp [idsOk, idsOkL, hset]))) (by repeat (first | exact boxIds0 _ | refine boxIds_row ?_ | refine boxIds_shut ?_ | refine boxIds_box ?_ (by simp [idsOk, idsOkL, hset]))) (by repeat (first | exact keep0 _ | refine keep_low (by decide) ?_ | refine keep_high (by simp [hset]) ?_)))
  · have hge : l.length ≤ x := by simpa using hc
    simp -implicitDefEqProofs only [go_sem, reduceEqDiff, reduceLT, reduceLeDiff, reduceMul, reduceAdd, reduceIte, reduceCtorEq, Nat.reduceBEq, reduceSub, Int.reduceToNat, hc]
    rw [idxOf_none fun j hj => hq j (by omega)]
theorem contains_node (p : NodeT → Bool) (l : List NodeT) (hl : l.length ≤ 1000000) (k : FuncId) (fs cs : List PV) (hp : ∀ x ∈ l, CallV Go.Proofs.Tryz.prog k (fs ++ [pA (encNode x)] ++ cs) (fun r => r = .val (.bool (p x)))) :
    CallV Go.Proofs.Tryz.prog 119 [.lst (l.map encNode), .clo (.func k) fs cs] (fun r => r = .val (.bool (l.any p))) := by
  refine callV_of_cw [] Ty.mixed Go.Proofs.Tryz.func119 rfl (by kernel_rfl) (by simp [Go.Proofs.Tryz.ntmps119]) ?_; rw [Go.Proofs.Tryz.ntmps119, Go.Proofs.Tryz.results119]
  simp -implicitDefEqProofs only [go_sem, reduceEqDiff, reduceLT, reduceLeDiff, reduceMul, reduceAdd, reduceIte, reduceCtorEq, Nat.reduceBEq, reduceSub, Int.reduceToNat]
  refine call_go (index_node p l hl k fs cs hp) (by simp -implicitDefEqProofs only [go_sem, reduceEqDiff, reduceLT, reduceLeDiff, reduceMul, reduceAdd, reduceIte, reduceCtorEq, Nat.reduceBEq, reduceSub, Int.reduceToNat] <;> rfl) (scal rfl) ?_
  simp -implicitDefEqProofs only [go_sem, reduceEqDiff, reduceLT, reduceLeDiff, reduceMul, reduceAdd, reduceIte, reduceCtorEq, Nat.reduceBEq, reduceSub, Int.reduceToNat]
  exact idxOf_any
theorem index_edget (p : EdgeT → Bool) (l : List EdgeT) (hl : l.length ≤ 1000000) (k : FuncId) (fs cs : List PV) (hp : ∀ x ∈ l, CallV Go.Proofs.Tryz.prog k (fs ++ [pA (encEdgeT x)] ++ cs) (fun r => r = .val (.bool (p x)))) :
    CallV Go.Proofs.Tryz.prog 146 [.lst (l.map encEdgeT), .clo (.func k) fs cs] (fun r => r = .val (.int .i64 (idxOf p l))) := by
  refine callV_of_cw [] Ty.mixed Go.Proofs.Tryz.func146 rfl (by kernel_rfl) (by simp [Go.Proofs.Tryz.ntmps146]) ?_; rw [Go.Proofs.Tryz.ntmps146, Go.Proofs.Tryz.results146]
  simp -implicitDefEqProofs only [go_sem, reduceEqDiff, reduceLT, reduceLeDiff, reduceMul, reduceAdd, reduceIte, reduceCtorEq, Nat.reduceBEq, reduceSub, Int.reduceToNat]
  refine loop_rule (σ := Nat) (fun x => (upd (upd (upd (upd env0 0 (.p (.lst (l.map encEdgeT)))) 1 (.p (.clo (.func k) fs cs))) 7 (.p (.val (.int .i64 l.length)))) 8 (.p (.val (.int .i64 x))))) (fun x => heap0)
    (fun x => x ≤ l.length ∧ ∀ j, j < x → p (l.getD j default) = false) (fun x => l.length - x) 0 ⟨Nat.zero_le _, fun j hj => absurd hj (Nat.not_lt_zero j)⟩ (weak_mk (by repeat (first | exact sub_env0 _ | refine sub_upd ?_ (by first | rfl | simp [upd]))) (by repeat (first | exact hsub0 _ | refine hsub_hset ?_ (by first | rfl | simp [hset]))) (by repeat (first | exact ids_env0 _ | refine ids_upd ?_ (by simp [idsOk, idsOkL, hset]))) (by repeat (first | exact boxIds0 _ | refine boxIds_row ?_ | refine boxIds_shut ?_ | refine boxIds_box ?_ (by simp [idsOk, idsOkL, hset]))) (by repeat (first | exact keep0 _ | refine keep_low (by decide) ?_ | refine keep_high (by simp [hset]) ?_))) ?_
  rintro x ⟨hx, hq⟩
  simp -implicitDefEqProofs only [go_sem, reduceEqDiff, reduceLT, reduceLeDiff, reduceMul, reduceAdd, reduceIte, reduceCtorEq, Nat.reduceBEq, reduceSub, Int.reduceToNat]
  refine condC_split (fun hc => ?_) (fun hc => ?_)
  · have hlt : x < l.length := by simpa using hc
    simp -implicitDefEqProofs only [go_sem, reduceEqDiff, reduceLT, reduceLeDiff, reduceMul, reduceAdd, reduceIte, reduceCtorEq, Nat.reduceBEq, reduceSub, Int.reduceToNat, getD_map encEdgeT hlt, hlt, encEdgeT]
    refine call_go (hp (l.getD x default) (by simp [hlt])) (by simp -implicitDefEqProofs only [go_sem, reduceEqDiff, reduceLT, reduceLeDiff, reduceMul, reduceAdd, reduceIte, reduceCtorEq, Nat.reduceBEq, reduceSub, Int.reduceToNat, lendL_app, lendL_map, encEdgeT, pA, Bool.or_false, Bool.false_or] <;> rfl) (scal rfl) ?_
    simp -implicitDefEqProofs only [go_sem, reduceEqDiff, reduceLT, reduceLeDiff, reduceMul, reduceAdd, reduceIte, reduceCtorEq, Nat.reduceBEq, reduceSub, Int.reduceToNat]
    refine condC_split (fun hb => ?_) (fun hb => ?_) <;> simp -implicitDefEqProofs only [go_sem, reduceEqDiff, reduceLT, reduceLeDiff, reduceMul, reduceAdd, reduceIte, reduceCtorEq, Nat.reduceBEq, reduceSub, Int.reduceToNat]
    · exact (idxOf_at hlt hq hb).symm
    · refine loopN_mk (x + 1) ⟨hlt, fun j hj => ?_⟩ (by omega) ?_
      · rcases Nat.lt_succ_iff_lt_or_eq.1 hj with h | h
        · exact hq j h
        · rw [h]; exact hb
      · rw [wrap_succ hlt (by omega)]
        exact (weak_mk (by repeat (first | exact sub_env0 _ | refine sub_upd ?_ (by first | rfl | simp [upd]))) (by repeat (first | exact hsub0 _ | refine hsub_hset ?_ (by first | rfl | simp [hset]))) (by repeat (first | exact ids_env0 _ | refine ids_upd ?_ (by simp [idsOk, idsOkL, hset]))) (by repeat (first | exact boxIds0 _ | refine boxIds_row ?_ | refine boxIds_shut ?_ | refine boxIds_box ?_ (by simp [idsOk, idsOkL, hset]))) (by repeat (first | exact keep0 _ | refine keep_low (by decide) ?_ | refine keep_high (by simp [hset]) ?_)))
  · have hge : l.length ≤ x := by simpa using hc
    simp -implicitDefEqProofs only [go_sem, reduceEqDiff, reduceLT, reduceLeDiff, reduceMul, reduceAdd, reduceIte, reduceCtorEq, Nat.reduceBEq, reduceSub, Int.reduceToNat, hc]
    rw [idxOf_none fun j hj => hq j (by omega)]
theorem contains_edget (p : EdgeT → Bool) (l : List EdgeT) (hl : l.length ≤ 1000000) (k : FuncId) (fs cs : List PV) (hp : ∀ x ∈ l, CallV Go.Proofs.Tryz.prog k (fs ++ [pA (encEdgeT x)] ++ cs) (fun r => r = .val (.bool (p x)))) :
    CallV Go.Proofs.Tryz.prog 124 [.lst (l.map encEdgeT), .clo (.func k) fs cs] (fun r => r = .val (.bool (l.any p))) := by
  refine callV_of_cw [] Ty.mixed Go.Proofs.Tryz.func124 rfl (by kernel_rfl) (by simp [Go.Proofs.Tryz.ntmps124]) ?_; rw [Go.Proofs.Tryz.ntmps124, Go.Proofs.Tryz.results124]
  simp -implicitDefEqProofs only [go_sem, reduceEqDiff, reduceLT, reduceLeDiff, reduceMul, reduceAdd, reduceIte, reduceCtorEq, Nat.reduceBEq, reduceSub, Int.reduceToNat]
  refine call_go (index_edget p l hl k fs cs hp) (by simp -implicitDefEqProofs only [go_sem, reduceEqDiff, reduceLT, reduceLeDiff, reduceMul, reduceAdd, reduceIte, reduceCtorEq, Nat.reduceBEq, reduceSub, Int.reduceToNat] <;> rfl) (scal rfl) ?_
  simp -implicitDefEqProofs only [go_sem, reduceEqDiff, reduceLT, reduceLeDiff, reduceMul, reduceAdd, reduceIte, reduceCtorEq, Nat.reduceBEq, reduceSub, Int.reduceToNat]
  exact idxOf_any
theorem index_edge (p : Edge → Bool) (l : List Edge) (hl : l.length ≤ 1000000) (k : FuncId) (fs cs : List PV) (hp : ∀ x ∈ l, CallV Go.Proofs.Tryz.prog k (fs ++ [pA (encEdge x)] ++ cs) (fun r => r = .val (.bool (p x)))) :
    CallV Go.Proofs.Tryz.prog 135 [.lst (l.map encEdge), .clo (.func k) fs cs] (fun r => r = .val (.int .i64 (idxOf p l))) := by
  refine callV_of_cw [] Ty.mixed Go.Proofs.Tryz.func135 rfl (by kernel_rfl) (by simp [Go.Proofs.Tryz.ntmps135]) ?_; rw [Go.Proofs.Tryz.ntmps135, Go.Proofs.Tryz.results135]
  simp -implicitDefEqProofs only [go_sem, reduceEqDiff, reduceLT, reduceLeDiff, reduceMul, reduceAdd, reduceIte, reduceCtorEq, Nat.reduceBEq, reduceSub, Int.reduceToNat]
  refine loop_rule (σ := Nat) (fun x => (upd (upd (upd (upd env0 0 (.p (.lst (l.map encEdge)))) 1 (.p (.clo (.func k) fs cs))) 7 (.p (.val (.int .i64 l.length)))) 8 (.p (.val (.int .i64 x))))) (fun x => heap0)
    (fun x => x ≤ l.length ∧ ∀ j, j < x → p (l.getD j default) = false) (fun x => l.length - x) 0 ⟨Nat.zero_le _, fun j hj => absurd hj (Nat.not_lt_zero j)⟩ (weak_mk (by repeat (first | exact sub_env0 _ | refine sub_upd ?_ (by first | rfl | simp [upd]))) (by repeat (first | exact hsub0 _ | refine hsub_hset ?_ (by first | rfl | simp [hset]))) (by repeat (first | exact ids_env0 _ | refine ids_upd ?_ (by simp [idsOk, idsOkL, hset]))) (by repeat (first | exact boxIds0 _ | refine boxIds_row ?_ | refine boxIds_shut ?_ | refine boxIds_box ?_ (by simp [idsOk, idsOkL, hset]))) (by repeat (first | exact keep0 _ | refine keep_low (by decide) ?_ | refine keep_high (by simp [hset]) ?_))) ?_
  rintro x ⟨hx, hq⟩
  simp -implicitDefEqProofs only [go_sem, reduceEqDiff, reduceLT, reduceLeDiff, reduceMul, reduceAdd, reduceIte, reduceCtorEq, Nat.reduceBEq, reduceSub, Int.reduceToNat]
  refine condC_split (fun hc => ?_) (fun hc => ?_)
  · have hlt : x < l.length := by simpa using hc
    simp -implicitDefEqProofs only [go_sem, reduceEqDiff, reduceLT, reduceLeDiff, reduceMul, reduceAdd, reduceIte, reduceCtorEq, Nat.reduceBEq, reduceSub, Int.reduceToNat, getD_map encEdge hlt, hlt, encEdge]
    refine call_go (hp (l.getD x default) (by simp [hlt])) (by simp -implicitDefEqProofs only [go_sem, reduceEqDiff, reduceLT, reduceLeDiff, reduceMul, reduceAdd, reduceIte, reduceCtorEq, Nat.reduceBEq, reduceSub, Int.reduceToNat, lendL_app, lendL_map, encEdge, pA, Bool.or_false, Bool.false_or] <;> rfl) (scal rfl) ?_
    simp -implicitDefEqProofs only [go_sem, reduceEqDiff, reduceLT, reduceLeDiff, reduceMul, reduceAdd, reduceIte, reduceCtorEq, Nat.reduceBEq, reduceSub, Int.reduceToNat]
    refine condC_split (fun hb => ?_) (fun hb => ?_) <;> simp -implicitDefEqProofs only [go_sem, reduceEqDiff, reduceLT, reduceLeDiff, reduceMul, reduceAdd, reduceIte, reduceCtorEq, Nat.reduceBEq, reduceSub, Int.reduceToNat]
    · exact (idxOf_at hlt hq hb).symm
    · refine loopN_mk (x + 1) ⟨hlt, fun j hj => ?_⟩ (by omega) ?_
      · rcases Nat.lt_succ_iff_lt_or_eq.1 hj with h | h
        · exact hq j h
        · rw [h]; exact hb
      · rw [wrap_succ hlt (by omega)]
        exact (weak_mk (by repeat (first | exact sub_env0 _ | refine sub_upd ?_ (by first | rfl | simp [upd]))) (by repeat (first | exact hsub0 _ | refine hsub_hset ?_ (by first | rfl | simp [hset]))) (by repeat (first | exact ids_env0 _ | refine ids_upd ?_ (by simp [idsOk, idsOkL, hset]))) (by repeat (first | exact boxIds0 _ | refine boxIds_row ?_ | refine boxIds_shut ?_ | refine boxIds_box ?_ (by simp [idsOk, idsOkL, hset]))) (by repeat (first | exact keep0 _ | refine keep_low (by decide) ?_ | refine keep_high (by simp [hset]) ?_)))
  · have hge : l.length ≤ x := by simpa using hc
    simp -implicitDefEqProofs only [go_sem, reduceEqDiff, reduceLT, reduceLeDiff, reduceMul, reduceAdd, reduceIte, reduceCtorEq, Nat.reduceBEq, reduceSub, Int.reduceToNat, hc]
    rw [idxOf_none fun j hj => hq j (by omega)]
theorem contains_edge (p : Edge → Bool) (l : List Edge) (hl : l.length ≤ 1000000) (k : FuncId) (fs cs : List PV) (hp : ∀ x ∈ l, CallV Go.Proofs.Tryz.prog k (fs ++ [pA (encEdge x)] ++ cs) (fun r => r = .val (.bool (p x)))) :
    CallV Go.Proofs.Tryz.prog 105 [.lst (l.map encEdge), .clo (.func k) fs cs] (fun r => r = .val (.bool (l.any p))) := by
  refine callV_of_cw [] Ty.mixed Go.Proofs.Tryz.func105 rfl (by kernel_rfl) (by simp [Go.Proofs.Tryz.ntmps105]) ?_; rw [Go.Proofs.Tryz.ntmps105, Go.Proofs.Tryz.results105]
  simp -implicitDefEqProofs only [go_sem, reduceEqDiff, reduceLT, reduceLeDiff, reduceMul, reduceAdd, reduceIte, reduceCtorEq, Nat.reduceBEq, reduceSub, Int.reduceToNat]
  refine call_go (index_edge p l hl k fs cs hp) (by simp -implicitDefEqProofs only [go_sem, reduceEqDiff, reduceLT, reduceLeDiff, reduceMul, reduceAdd, reduceIte, reduceCtorEq, Nat.reduceBEq, reduceSub, Int.reduceToNat] <;> rfl) (scal rfl) ?_
  simp -implicitDefEqProofs only [go_sem, reduceEqDiff, reduceLT, reduceLeDiff, reduceMul, reduceAdd, reduceIte, reduceCtorEq, Nat.reduceBEq, reduceSub, Int.reduceToNat]
  exact idxOf_any
theorem index_int (p : Int → Bool) (l : List Int) (hl : l.length ≤ 1000000) (k : FuncId) (fs cs : List PV) (hp : ∀ x ∈ l, CallV Go.Proofs.Tryz.prog k (fs ++ [pV (encI x)] ++ cs) (fun r => r = .val (.bool (p x)))) :
    CallV Go.Proofs.Tryz.prog 134 [.lst (l.map encI), .clo (.func k) fs cs] (fun r => r = .val (.int .i64 (idxOf p l))) := by
  refine callV_of_cw [] Ty.mixed Go.Proofs.Tryz.func134 rfl (by kernel_rfl) (by simp [Go.Proofs.Tryz.ntmps134]) ?_; rw [Go.Proofs.Tryz.ntmps134, Go.Proofs.Tryz.results134]
  simp -implicitDefEqProofs only [go_sem, reduceEqDiff, reduceLT, reduceLeDiff, reduceMul, reduceAdd, reduceIte, reduceCtorEq, Nat.reduceBEq, reduceSub, Int.reduceToNat]
  refine loop_rule (σ := Nat) (fun x => (upd (upd (upd (upd env0 0 (.p (.lst (l.map encI)))) 1 (.p (.clo (.func k) fs cs))) 7 (.p (.val (.int .i64 l.length)))) 8 (.p (.val (.int .i64 x))))) (fun x => heap0)
    (fun x => x ≤ l.length ∧ ∀ j, j < x → p (l.getD j default) = false) (fun x => l.length - x) 0 ⟨Nat.zero_le _, fun j hj => absurd hj (Nat.not_lt_zero j)⟩ (weak_mk (by repeat (first | exact sub_env0 _ | refine sub_upd ?_ (by first | rfl | simp [upd]))) (by repeat (first | exact hsub0 _ | refine hsub_hset ?_ (by first | rfl | simp [hset]))) (by repeat (first | exact ids_env0 _ | refine ids_upd ?_ (by simp [idsOk, idsOkL, hset]))) (by repeat (first | exact boxIds0 _ | refine boxIds_row ?_ | refine boxIds_shut ?_ | refine boxIds_box ?_ (by simp [idsOk, idsOkL, hset]))) (by repeat (first | exact keep0 _ | refine keep_low (by decide) ?_ | refine keep_high (by simp [hset]) ?_))) ?_
  rintro x ⟨hx, hq⟩
  simp -implicitDefEqProofs only [go_sem, reduceEqDiff, reduceLT, reduceLeDiff, reduceMul, reduceAdd, reduceIte, reduceCtorEq, Nat.reduceBEq, reduceSub, Int.reduceToNat]
  refine condC_split (fun hc => ?_) (fun hc => ?_)
  · have hlt : x < l.length := by simpa using hc
    simp -implicitDefEqProofs only [go_sem, reduceEqDiff, reduceLT, reduceLeDiff, reduceMul, reduceAdd, reduceIte, reduceCtorEq, Nat.reduceBEq, reduceSub, Int.reduceToNat, getD_map encI hlt, hlt, encI]
    refine call_go (hp (l.getD x default) (by simp [hlt])) (by simp -implicitDefEqProofs only [go_sem, reduceEqDiff, reduceLT, reduceLeDiff, reduceMul, reduceAdd, reduceIte, reduceCtorEq, Nat.reduceBEq, reduceSub, Int.reduceToNat, lendL_app, lendL_map, encI, pV, Bool.or_false, Bool.false_or] <;> rfl) (scal rfl) ?_
    simp -implicitDefEqProofs only [go_sem, reduceEqDiff, reduceLT, reduceLeDiff, reduceMul, reduceAdd, reduceIte, reduceCtorEq, Nat.reduceBEq, reduceSub, Int.reduceToNat]
    refine condC_split (fun hb => ?_) (fun hb => ?_) <;> simp -implicitDefEqProofs only [go_sem, reduceEqDiff, reduceLT, reduceLeDiff, reduceMul, reduceAdd, reduceIte, reduceCtorEq, Nat.reduceBEq, reduceSub, Int.reduceToNat]
    · exact (idxOf_at hlt hq hb).symm
    · refine loopN_mk (x + 1) ⟨hlt, fun j hj => ?_⟩ (by omega) ?_
      · rcases Nat.lt_succ_iff_lt_or_eq.1 hj with h | h
        · exact hq j h
        · rw [h]; exact hb
      · rw [wrap_succ hlt (by omega)]
        exact (weak_mk (by repeat (first | exact sub_env0 _ | refine sub_upd ?_ (by first | rfl | simp [upd]))) (by repeat (first | exact hsub0 _ | refine hsub_hset ?_ (by first | rfl | simp [hset]))) (by repeat (first | exact ids_env0 _ | refine ids_upd ?_ (by simp [idsOk, idsOkL, hset]))) (by repeat (first | exact boxIds0 _ | refine boxIds_row ?_ | refine boxIds_shut ?_ | refine boxIds_box ?_ (by simp [idsOk, idsOkL, hset]))) (by repeat (first | exact keep0 _ | refine keep_low (by decide) ?_ | refine keep_high (by simp [hset]) ?_)))
  · have hge : l.length ≤ x := by simpa using hc
    simp -implicitDefEqProofs only [go_sem, reduceEqDiff, reduceLT, reduceLeDiff, reduceMul, reduceAdd, reduceIte, reduceCtorEq, Nat.reduceBEq, reduceSub, Int.reduceToNat, hc]
    rw [idxOf_none fun j hj => hq j (by omega)]
theorem contains_int (p : Int → Bool) (l : List Int) (hl : l.length ≤ 1000000) (k : FuncId) (fs cs : List PV) (hp : ∀ x ∈ l, CallV Go.Proofs.Tryz.prog k (fs ++ [pV (encI x)] ++ cs) (fun r => r = .val (.bool (p x)))) :
    CallV Go.Proofs.Tryz.prog 102 [.lst (l.map encI), .clo (.func k) fs cs] (fun r => r = .val (.bool (l.any p))) := by
  refine callV_of_cw [] Ty.mixed Go.Proofs.Tryz.func102 rfl (by kernel_rfl) (by simp [Go.Proofs.Tryz.ntmps102]) ?_; rw [Go.Proofs.Tryz.ntmps102, Go.Proofs.Tryz.results102]
  simp -implicitDefEqProofs only [go_sem, reduceEqDiff, reduceLT, reduceLeDiff, reduceMul, reduceAdd, reduceIte, reduceCtorEq, Nat.reduceBEq, reduceSub, Int.reduceToNat]
  refine call_go (index_int p l hl k fs cs hp) (by simp -implicitDefEqProofs only [go_sem, reduceEqDiff, reduceLT, reduceLeDiff, reduceMul, reduceAdd, reduceIte, reduceCtorEq, Nat.reduceBEq, reduceSub, Int.reduceToNat] <;> rfl) (scal rfl) ?_
  simp -implicitDefEqProofs only [go_sem, reduceEqDiff, reduceLT, reduceLeDiff, reduceMul, reduceAdd, reduceIte, reduceCtorEq, Nat.reduceBEq, reduceSub, Int.reduceToNat]
  exact idxOf_any
end Go.Proofs.YtdlohnchnneaeaaGreat
/- slices.Index, Contains. -/
namespace Go.Proofs.YtdlohnchnneaeaaGreat
open Go.Abs

theorem ix_int (l : List Int) (y : Int) (hl : l.length ≤ 1000000) :
    CallV Go.Proofs.Tryz.prog 154 [.lst (l.map encI), .val (.int .i64 y)] (fun r => r = .val (.int .i64 (idxOf (fun x => decide (y = x)) l))) := by
  refine callV_of_cw [] Ty.mixed Go.Proofs.Tryz.func154 rfl (by kernel_rfl) (by simp [Go.Proofs.Tryz.ntmps154]) ?_; rw [Go.Proofs.Tryz.ntmps154, Go.Proofs.Tryz.results154]
  simp -implicitDefEqProofs only [go_sem, reduceEqDiff, reduceLT, reduceLeDiff, reduceMul, reduceAdd, reduceIte, reduceCtorEq, Nat.reduceBEq, reduceSub, Int.reduceToNat]
  refine loop_rule (σ := Nat) (fun x => (upd (upd (upd (upd env0 0 (.p (.lst (l.map encI)))) 1 (.p (.val (.int .i64 y)))) 7 (.p (.val (.int .i64 l.length)))) 8 (.p (.val (.int .i64 x))))) (fun x => heap0)
    (fun x => x ≤ l.length ∧ ∀ j, j < x → decide (y = l.getD j default) = false) (fun x => l.length - x) 0 ⟨Nat.zero_le _, fun j hj => absurd hj (Nat.not_lt_zero j)⟩ (weak_mk (by repeat (first | exact sub_env0 _ | refine sub_upd ?_ (by first | rfl | simp [upd]))) (by repeat (first | exact hsub0 _ | refine hsub_hset ?_ (by first | rfl | simp [hset]))) (by repeat (first | exact ids_env0 _ | refine ids_upd ?_ (by simp [idsOk, idsOkL, hset]))) (by repeat (first | exact boxIds0 _ | refine boxIds_row ?_ | refine boxIds_shut ?_ | refine boxIds_box ?_ (by simp [idsOk, idsOkL, hset]))) (by repeat (first | exact keep0 _ | refine keep_low (by decide) ?_ | refine keep_high (by simp [hset]) ?_))) ?_
  rintro x ⟨hx, hq⟩
  simp -implicitDefEqProofs only [go_sem, reduceEqDiff, reduceLT, reduceLeDiff, reduceMul, reduceAdd, reduceIte, reduceCtorEq, Nat.reduceBEq, reduceSub, Int.reduceToNat]
  refine condC_split (fun hc => ?_) (fun hc => ?_)
  · have hlt : x < l.length := by simpa using hc
    simp -implicitDefEqProofs only [go_sem, reduceEqDiff, reduceLT, reduceLeDiff, reduceMul, reduceAdd, reduceIte, reduceCtorEq, Nat.reduceBEq, reduceSub, Int.reduceToNat, getD_map encI hlt, hlt, encI]
    refine condC_split (fun hb => ?_) (fun hb => ?_) <;> simp -implicitDefEqProofs only [go_sem, reduceEqDiff, reduceLT, reduceLeDiff, reduceMul, reduceAdd, reduceIte, reduceCtorEq, Nat.reduceBEq, reduceSub, Int.reduceToNat]
    · exact (idxOf_at (p := fun x => decide (y = x)) hlt hq hb).symm
    · refine loopN_mk (x + 1) ⟨hlt, fun j hj => ?_⟩ (by omega) ?_
      · rcases Nat.lt_succ_iff_lt_or_eq.1 hj with h | h
        · exact hq j h
        · rw [h]; exact hb
      · rw [wrap_succ hlt (by omega)]
        exact (weak_mk (by repeat (first | exact sub_env0 _ | refine sub_upd ?_ (by first | rfl | simp [upd]))) (by repeat (first | exact hsub0 _ | refine hsub_hset ?_ (by first | rfl | simp [hset]))) (by repeat (first | exact ids_env0 _ | refine ids_upd ?_ (by simp [idsOk, idsOkL, hset]))) (by repeat (first | exact boxIds0 _ | refine boxIds_row ?_ | refine boxIds_shut ?_ | refine boxIds_box ?_ (by simp [idsOk, idsOkL, hset]))) (by repeat (first | exact keep0 _ | refine keep_low (by decide) ?_ | refine keep_high (by simp [hset]) ?_)))
  · have hge : l.length ≤ x := by simpa using hc
    simp -implicitDefEqProofs only [go_sem, reduceEqDiff, reduceLT, reduceLeDiff, reduceMul, reduceAdd, reduceIte, reduceCtorEq, Nat.reduceBEq, reduceSub, Int.reduceToNat, hc]
    rw [idxOf_none fun j hj => hq j (by omega)]
theorem has_int (l : List Int) (y : Int) (hl : l.length ≤ 1000000) :
    CallV Go.Proofs.Tryz.prog 138 [.lst (l.map encI), .val (.int .i64 y)] (fun r => r = .val (.bool (l.any fun x => decide (y = x)))) := by
  refine callV_of_cw [] Ty.mixed Go.Proofs.Tryz.func138 rfl (by kernel_rfl) (by simp [Go.Proofs.Tryz.ntmps138]) ?_; rw [Go.Proofs.Tryz.ntmps138, Go.Proofs.Tryz.results138]
  simp -implicitDefEqProofs only [go_sem, reduceEqDiff, reduceLT, reduceLeDiff, reduceMul, reduceAdd, reduceIte, reduceCtorEq, Nat.reduceBEq, reduceSub, Int.reduceToNat]
  refine call_go (ix_int l y hl) (by simp -implicitDefEqProofs only [go_sem, reduceEqDiff, reduceLT, reduceLeDiff, reduceMul, reduceAdd, reduceIte, reduceCtorEq, Nat.reduceBEq, reduceSub, Int.reduceToNat] <;> rfl) (scal rfl) ?_
  simp -implicitDefEqProofs only [go_sem, reduceEqDiff, reduceLT, reduceLeDiff, reduceMul, reduceAdd, reduceIte, reduceCtorEq, Nat.reduceBEq, reduceSub, Int.reduceToNat]
  exact idxOf_any
theorem ix_str (l : List ByteArray) (y : ByteArray) (hl : l.length ≤ 1000000) :
    CallV Go.Proofs.Tryz.prog 168 [.lst (l.map encS), .val (.string y)] (fun r => r = .val (.int .i64 (idxOf (fun x => decide (y = x)) l))) := by
  refine callV_of_cw [] Ty.mixed Go.Proofs.Tryz.func168 rfl (by kernel_rfl) (by simp [Go.Proofs.Tryz.ntmps168]) ?_; rw [Go.Proofs.Tryz.ntmps168, Go.Proofs.Tryz.results168]
  simp -implicitDefEqProofs only [go_sem, reduceEqDiff, reduceLT, reduceLeDiff, reduceMul, reduceAdd, reduceIte, reduceCtorEq, Nat.reduceBEq, reduceSub, Int.reduceToNat]
  refine loop_rule (σ := Nat) (fun x => (upd (upd (upd (upd env0 0 (.p (.lst (l.map encS)))) 1 (.p (.val (.string y)))) 7 (.p (.val (.int .i64 l.length)))) 8 (.p (.val (.int .i64 x))))) (fun x => heap0)
    (fun x => x ≤ l.length ∧ ∀ j, j < x → decide (y = l.getD j default) = false) (fun x => l.length - x) 0 ⟨Nat.zero_le _, fun j hj => absurd hj (Nat.not_lt_zero j)⟩ (weak_mk (by repeat (first | exact sub_env0 _ | refine sub_upd ?_ (by first | rfl | simp [upd]))) (by repeat (first | exact hsub0 _ | refine hsub_hset ?_ (by first | rfl | simp [hset]))) (by repeat (first | exact ids_env0 _ | refine ids_upd ?_ (by simp [idsOk, idsOkL, hset]))) (by repeat (first | exact boxIds0 _ | refine boxIds_row ?_ | refine boxIds_shut ?_ | refine boxIds_box ?_ (by simp [idsOk, idsOkL, hset]))) (by repeat (first | exact keep0 _ | refine keep_low (by decide) ?_ | refine keep_high (by simp [hset]) ?_))) ?_
  rintro x ⟨hx, hq⟩
  simp -implicitDefEqProofs only [go_sem, reduceEqDiff, reduceLT, reduceLeDiff, reduceMul, reduceAdd, reduceIte, reduceCtorEq, Nat.reduceBEq, reduceSub, Int.reduceToNat]
  refine condC_split (fun hc => ?_) (fun hc => ?_)
  · have hlt : x < l.length := by simpa using hc
    simp -implicitDefEqProofs only [go_sem, reduceEqDiff, reduceLT, reduceLeDiff, reduceMul, reduceAdd, reduceIte, reduceCtorEq, Nat.reduceBEq, reduceSub, Int.reduceToNat, getD_map encS hlt, hlt, encS]
    refine condC_split (fun hb => ?_) (fun hb => ?_) <;> simp -implicitDefEqProofs only [go_sem, reduceEqDiff, reduceLT, reduceLeDiff, reduceMul, reduceAdd, reduceIte, reduceCtorEq, Nat.reduceBEq, reduceSub, Int.reduceToNat]
    · exact (idxOf_at (p := fun x => decide (y = x)) hlt hq hb).symm
    · refine loopN_mk (x + 1) ⟨hlt, fun j hj => ?_⟩ (by omega) ?_
      · rcases Nat.lt_succ_iff_lt_or_eq.1 hj with h | h
        · exact hq j h
        · rw [h]; exact hb
      · rw [wrap_succ hlt (by omega)]
        exact (weak_mk (by repeat (first | exact sub_env0 _ | refine sub_upd ?_ (by first | rfl | simp [upd]))) (by repeat (first | exact hsub0 _ | refine hsub_hset ?_ (by first | rfl | simp [hset]))) (by repeat (first | exact ids_env0 _ | refine ids_upd ?_ (by simp [idsOk, idsOkL, hset]))) (by repeat (first | exact boxIds0 _ | refine boxIds_row ?_ | refine boxIds_shut ?_ | refine boxIds_box ?_ (by simp [idsOk, idsOkL, hset]))) (by repeat (first | exact keep0 _ | refine keep_low (by decide) ?_ | refine keep_high (by simp [hset]) ?_)))
  · have hge : l.length ≤ x := by simpa using hc
    simp -implicitDefEqProofs only [go_sem, reduceEqDiff, reduceLT, reduceLeDiff, reduceMul, reduceAdd, reduceIte, reduceCtorEq, Nat.reduceBEq, reduceSub, Int.reduceToNat, hc]
    rw [idxOf_none fun j hj => hq j (by omega)]
theorem has_str (l : List ByteArray) (y : ByteArray) (hl : l.length ≤ 1000000) :
    CallV Go.Proofs.Tryz.prog 158 [.lst (l.map encS), .val (.string y)] (fun r => r = .val (.bool (l.any fun x => decide (y = x)))) := by
  refine callV_of_cw [] Ty.mixed Go.Proofs.Tryz.func158 rfl (by kernel_rfl) (by simp [Go.Proofs.Tryz.ntmps158]) ?_; rw [Go.Proofs.Tryz.ntmps158, Go.Proofs.Tryz.results158]
  simp -implicitDefEqProofs only [go_sem, reduceEqDiff, reduceLT, reduceLeDiff, reduceMul, reduceAdd, reduceIte, reduceCtorEq, Nat.reduceBEq, reduceSub, Int.reduceToNat]
  refine call_go (ix_str l y hl) (by simp -implicitDefEqProofs only [go_sem, reduceEqDiff, reduceLT, reduceLeDiff, reduceMul, reduceAdd, reduceIte, reduceCtorEq, Nat.reduceBEq, reduceSub, Int.reduceToNat] <;> rfl) (scal rfl) ?_
  simp -implicitDefEqProofs only [go_sem, reduceEqDiff, reduceLT, reduceLeDiff, reduceMul, reduceAdd, reduceIte, reduceCtorEq, Nat.reduceBEq, reduceSub, Int.reduceToNat]
  exact idxOf_any
end Go.Proofs.YtdlohnchnneaeaaGreat
/- Package token, as far as names go. -/
namespace Go.Proofs.YtdlohnchnneaeaaGreat
open Go.Abs

theorem digit_ok (n : Int) : CallV Go.Proofs.Tryz.prog 164 [.val (.int .u8 n)] (fun r => r = .val (.bool (digitB n))) := by
  unfold digitB
  refine callV_of_cw [] Ty.mixed Go.Proofs.Tryz.func164 rfl (by kernel_rfl) (by simp [Go.Proofs.Tryz.ntmps164]) ?_; rw [Go.Proofs.Tryz.ntmps164, Go.Proofs.Tryz.results164]
  simp -implicitDefEqProofs only [go_sem, reduceEqDiff, reduceLT, reduceLeDiff, reduceMul, reduceAdd, reduceIte, reduceCtorEq, Nat.reduceBEq, reduceSub, Int.reduceToNat]
  repeat' first | done | (refine walkG_splitN (fun h => ?_) (fun h => ?_) <;> try simp -implicitDefEqProofs only [go_sem, reduceEqDiff, reduceLT, reduceLeDiff, reduceMul, reduceAdd, reduceIte, reduceCtorEq, Nat.reduceBEq, reduceSub, Int.reduceToNat, h]) | (refine walkG_split (fun h => ?_) (fun h => ?_) <;> try simp -implicitDefEqProofs only [go_sem, reduceEqDiff, reduceLT, reduceLeDiff, reduceMul, reduceAdd, reduceIte, reduceCtorEq, Nat.reduceBEq, reduceSub, Int.reduceToNat, h]) | (refine condC_splitN (fun h => ?_) (fun h => ?_) <;> try simp -implicitDefEqProofs only [go_sem, reduceEqDiff, reduceLT, reduceLeDiff, reduceMul, reduceAdd, reduceIte, reduceCtorEq, Nat.reduceBEq, reduceSub, Int.reduceToNat, h]) | (refine condC_split (fun h => ?_) (fun h => ?_) <;> try simp -implicitDefEqProofs only [go_sem, reduceEqDiff, reduceLT, reduceLeDiff, reduceMul, reduceAdd, reduceIte, reduceCtorEq, Nat.reduceBEq, reduceSub, Int.reduceToNat, h])
theorem part_ok (n : Int) : CallV Go.Proofs.Tryz.prog 163 [.val (.int .u8 n)] (fun r => r = .val (.bool (partB n))) := by
  unfold partB
  refine callV_of_cw [] Ty.mixed Go.Proofs.Tryz.func163 rfl (by kernel_rfl) (by simp [Go.Proofs.Tryz.ntmps163]) ?_; rw [Go.Proofs.Tryz.ntmps163, Go.Proofs.Tryz.results163]
  simp -implicitDefEqProofs only [go_sem, reduceEqDiff, reduceLT, reduceLeDiff, reduceMul, reduceAdd, reduceIte, reduceCtorEq, Nat.reduceBEq, reduceSub, Int.reduceToNat]
  refine call_go (letter_ok n) (by simp -implicitDefEqProofs only [go_sem, reduceEqDiff, reduceLT, reduceLeDiff, reduceMul, reduceAdd, reduceIte, reduceCtorEq, Nat.reduceBEq, reduceSub, Int.reduceToNat] <;> rfl) (scal rfl) ?_
  simp -implicitDefEqProofs only [go_sem, reduceEqDiff, reduceLT, reduceLeDiff, reduceMul, reduceAdd, reduceIte, reduceCtorEq, Nat.reduceBEq, reduceSub, Int.reduceToNat]
  refine walkG_splitN (fun h => ?_) (fun h => ?_) <;> simp -implicitDefEqProofs only [go_sem, reduceEqDiff, reduceLT, reduceLeDiff, reduceMul, reduceAdd, reduceIte, reduceCtorEq, Nat.reduceBEq, reduceSub, Int.reduceToNat, h]
  refine call_go (digit_ok n) (by simp -implicitDefEqProofs only [go_sem, reduceEqDiff, reduceLT, reduceLeDiff, reduceMul, reduceAdd, reduceIte, reduceCtorEq, Nat.reduceBEq, reduceSub, Int.reduceToNat] <;> rfl) (scal rfl) ?_
  simp -implicitDefEqProofs only [go_sem, reduceEqDiff, reduceLT, reduceLeDiff, reduceMul, reduceAdd, reduceIte, reduceCtorEq, Nat.reduceBEq, reduceSub, Int.reduceToNat]
  refine walkG_splitN (fun h => ?_) (fun h => ?_) <;> simp -implicitDefEqProofs only [go_sem, reduceEqDiff, reduceLT, reduceLeDiff, reduceMul, reduceAdd, reduceIte, reduceCtorEq, Nat.reduceBEq, reduceSub, Int.reduceToNat, h]
def quotB (n : Int) : Bool := (decide (32 ≤ n) && decide (n ≤ 126)) && !decide (n = 34)
theorem quot1_ok (n : Int) : CallV Go.Proofs.Tryz.prog 174 [.val (.int .u8 n)] (fun r => r = .val (.bool (quotB n))) := by
  unfold quotB
  refine callV_of_cw [] Ty.mixed Go.Proofs.Tryz.func174 rfl (by kernel_rfl) (by simp [Go.Proofs.Tryz.ntmps174]) ?_; rw [Go.Proofs.Tryz.ntmps174, Go.Proofs.Tryz.results174]
  simp -implicitDefEqProofs only [go_sem, reduceEqDiff, reduceLT, reduceLeDiff, reduceMul, reduceAdd, reduceIte, reduceCtorEq, Nat.reduceBEq, reduceSub, Int.reduceToNat]
  repeat' first | done | (refine walkG_splitN (fun h => ?_) (fun h => ?_) <;> try simp -implicitDefEqProofs only [go_sem, reduceEqDiff, reduceLT, reduceLeDiff, reduceMul, reduceAdd, reduceIte, reduceCtorEq, Nat.reduceBEq, reduceSub, Int.reduceToNat, h]) | (refine walkG_split (fun h => ?_) (fun h => ?_) <;> try simp -implicitDefEqProofs only [go_sem, reduceEqDiff, reduceLT, reduceLeDiff, reduceMul, reduceAdd, reduceIte, reduceCtorEq, Nat.reduceBEq, reduceSub, Int.reduceToNat, h]) | (refine condC_splitN (fun h => ?_) (fun h => ?_) <;> try simp -implicitDefEqProofs only [go_sem, reduceEqDiff, reduceLT, reduceLeDiff, reduceMul, reduceAdd, reduceIte, reduceCtorEq, Nat.reduceBEq, reduceSub, Int.reduceToNat, h]) | (refine condC_split (fun h => ?_) (fun h => ?_) <;> try simp -implicitDefEqProofs only [go_sem, reduceEqDiff, reduceLT, reduceLeDiff, reduceMul, reduceAdd, reduceIte, reduceCtorEq, Nat.reduceBEq, reduceSub, Int.reduceToNat, h])

def runF (p : Int → Bool) (s : ByteArray) (a : Nat) : Nat := ((List.range (s.size - a)).takeWhile fun j => p (sbyte s (a + j))).length
theorem takeWhile_range (q : Nat → Bool) : ∀ (m n : Nat), n ≤ m → (∀ j, j < n → q j = true) → (n = m ∨ q n = false) → ((List.range m).takeWhile q).length = n := by
  intro m n hn h1 h2
  have e : List.range m = List.range n ++ (List.range (m - n)).map (n + ·) := by
    rw [← List.range_add]; congr 1; omega
  rw [e, List.takeWhile_append_of_pos (by intro j hj; exact h1 j (List.mem_range.1 hj))]
  rcases h2 with rfl | h2
  · simp
  · cases hm : m - n with
    | zero => simp
    | succ r => simp [List.range_succ_eq_map, h2]
theorem runF_eq {p : Int → Bool} {s : ByteArray} {a n : Nat} (hn : a + n ≤ s.size) (h1 : ∀ j, j < n → p (sbyte s (a + j)) = true) (h2 : a + n = s.size ∨ p (sbyte s (a + n)) = false) : runF p s a = n :=
  takeWhile_range _ _ _ (by omega) h1 (by rcases h2 with h | h; exact .inl (by omega); exact .inr h)
theorem runF_le (p : Int → Bool) (s : ByteArray) (a : Nat) : runF p s a ≤ s.size - a := by
  unfold runF
  exact Nat.le_trans (List.takeWhile_sublist _).length_le (by simp)

theorem run_ok (p : Int → Bool) (s : ByteArray) (hl : s.size ≤ 1000000) (k : FuncId) (fs cs : List PV) (hp : ∀ n, CallV Go.Proofs.Tryz.prog k (fs ++ [.val (.int .u8 n)] ++ cs) (fun r => r = .val (.bool (p n)))) :
    CallV Go.Proofs.Tryz.prog 162 [.val (.string s), .clo (.func k) fs cs] (fun r => r = .val (.int .i64 (runF p s 0))) := by
  refine callV_of_cw [] Ty.mixed Go.Proofs.Tryz.func162 rfl (by kernel_rfl) (by simp [Go.Proofs.Tryz.ntmps162]) ?_; rw [Go.Proofs.Tryz.ntmps162, Go.Proofs.Tryz.results162]
  simp -implicitDefEqProofs only [go_sem, reduceEqDiff, reduceLT, reduceLeDiff, reduceMul, reduceAdd, reduceIte, reduceCtorEq, Nat.reduceBEq, reduceSub, Int.reduceToNat]
  refine loop_rule (σ := Nat) (fun x => (upd (upd (upd env0 0 (.p (.val (.string s)))) 1 (.p (.clo (.func k) fs cs))) 5 (.p (.val (.int .i64 x))))) (fun x => heap0)
    (fun x => x ≤ s.size ∧ ∀ j, j < x → p (sbyte s (0 + j)) = true) (fun x => s.size - x) 0 ⟨Nat.zero_le _, fun j hj => absurd hj (Nat.not_lt_zero j)⟩ (weak_mk (by repeat (first | exact sub_env0 _ | refine sub_upd ?_ (by first | rfl | simp [upd]))) (by repeat (first | exact hsub0 _ | refine hsub_hset ?_ (by first | rfl | simp [hset]))) (by repeat (first | exact ids_env0 _ | refine ids_upd ?_ (by simp [idsOk, idsOkL, hset]))) (by repeat (first | exact boxIds0 _ | refine boxIds_row ?_ | refine boxIds_shut ?_ | refine boxIds_box ?_ (by simp [idsOk, idsOkL, hset]))) (by repeat (first | exact keep0 _ | refine keep_low (by decide) ?_ | refine keep_high (by simp [hset]) ?_))) ?_
  rintro x ⟨hx, hq⟩
  simp -implicitDefEqProofs only [go_sem, reduceEqDiff, reduceLT, reduceLeDiff, reduceMul, reduceAdd, reduceIte, reduceCtorEq, Nat.reduceBEq, reduceSub, Int.reduceToNat]
  refine walkG_split (fun hc => ?_) (fun hc => ?_)
  · have hlt : x < s.size := by simpa using hc
    simp -implicitDefEqProofs only [go_sem, reduceEqDiff, reduceLT, reduceLeDiff, reduceMul, reduceAdd, reduceIte, reduceCtorEq, Nat.reduceBEq, reduceSub, Int.reduceToNat, hlt, hc]
    refine call_go (hp (sbyte s x)) (by simp -implicitDefEqProofs only [go_sem, reduceEqDiff, reduceLT, reduceLeDiff, reduceMul, reduceAdd, reduceIte, reduceCtorEq, Nat.reduceBEq, reduceSub, Int.reduceToNat, lendL_app, lendL_map, Bool.or_false, Bool.false_or] <;> rfl) (scal rfl) ?_
    simp -implicitDefEqProofs only [go_sem, reduceEqDiff, reduceLT, reduceLeDiff, reduceMul, reduceAdd, reduceIte, reduceCtorEq, Nat.reduceBEq, reduceSub, Int.reduceToNat, hc]
    refine condC_split (fun hb => ?_) (fun hb => ?_) <;> simp -implicitDefEqProofs only [go_sem, reduceEqDiff, reduceLT, reduceLeDiff, reduceMul, reduceAdd, reduceIte, reduceCtorEq, Nat.reduceBEq, reduceSub, Int.reduceToNat]
    · refine loopN_mk (x + 1) ⟨hlt, fun j hj => ?_⟩ (by omega) ?_
      · rcases Nat.lt_succ_iff_lt_or_eq.1 hj with h | h
        · simpa using hq j h
        · rw [h]; exact hb
      · rw [wrap_succ hlt (by omega)]
        exact (weak_mk (by repeat (first | exact sub_env0 _ | refine sub_upd ?_ (by first | rfl | simp [upd]))) (by repeat (first | exact hsub0 _ | refine hsub_hset ?_ (by first | rfl | simp [hset]))) (by repeat (first | exact ids_env0 _ | refine ids_upd ?_ (by simp [idsOk, idsOkL, hset]))) (by repeat (first | exact boxIds0 _ | refine boxIds_row ?_ | refine boxIds_shut ?_ | refine boxIds_box ?_ (by simp [idsOk, idsOkL, hset]))) (by repeat (first | exact keep0 _ | refine keep_low (by decide) ?_ | refine keep_high (by simp [hset]) ?_)))
    · rw [runF_eq (by omega) hq (.inr (by rw [Nat.zero_add]; exact hb))]
  · have hge : s.size ≤ x := by simpa using hc
    simp -implicitDefEqProofs only [go_sem, reduceEqDiff, reduceLT, reduceLeDiff, reduceMul, reduceAdd, reduceIte, reduceCtorEq, Nat.reduceBEq, reduceSub, Int.reduceToNat, hc]
    rw [runF_eq (by omega) hq (.inl (by omega))]

theorem quoted_ok (s : ByteArray) (hl : s.size ≤ 1000000) (h0 : 0 < s.size) : CallV Go.Proofs.Tryz.prog 165 [.val (.string s)] (fun r => ∃ n e : Int, r = .tup [.val (.int .i64 n), .val (.int .i64 e)]) := by
  have h1 : ((s.extract 1 s.size).size : Int) = s.size - 1 := by simp; omega
  have h2 := runF_le quotB (s.extract 1 s.size) 0
  generalize hm : runF quotB (s.extract 1 s.size) 0 = m at h2
  have h3 : IntKind.i64.wrap (1 + (m : Int)) = ((m + 1 : Nat) : Int) := by rw [IntWalk.i64_in _ (by omega)]; omega
  refine callV_of_cw [] Ty.mixed Go.Proofs.Tryz.func165 rfl (by kernel_rfl) (by simp [Go.Proofs.Tryz.ntmps165]) ?_; rw [Go.Proofs.Tryz.ntmps165, Go.Proofs.Tryz.results165]
  simp -implicitDefEqProofs only [go_sem, reduceEqDiff, reduceLT, reduceLeDiff, reduceMul, reduceAdd, reduceIte, reduceCtorEq, Nat.reduceBEq, reduceSub, Int.reduceToNat]
  refine ⟨⟨by omega, by omega, by omega⟩, ?_⟩
  refine call_go (run_ok quotB (s.extract 1 s.size) (by simp; omega) _ [] [] quot1_ok) (by simp -implicitDefEqProofs only [go_sem, reduceEqDiff, reduceLT, reduceLeDiff, reduceMul, reduceAdd, reduceIte, reduceCtorEq, Nat.reduceBEq, reduceSub, Int.reduceToNat] <;> rfl) (scal rfl) ?_
  simp -implicitDefEqProofs only [go_sem, reduceEqDiff, reduceLT, reduceLeDiff, reduceMul, reduceAdd, reduceIte, reduceCtorEq, Nat.reduceBEq, reduceSub, Int.reduceToNat, hm, h3]
  refine walkG_splitN (fun h => ?_) (fun h => ?_)
  · simp -implicitDefEqProofs only [go_sem, reduceEqDiff, reduceLT, reduceLeDiff, reduceMul, reduceAdd, reduceIte, reduceCtorEq, Nat.reduceBEq, reduceSub, Int.reduceToNat, h]
    exact ⟨_, _, rfl, rfl⟩
  · have hne : m + 1 ≠ s.size := by intro e; rw [e] at h; simp at h
    have hlt : m + 1 < s.size := by simp at h2; omega
    simp -implicitDefEqProofs only [go_sem, reduceEqDiff, reduceLT, reduceLeDiff, reduceMul, reduceAdd, reduceIte, reduceCtorEq, Nat.reduceBEq, reduceSub, Int.reduceToNat, h, h3, hlt]
    refine condC_split (fun hb => ?_) (fun hb => ?_) <;> simp -implicitDefEqProofs only [go_sem, reduceEqDiff, reduceLT, reduceLeDiff, reduceMul, reduceAdd, reduceIte, reduceCtorEq, Nat.reduceBEq, reduceSub, Int.reduceToNat]
    · exact ⟨_, _, rfl, rfl⟩
    · refine condC_split (fun hb => ?_) (fun hb => ?_) <;> simp -implicitDefEqProofs only [go_sem, reduceEqDiff, reduceLT, reduceLeDiff, reduceMul, reduceAdd, reduceIte, reduceCtorEq, Nat.reduceBEq, reduceSub, Int.reduceToNat]
      · exact ⟨_, _, rfl, rfl⟩
      · exact ⟨_, _, rfl, rfl⟩

def pairL : List ByteArray := [⟨#[45, 62]⟩, ⟨#[60, 61]⟩, ⟨#[62, 61]⟩, ⟨#[61, 61]⟩, ⟨#[33, 61]⟩]
theorem pair_ok (s : ByteArray) : CallV Go.Proofs.Tryz.prog 166 [.val (.string s)] (fun r => ∃ b : Bool, r = .val (.bool b)) := by
  refine callV_of_cw [] Ty.mixed Go.Proofs.Tryz.func166 rfl (by kernel_rfl) (by simp [Go.Proofs.Tryz.ntmps166]) ?_; rw [Go.Proofs.Tryz.ntmps166, Go.Proofs.Tryz.results166]
  simp -implicitDefEqProofs only [go_sem, reduceEqDiff, reduceLT, reduceLeDiff, reduceMul, reduceAdd, reduceIte, reduceCtorEq, Nat.reduceBEq, reduceSub, Int.reduceToNat]
  refine walkG_split (fun h => ?_) (fun h => ?_)
  · have h2 : (2 : Int) ≤ s.size := of_decide_eq_true h
    simp -implicitDefEqProofs only [go_sem, reduceEqDiff, reduceLT, reduceLeDiff, reduceMul, reduceAdd, reduceIte, reduceCtorEq, Nat.reduceBEq, reduceSub, Int.reduceToNat, h]
    refine ⟨⟨by decide, by decide, h2⟩, ?_⟩
    refine call_go (has_str pairL (s.extract 0 2) (by decide)) (by simp -implicitDefEqProofs only [go_sem, reduceEqDiff, reduceLT, reduceLeDiff, reduceMul, reduceAdd, reduceIte, reduceCtorEq, Nat.reduceBEq, reduceSub, Int.reduceToNat] <;> rfl) (scal rfl) ?_
    simp -implicitDefEqProofs only [go_sem, reduceEqDiff, reduceLT, reduceLeDiff, reduceMul, reduceAdd, reduceIte, reduceCtorEq, Nat.reduceBEq, reduceSub, Int.reduceToNat, h]
    all_goals exact ⟨_, rfl⟩
  · simp -implicitDefEqProofs only [go_sem, reduceEqDiff, reduceLT, reduceLeDiff, reduceMul, reduceAdd, reduceIte, reduceCtorEq, Nat.reduceBEq, reduceSub, Int.reduceToNat, h]
    all_goals exact ⟨_, rfl⟩
theorem ixb_ext (s : ByteArray) (n : Int) : ExtV Go.Proofs.Tryz.prog 176 [.val (.string s), .val (.int .u8 n)] (.val (.int .i64 (Lib.indexByte s.data.toList n.toNat.toUInt8))) := by
  intro I w us hu
  obtain ⟨hl, hv⟩ := hu
  match us, hl, hv with
  | [a, b], _, hv =>
    have ha := hv 0 a _ rfl rfl
    have hb := hv 1 b _ rfl rfl
    cases ha
    cases hb
    refine ⟨_, ?_, .val _ rfl⟩
    rw [run_callFunc_extern Go.Proofs.Tryz.func176 (by kernel_rfl) (by kernel_rfl) (by kernel_rfl) (e := Extern.BytealgIndexByte.indexByte) (by kernel_rfl)]
    rw [Lib.run_indexByteString]
    try rfl
theorem ixb1_ok (s : ByteArray) (n : Int) : CallV Go.Proofs.Tryz.prog 175 [.val (.string s), .val (.int .u8 n)] (fun r => ∃ m : Int, r = .val (.int .i64 m)) := by
  refine callV_of_cw [] Ty.mixed Go.Proofs.Tryz.func175 rfl (by kernel_rfl) (by simp [Go.Proofs.Tryz.ntmps175]) ?_; rw [Go.Proofs.Tryz.ntmps175, Go.Proofs.Tryz.results175]
  simp -implicitDefEqProofs only [go_sem, reduceEqDiff, reduceLT, reduceLeDiff, reduceMul, reduceAdd, reduceIte, reduceCtorEq, Nat.reduceBEq, reduceSub, Int.reduceToNat]
  refine call_ext (ixb_ext s n) rfl ?_
  simp -implicitDefEqProofs only [go_sem, reduceEqDiff, reduceLT, reduceLeDiff, reduceMul, reduceAdd, reduceIte, reduceCtorEq, Nat.reduceBEq, reduceSub, Int.reduceToNat]
  all_goals exact ⟨_, rfl⟩
theorem ixb2_ok (s : ByteArray) (n : Int) : CallV Go.Proofs.Tryz.prog 167 [.val (.string s), .val (.int .u8 n)] (fun r => ∃ m : Int, r = .val (.int .i64 m)) := by
  refine callV_of_cw [] Ty.mixed Go.Proofs.Tryz.func167 rfl (by kernel_rfl) (by simp [Go.Proofs.Tryz.ntmps167]) ?_; rw [Go.Proofs.Tryz.ntmps167, Go.Proofs.Tryz.results167]
  simp -implicitDefEqProofs only [go_sem, reduceEqDiff, reduceLT, reduceLeDiff, reduceMul, reduceAdd, reduceIte, reduceCtorEq, Nat.reduceBEq, reduceSub, Int.reduceToNat]
  refine call_rel (ixb1_ok s n) (by simp -implicitDefEqProofs only [go_sem, reduceEqDiff, reduceLT, reduceLeDiff, reduceMul, reduceAdd, reduceIte, reduceCtorEq, Nat.reduceBEq, reduceSub, Int.reduceToNat] <;> rfl) ?_
  rintro r ⟨m, rfl⟩
  refine ⟨scal rfl, ?_⟩
  simp -implicitDefEqProofs only [go_sem, reduceEqDiff, reduceLT, reduceLeDiff, reduceMul, reduceAdd, reduceIte, reduceCtorEq, Nat.reduceBEq, reduceSub, Int.reduceToNat]
  all_goals exact ⟨_, rfl⟩

def nameB (s : ByteArray) : Bool := decide (s.size ≠ 0) && letterB (sbyte s 0) && decide (runF partB s 0 = s.size) && decide (s.size ≤ 20)

theorem nameB_iff (s : ByteArray) : nameB s = true ↔ s.size ≠ 0 ∧ letterB (sbyte s 0) = true ∧ runF partB s 0 = s.size ∧ s.size ≤ 20 := by
  unfold nameB
  simp only [Bool.and_eq_true, decide_eq_true_eq, and_assoc]

theorem next_ok (s : ByteArray) (hl : s.size ≤ 1000000) (h0 : 0 < s.size) : CallV Go.Proofs.Tryz.prog 156 [.val (.string s)] (fun r =>
    ∃ k n e : Int, r = .tup [.val (.int .i64 k), .val (.int .i64 n), .val (.int .i64 e)] ∧ ((e = 0 ∧ k = 1 ∧ n = s.size) ↔ nameB s = true)) := by
  have h0' : (0 : Int) < s.size := by omega
  refine callV_of_cw [] Ty.mixed Go.Proofs.Tryz.func156 rfl (by kernel_rfl) (by simp [Go.Proofs.Tryz.ntmps156]) ?_; rw [Go.Proofs.Tryz.ntmps156, Go.Proofs.Tryz.results156]
  simp -implicitDefEqProofs only [go_sem, reduceEqDiff, reduceLT, reduceLeDiff, reduceMul, reduceAdd, reduceIte, reduceCtorEq, Nat.reduceBEq, reduceSub, Int.reduceToNat]
  refine ⟨⟨by decide, h0'⟩, ?_⟩
  refine call_go (letter_ok (sbyte s 0)) (by simp -implicitDefEqProofs only [go_sem, reduceEqDiff, reduceLT, reduceLeDiff, reduceMul, reduceAdd, reduceIte, reduceCtorEq, Nat.reduceBEq, reduceSub, Int.reduceToNat] <;> rfl) (scal rfl) ?_
  simp -implicitDefEqProofs only [go_sem, reduceEqDiff, reduceLT, reduceLeDiff, reduceMul, reduceAdd, reduceIte, reduceCtorEq, Nat.reduceBEq, reduceSub, Int.reduceToNat]
  refine condC_split (fun hc => ?_) (fun hc => ?_) <;> simp -implicitDefEqProofs only [go_sem, reduceEqDiff, reduceLT, reduceLeDiff, reduceMul, reduceAdd, reduceIte, reduceCtorEq, Nat.reduceBEq, reduceSub, Int.reduceToNat]
  · refine call_go (run_ok partB s hl _ [] [] part_ok) (by simp -implicitDefEqProofs only [go_sem, reduceEqDiff, reduceLT, reduceLeDiff, reduceMul, reduceAdd, reduceIte, reduceCtorEq, Nat.reduceBEq, reduceSub, Int.reduceToNat] <;> rfl) (scal rfl) ?_
    simp -implicitDefEqProofs only [go_sem, reduceEqDiff, reduceLT, reduceLeDiff, reduceMul, reduceAdd, reduceIte, reduceCtorEq, Nat.reduceBEq, reduceSub, Int.reduceToNat]
    refine condC_split (fun hd => ?_) (fun hd => ?_) <;> simp -implicitDefEqProofs only [go_sem, reduceEqDiff, reduceLT, reduceLeDiff, reduceMul, reduceAdd, reduceIte, reduceCtorEq, Nat.reduceBEq, reduceSub, Int.reduceToNat]
    · have hd' := of_decide_eq_true hd
      refine ⟨_, _, _, ⟨rfl, rfl, rfl⟩, ?_⟩
      rw [nameB_iff]
      constructor
      · rintro ⟨h, _⟩; omega
      · rintro ⟨_, _, h1, h2⟩; omega
    · have hd' := of_decide_eq_false hd
      refine ⟨_, _, _, ⟨rfl, rfl, rfl⟩, ?_⟩
      rw [nameB_iff]
      constructor
      · rintro ⟨_, _, h⟩; exact ⟨by omega, hc, by omega, by omega⟩
      · rintro ⟨_, _, h1, h2⟩; exact ⟨rfl, rfl, by omega⟩
  · have hn : nameB s = false := by simp [nameB, hc]
    refine call_go (digit_ok (sbyte s 0)) (by simp -implicitDefEqProofs only [go_sem, reduceEqDiff, reduceLT, reduceLeDiff, reduceMul, reduceAdd, reduceIte, reduceCtorEq, Nat.reduceBEq, reduceSub, Int.reduceToNat] <;> rfl) (scal rfl) ?_
    simp -implicitDefEqProofs only [go_sem, reduceEqDiff, reduceLT, reduceLeDiff, reduceMul, reduceAdd, reduceIte, reduceCtorEq, Nat.reduceBEq, reduceSub, Int.reduceToNat]
    refine condC_split (fun hd => ?_) (fun hd => ?_) <;> simp -implicitDefEqProofs only [go_sem, reduceEqDiff, reduceLT, reduceLeDiff, reduceMul, reduceAdd, reduceIte, reduceCtorEq, Nat.reduceBEq, reduceSub, Int.reduceToNat]
    · refine call_go (run_ok digitB s hl _ [] [] digit_ok) (by simp -implicitDefEqProofs only [go_sem, reduceEqDiff, reduceLT, reduceLeDiff, reduceMul, reduceAdd, reduceIte, reduceCtorEq, Nat.reduceBEq, reduceSub, Int.reduceToNat] <;> rfl) (scal rfl) ?_
      simp -implicitDefEqProofs only [go_sem, reduceEqDiff, reduceLT, reduceLeDiff, reduceMul, reduceAdd, reduceIte, reduceCtorEq, Nat.reduceBEq, reduceSub, Int.reduceToNat]
      refine condC_split (fun hd => ?_) (fun hd => ?_) <;> simp -implicitDefEqProofs only [go_sem, reduceEqDiff, reduceLT, reduceLeDiff, reduceMul, reduceAdd, reduceIte, reduceCtorEq, Nat.reduceBEq, reduceSub, Int.reduceToNat]
      · exact ⟨_, _, _, ⟨rfl, rfl, rfl⟩, by simp [hn]⟩
      · exact ⟨_, _, _, ⟨rfl, rfl, rfl⟩, by simp [hn]⟩
    · refine condC_split (fun hq => ?_) (fun hq => ?_) <;> simp -implicitDefEqProofs only [go_sem, reduceEqDiff, reduceLT, reduceLeDiff, reduceMul, reduceAdd, reduceIte, reduceCtorEq, Nat.reduceBEq, reduceSub, Int.reduceToNat]
      · refine call_rel (quoted_ok s hl h0) (by simp -implicitDefEqProofs only [go_sem, reduceEqDiff, reduceLT, reduceLeDiff, reduceMul, reduceAdd, reduceIte, reduceCtorEq, Nat.reduceBEq, reduceSub, Int.reduceToNat] <;> rfl) ?_
        rintro r ⟨n, e, rfl⟩
        refine ⟨scal rfl, ?_⟩
        simp -implicitDefEqProofs only [go_sem, reduceEqDiff, reduceLT, reduceLeDiff, reduceMul, reduceAdd, reduceIte, reduceCtorEq, Nat.reduceBEq, reduceSub, Int.reduceToNat]
        exact ⟨_, _, _, ⟨rfl, rfl, rfl⟩, by simp [hn]⟩
      · refine call_rel (pair_ok s) (by simp -implicitDefEqProofs only [go_sem, reduceEqDiff, reduceLT, reduceLeDiff, reduceMul, reduceAdd, reduceIte, reduceCtorEq, Nat.reduceBEq, reduceSub, Int.reduceToNat] <;> rfl) ?_
        rintro r ⟨b, rfl⟩
        refine ⟨scal rfl, ?_⟩
        simp -implicitDefEqProofs only [go_sem, reduceEqDiff, reduceLT, reduceLeDiff, reduceMul, reduceAdd, reduceIte, reduceCtorEq, Nat.reduceBEq, reduceSub, Int.reduceToNat]
        refine condC_split (fun hp => ?_) (fun hp => ?_) <;> simp -implicitDefEqProofs only [go_sem, reduceEqDiff, reduceLT, reduceLeDiff, reduceMul, reduceAdd, reduceIte, reduceCtorEq, Nat.reduceBEq, reduceSub, Int.reduceToNat]
        · exact ⟨_, _, _, ⟨rfl, rfl, rfl⟩, by simp [hn]⟩
        · refine call_rel (ixb2_ok _ _) (by simp -implicitDefEqProofs only [go_sem, reduceEqDiff, reduceLT, reduceLeDiff, reduceMul, reduceAdd, reduceIte, reduceCtorEq, Nat.reduceBEq, reduceSub, Int.reduceToNat] <;> rfl) ?_
          rintro r ⟨b, rfl⟩
          refine ⟨scal rfl, ?_⟩
          simp -implicitDefEqProofs only [go_sem, reduceEqDiff, reduceLT, reduceLeDiff, reduceMul, reduceAdd, reduceIte, reduceCtorEq, Nat.reduceBEq, reduceSub, Int.reduceToNat]
          refine condC_split (fun hp => ?_) (fun hp => ?_) <;> simp -implicitDefEqProofs only [go_sem, reduceEqDiff, reduceLT, reduceLeDiff, reduceMul, reduceAdd, reduceIte, reduceCtorEq, Nat.reduceBEq, reduceSub, Int.reduceToNat]
          · exact ⟨_, _, _, ⟨rfl, rfl, rfl⟩, by simp [hn]⟩
          · exact ⟨_, _, _, ⟨rfl, rfl, rfl⟩, by simp [hn]⟩

theorem whole_ok (s : ByteArray) (hl : s.size ≤ 1000000) : CallV Go.Proofs.Tryz.prog 141 [.agg [.val (.int .i64 1), .val (.string s), .val (.int .i64 0)]] (fun r => ∃ u : ByteArray, r = .tup [.val (.string u), .val (.bool (nameB s))]) := by
  refine callV_of_cw [] Ty.mixed Go.Proofs.Tryz.func141 rfl (by kernel_rfl) (by simp [Go.Proofs.Tryz.ntmps141]) ?_; rw [Go.Proofs.Tryz.ntmps141, Go.Proofs.Tryz.results141]
  simp -implicitDefEqProofs only [go_sem, reduceEqDiff, reduceLT, reduceLeDiff, reduceMul, reduceAdd, reduceIte, reduceCtorEq, Nat.reduceBEq, reduceSub, Int.reduceToNat, Int.reduceEq]
  refine condC_split (fun hc => ?_) (fun hc => ?_) <;> simp -implicitDefEqProofs only [go_sem, reduceEqDiff, reduceLT, reduceLeDiff, reduceMul, reduceAdd, reduceIte, reduceCtorEq, Nat.reduceBEq, reduceSub, Int.reduceToNat]
  · have he : s = ⟨#[]⟩ := of_decide_eq_true hc
    have : nameB s = false := by rw [he]; try rfl
    rw [this]
    exact ⟨_, rfl, rfl⟩
  · have he : s ≠ ⟨#[]⟩ := of_decide_eq_false hc
    have h0 : 0 < s.size := by
      rcases Nat.eq_zero_or_pos s.size with h | h
      · exact absurd (ByteArray.ext (Array.eq_empty_of_size_eq_zero h)) he
      · exact h
    refine call_rel (next_ok s hl h0) (by simp -implicitDefEqProofs only [go_sem, reduceEqDiff, reduceLT, reduceLeDiff, reduceMul, reduceAdd, reduceIte, reduceCtorEq, Nat.reduceBEq, reduceSub, Int.reduceToNat] <;> rfl) ?_
    rintro r ⟨k, n, e, rfl, hiff⟩
    refine ⟨scal rfl, ?_⟩
    have hn : nameB s = ((decide (e = 0) && decide (k = 1)) && decide (n = s.size)) := by
      rw [Bool.eq_iff_iff, ← hiff]
      simp only [Bool.and_eq_true, decide_eq_true_eq, and_assoc]
    rw [hn]
    simp -implicitDefEqProofs only [go_sem, reduceEqDiff, reduceLT, reduceLeDiff, reduceMul, reduceAdd, reduceIte, reduceCtorEq, Nat.reduceBEq, reduceSub, Int.reduceToNat]
    refine walkG_split (fun h => ?_) (fun h => ?_) <;> simp -implicitDefEqProofs only [go_sem, reduceEqDiff, reduceLT, reduceLeDiff, reduceMul, reduceAdd, reduceIte, reduceCtorEq, Nat.reduceBEq, reduceSub, Int.reduceToNat, h, exists_eq', exists_and_right, and_true, true_and]
    refine walkG_split (fun h' => ?_) (fun h' => ?_) <;> simp -implicitDefEqProofs only [go_sem, reduceEqDiff, reduceLT, reduceLeDiff, reduceMul, reduceAdd, reduceIte, reduceCtorEq, Nat.reduceBEq, reduceSub, Int.reduceToNat, h, h', exists_eq', exists_and_right, and_true, true_and]
theorem isName_ok (s : ByteArray) (hl : s.size ≤ 1000000) : CallV Go.Proofs.Tryz.prog 118 [.val (.string s)] (fun r => r = .val (.bool (nameB s))) := by
  refine callV_of_cw [] Ty.mixed Go.Proofs.Tryz.func118 rfl (by kernel_rfl) (by simp [Go.Proofs.Tryz.ntmps118]) ?_; rw [Go.Proofs.Tryz.ntmps118, Go.Proofs.Tryz.results118]
  simp -implicitDefEqProofs only [go_sem, reduceEqDiff, reduceLT, reduceLeDiff, reduceMul, reduceAdd, reduceIte, reduceCtorEq, Nat.reduceBEq, reduceSub, Int.reduceToNat]
  refine call_rel (whole_ok s hl) (by simp -implicitDefEqProofs only [go_sem, reduceEqDiff, reduceLT, reduceLeDiff, reduceMul, reduceAdd, reduceIte, reduceCtorEq, Nat.reduceBEq, reduceSub, Int.reduceToNat] <;> rfl) ?_
  rintro r ⟨u, rfl⟩
  refine ⟨scal rfl, ?_⟩
  simp -implicitDefEqProofs only [go_sem, reduceEqDiff, reduceLT, reduceLeDiff, reduceMul, reduceAdd, reduceIte, reduceCtorEq, Nat.reduceBEq, reduceSub, Int.reduceToNat]
end Go.Proofs.YtdlohnchnneaeaaGreat
/- The reference's names. -/
namespace Go.Proofs.YtdlohnchnneaeaaGreat
open Go.Abs

theorem rletter_ok (n : Int) : CallV Go.Proofs.Tryz.prog 169 [.val (.int .u8 n)] (fun r => r = .val (.bool (letterB n))) := by
  unfold letterB
  refine callV_of_cw [] Ty.mixed Go.Proofs.Tryz.func169 rfl (by kernel_rfl) (by simp [Go.Proofs.Tryz.ntmps169]) ?_; rw [Go.Proofs.Tryz.ntmps169, Go.Proofs.Tryz.results169]
  simp -implicitDefEqProofs only [go_sem, reduceEqDiff, reduceLT, reduceLeDiff, reduceMul, reduceAdd, reduceIte, reduceCtorEq, Nat.reduceBEq, reduceSub, Int.reduceToNat]
  repeat' first | done | (refine walkG_splitN (fun h => ?_) (fun h => ?_) <;> try simp -implicitDefEqProofs only [go_sem, reduceEqDiff, reduceLT, reduceLeDiff, reduceMul, reduceAdd, reduceIte, reduceCtorEq, Nat.reduceBEq, reduceSub, Int.reduceToNat, h]) | (refine walkG_split (fun h => ?_) (fun h => ?_) <;> try simp -implicitDefEqProofs only [go_sem, reduceEqDiff, reduceLT, reduceLeDiff, reduceMul, reduceAdd, reduceIte, reduceCtorEq, Nat.reduceBEq, reduceSub, Int.reduceToNat, h]) | (refine condC_splitN (fun h => ?_) (fun h => ?_) <;> try simp -implicitDefEqProofs only [go_sem, reduceEqDiff, reduceLT, reduceLeDiff, reduceMul, reduceAdd, reduceIte, reduceCtorEq, Nat.reduceBEq, reduceSub, Int.reduceToNat, h]) | (refine condC_split (fun h => ?_) (fun h => ?_) <;> try simp -implicitDefEqProofs only [go_sem, reduceEqDiff, reduceLT, reduceLeDiff, reduceMul, reduceAdd, reduceIte, reduceCtorEq, Nat.reduceBEq, reduceSub, Int.reduceToNat, h])
theorem rdigit_ok (n : Int) : CallV Go.Proofs.Tryz.prog 170 [.val (.int .u8 n)] (fun r => r = .val (.bool (digitB n))) := by
  unfold digitB
  refine callV_of_cw [] Ty.mixed Go.Proofs.Tryz.func170 rfl (by kernel_rfl) (by simp [Go.Proofs.Tryz.ntmps170]) ?_; rw [Go.Proofs.Tryz.ntmps170, Go.Proofs.Tryz.results170]
  simp -implicitDefEqProofs only [go_sem, reduceEqDiff, reduceLT, reduceLeDiff, reduceMul, reduceAdd, reduceIte, reduceCtorEq, Nat.reduceBEq, reduceSub, Int.reduceToNat]
  repeat' first | done | (refine walkG_splitN (fun h => ?_) (fun h => ?_) <;> try simp -implicitDefEqProofs only [go_sem, reduceEqDiff, reduceLT, reduceLeDiff, reduceMul, reduceAdd, reduceIte, reduceCtorEq, Nat.reduceBEq, reduceSub, Int.reduceToNat, h]) | (refine walkG_split (fun h => ?_) (fun h => ?_) <;> try simp -implicitDefEqProofs only [go_sem, reduceEqDiff, reduceLT, reduceLeDiff, reduceMul, reduceAdd, reduceIte, reduceCtorEq, Nat.reduceBEq, reduceSub, Int.reduceToNat, h]) | (refine condC_splitN (fun h => ?_) (fun h => ?_) <;> try simp -implicitDefEqProofs only [go_sem, reduceEqDiff, reduceLT, reduceLeDiff, reduceMul, reduceAdd, reduceIte, reduceCtorEq, Nat.reduceBEq, reduceSub, Int.reduceToNat, h]) | (refine condC_split (fun h => ?_) (fun h => ?_) <;> try simp -implicitDefEqProofs only [go_sem, reduceEqDiff, reduceLT, reduceLeDiff, reduceMul, reduceAdd, reduceIte, reduceCtorEq, Nat.reduceBEq, reduceSub, Int.reduceToNat, h])
def rpartB (digits : Bool) (n : Int) : Bool := digitB n || (!digits && (letterB n || decide (n = 95)))
theorem rpartB_false : rpartB false = partB := by
  funext n
  unfold rpartB partB
  cases digitB n <;> cases letterB n <;> simp

theorem rrun_ok (s : ByteArray) (hl : s.size ≤ 1000000) (b : Bool) :
    CallV Go.Proofs.Tryz.prog 171 [.val (.string s), .val (.int .i64 0), .val (.bool b)] (fun r => r = .val (.int .i64 (runF (rpartB b) s 0))) := by
  refine callV_of_cw [] Ty.mixed Go.Proofs.Tryz.func171 rfl (by kernel_rfl) (by simp [Go.Proofs.Tryz.ntmps171]) ?_; rw [Go.Proofs.Tryz.ntmps171, Go.Proofs.Tryz.results171]
  simp -implicitDefEqProofs only [go_sem, reduceEqDiff, reduceLT, reduceLeDiff, reduceMul, reduceAdd, reduceIte, reduceCtorEq, Nat.reduceBEq, reduceSub, Int.reduceToNat]
  refine loop_rule (σ := Nat) (fun x => (upd (upd (upd (upd env0 0 (.p (.val (.string s)))) 1 (.p (.val (.int .i64 0)))) 2 (.p (.val (.bool b)))) 7 (.p (.val (.int .i64 x))))) (fun x => heap0)
    (fun x => x ≤ s.size ∧ ∀ j, j < x → rpartB b (sbyte s (0 + j)) = true) (fun x => s.size - x) 0 ⟨Nat.zero_le _, fun j hj => absurd hj (Nat.not_lt_zero j)⟩ (weak_mk (by repeat (first | exact sub_env0 _ | refine sub_upd ?_ (by first | rfl | simp [upd]))) (by repeat (first | exact hsub0 _ | refine hsub_hset ?_ (by first | rfl | simp [hset]))) (by repeat (first | exact ids_env0 _ | refine ids_upd ?_ (by simp [idsOk, idsOkL, hset]))) (by repeat (first | exact boxIds0 _ | refine boxIds_row ?_ | refine boxIds_shut ?_ | refine boxIds_box ?_ (by simp [idsOk, idsOkL, hset]))) (by repeat (first | exact keep0 _ | refine keep_low (by decide) ?_ | refine keep_high (by simp [hset]) ?_))) ?_
  rintro x ⟨hx, hq⟩
  have hw : IntKind.i64.wrap (0 + (x : Int)) = x := by rw [IntWalk.i64_in _ (by omega)]; omega
  simp -implicitDefEqProofs only [go_sem, reduceEqDiff, reduceLT, reduceLeDiff, reduceMul, reduceAdd, reduceIte, reduceCtorEq, Nat.reduceBEq, reduceSub, Int.reduceToNat, hw]
  refine walkG_split (fun hc => ?_) (fun hc => ?_)
  · have hlt : x < s.size := by simpa using hc
    have fin (h : rpartB b (sbyte s x) = false) : ((x : Nat) : Int) = (runF (rpartB b) s 0 : Nat) := by rw [runF_eq (by omega) hq (.inr (by rw [Nat.zero_add]; exact h))]
    simp -implicitDefEqProofs only [go_sem, reduceEqDiff, reduceLT, reduceLeDiff, reduceMul, reduceAdd, reduceIte, reduceCtorEq, Nat.reduceBEq, reduceSub, Int.reduceToNat, hlt, hc, hw]
    refine call_go (rdigit_ok (sbyte s x)) (by simp -implicitDefEqProofs only [go_sem, reduceEqDiff, reduceLT, reduceLeDiff, reduceMul, reduceAdd, reduceIte, reduceCtorEq, Nat.reduceBEq, reduceSub, Int.reduceToNat] <;> rfl) (scal rfl) ?_
    simp -implicitDefEqProofs only [go_sem, reduceEqDiff, reduceLT, reduceLeDiff, reduceMul, reduceAdd, reduceIte, reduceCtorEq, Nat.reduceBEq, reduceSub, Int.reduceToNat, hc, hw]
    refine walkG_splitN (fun h1 => ?_) (fun h1 => ?_) <;> simp -implicitDefEqProofs only [go_sem, reduceEqDiff, reduceLT, reduceLeDiff, reduceMul, reduceAdd, reduceIte, reduceCtorEq, Nat.reduceBEq, reduceSub, Int.reduceToNat, h1, hc, hw]
    · refine loopN_mk (x + 1) ⟨hlt, fun j hj => ?_⟩ (by omega) ?_
      · rcases Nat.lt_succ_iff_lt_or_eq.1 hj with h | h
        · simpa using hq j h
        · rw [h]; simp [rpartB, h1]
      · rw [wrap_succ hlt (by omega)]
        exact (weak_mk (by repeat (first | exact sub_env0 _ | refine sub_upd ?_ (by first | rfl | simp [upd]))) (by repeat (first | exact hsub0 _ | refine hsub_hset ?_ (by first | rfl | simp [hset]))) (by repeat (first | exact ids_env0 _ | refine ids_upd ?_ (by simp [idsOk, idsOkL, hset]))) (by repeat (first | exact boxIds0 _ | refine boxIds_row ?_ | refine boxIds_shut ?_ | refine boxIds_box ?_ (by simp [idsOk, idsOkL, hset]))) (by repeat (first | exact keep0 _ | refine keep_low (by decide) ?_ | refine keep_high (by simp [hset]) ?_)))
    · refine walkG_splitN (fun h2 => ?_) (fun h2 => ?_) <;> simp -implicitDefEqProofs only [go_sem, reduceEqDiff, reduceLT, reduceLeDiff, reduceMul, reduceAdd, reduceIte, reduceCtorEq, Nat.reduceBEq, reduceSub, Int.reduceToNat, h1, h2, hc, hw]
      · subst h2
        exact fin (by simp [rpartB, h1])
      · subst h2
        refine ⟨hlt, ?_⟩
        refine call_go (rletter_ok (sbyte s x)) (by simp -implicitDefEqProofs only [go_sem, reduceEqDiff, reduceLT, reduceLeDiff, reduceMul, reduceAdd, reduceIte, reduceCtorEq, Nat.reduceBEq, reduceSub, Int.reduceToNat] <;> rfl) (scal rfl) ?_
        simp -implicitDefEqProofs only [go_sem, reduceEqDiff, reduceLT, reduceLeDiff, reduceMul, reduceAdd, reduceIte, reduceCtorEq, Nat.reduceBEq, reduceSub, Int.reduceToNat, hc, hw]
        refine walkG_splitN (fun h3 => ?_) (fun h3 => ?_) <;> simp -implicitDefEqProofs only [go_sem, reduceEqDiff, reduceLT, reduceLeDiff, reduceMul, reduceAdd, reduceIte, reduceCtorEq, Nat.reduceBEq, reduceSub, Int.reduceToNat, h1, h3, hc, hw, hlt]
        · refine loopN_mk (x + 1) ⟨hlt, fun j hj => ?_⟩ (by omega) ?_
          · rcases Nat.lt_succ_iff_lt_or_eq.1 hj with h | h
            · simpa using hq j h
            · rw [h]; simp [rpartB, h3]
          · rw [wrap_succ hlt (by omega)]
            exact (weak_mk (by repeat (first | exact sub_env0 _ | refine sub_upd ?_ (by first | rfl | simp [upd]))) (by repeat (first | exact hsub0 _ | refine hsub_hset ?_ (by first | rfl | simp [hset]))) (by repeat (first | exact ids_env0 _ | refine ids_upd ?_ (by simp [idsOk, idsOkL, hset]))) (by repeat (first | exact boxIds0 _ | refine boxIds_row ?_ | refine boxIds_shut ?_ | refine boxIds_box ?_ (by simp [idsOk, idsOkL, hset]))) (by repeat (first | exact keep0 _ | refine keep_low (by decide) ?_ | refine keep_high (by simp [hset]) ?_)))
        · refine condC_split (fun h4 => ?_) (fun h4 => ?_) <;> simp -implicitDefEqProofs only [go_sem, reduceEqDiff, reduceLT, reduceLeDiff, reduceMul, reduceAdd, reduceIte, reduceCtorEq, Nat.reduceBEq, reduceSub, Int.reduceToNat]
          · refine loopN_mk (x + 1) ⟨hlt, fun j hj => ?_⟩ (by omega) ?_
            · rcases Nat.lt_succ_iff_lt_or_eq.1 hj with h | h
              · simpa using hq j h
              · rw [h]; simp [rpartB, h4]
            · rw [wrap_succ hlt (by omega)]
              exact (weak_mk (by repeat (first | exact sub_env0 _ | refine sub_upd ?_ (by first | rfl | simp [upd]))) (by repeat (first | exact hsub0 _ | refine hsub_hset ?_ (by first | rfl | simp [hset]))) (by repeat (first | exact ids_env0 _ | refine ids_upd ?_ (by simp [idsOk, idsOkL, hset]))) (by repeat (first | exact boxIds0 _ | refine boxIds_row ?_ | refine boxIds_shut ?_ | refine boxIds_box ?_ (by simp [idsOk, idsOkL, hset]))) (by repeat (first | exact keep0 _ | refine keep_low (by decide) ?_ | refine keep_high (by simp [hset]) ?_)))
          · exact fin (by simp [rpartB, h1, h3, h4])
  · have hge : s.size ≤ x := by simpa using hc
    simp -implicitDefEqProofs only [go_sem, reduceEqDiff, reduceLT, reduceLeDiff, reduceMul, reduceAdd, reduceIte, reduceCtorEq, Nat.reduceBEq, reduceSub, Int.reduceToNat, hc]
    rw [runF_eq (by omega) hq (.inl (by omega))]

theorem rquoted_ok (s : ByteArray) (hl : s.size ≤ 1000000) : CallV Go.Proofs.Tryz.prog 172 [.val (.string s), .val (.int .i64 0)] (fun r => ∃ n : Nat, r = .val (.int .i64 n) ∧ (n = 0 ∨ (2 ≤ n ∧ n ≤ s.size))) := by
  refine callV_of_cw [] Ty.mixed Go.Proofs.Tryz.func172 rfl (by kernel_rfl) (by simp [Go.Proofs.Tryz.ntmps172]) ?_; rw [Go.Proofs.Tryz.ntmps172, Go.Proofs.Tryz.results172]
  simp -implicitDefEqProofs only [go_sem, reduceEqDiff, reduceLT, reduceLeDiff, reduceMul, reduceAdd, reduceIte, reduceCtorEq, Nat.reduceBEq, reduceSub, Int.reduceToNat]
  refine loop_rule (σ := Nat) (fun x => (upd (upd (upd env0 0 (.p (.val (.string s)))) 1 (.p (.val (.int .i64 0)))) 5 (.p (.val (.int .i64 x))))) (fun x => heap0)
    (fun x => 1 ≤ x ∧ x ≤ s.size + 1) (fun x => s.size + 1 - x) 1 ⟨Nat.le_refl _, by omega⟩ (weak_mk (by repeat (first | exact sub_env0 _ | refine sub_upd ?_ (by first | rfl | simp [upd]))) (by repeat (first | exact hsub0 _ | refine hsub_hset ?_ (by first | rfl | simp [hset]))) (by repeat (first | exact ids_env0 _ | refine ids_upd ?_ (by simp [idsOk, idsOkL, hset]))) (by repeat (first | exact boxIds0 _ | refine boxIds_row ?_ | refine boxIds_shut ?_ | refine boxIds_box ?_ (by simp [idsOk, idsOkL, hset]))) (by repeat (first | exact keep0 _ | refine keep_low (by decide) ?_ | refine keep_high (by simp [hset]) ?_))) ?_
  rintro x ⟨hx1, hx⟩
  have hw : IntKind.i64.wrap (0 + (x : Int)) = x := by rw [IntWalk.i64_in _ (by omega)]; omega
  simp -implicitDefEqProofs only [go_sem, reduceEqDiff, reduceLT, reduceLeDiff, reduceMul, reduceAdd, reduceIte, reduceCtorEq, Nat.reduceBEq, reduceSub, Int.reduceToNat, hw]
  refine condC_split (fun hc => ?_) (fun hc => ?_)
  · have hlt : x < s.size := by simpa using hc
    simp -implicitDefEqProofs only [go_sem, reduceEqDiff, reduceLT, reduceLeDiff, reduceMul, reduceAdd, reduceIte, reduceCtorEq, Nat.reduceBEq, reduceSub, Int.reduceToNat, hlt, hw]
    refine condC_split (fun h1 => ?_) (fun h1 => ?_) <;> simp -implicitDefEqProofs only [go_sem, reduceEqDiff, reduceLT, reduceLeDiff, reduceMul, reduceAdd, reduceIte, reduceCtorEq, Nat.reduceBEq, reduceSub, Int.reduceToNat]
    · rw [wrap_succ hlt (by omega)]
      exact ⟨x + 1, rfl, .inr ⟨by omega, by omega⟩⟩
    · refine walkG_splitN (fun h2 => ?_) (fun h2 => ?_) <;> simp -implicitDefEqProofs only [go_sem, reduceEqDiff, reduceLT, reduceLeDiff, reduceMul, reduceAdd, reduceIte, reduceCtorEq, Nat.reduceBEq, reduceSub, Int.reduceToNat, h2]
      · exact ⟨0, rfl, .inl rfl⟩
      · refine condC_split (fun h3 => ?_) (fun h3 => ?_) <;> simp -implicitDefEqProofs only [go_sem, reduceEqDiff, reduceLT, reduceLeDiff, reduceMul, reduceAdd, reduceIte, reduceCtorEq, Nat.reduceBEq, reduceSub, Int.reduceToNat]
        · exact ⟨0, rfl, .inl rfl⟩
        · refine loopN_mk (x + 1) ⟨by omega, by omega⟩ (by omega) ?_
          rw [wrap_succ hlt (by omega)]
          exact (weak_mk (by repeat (first | exact sub_env0 _ | refine sub_upd ?_ (by first | rfl | simp [upd]))) (by repeat (first | exact hsub0 _ | refine hsub_hset ?_ (by first | rfl | simp [hset]))) (by repeat (first | exact ids_env0 _ | refine ids_upd ?_ (by simp [idsOk, idsOkL, hset]))) (by repeat (first | exact boxIds0 _ | refine boxIds_row ?_ | refine boxIds_shut ?_ | refine boxIds_box ?_ (by simp [idsOk, idsOkL, hset]))) (by repeat (first | exact keep0 _ | refine keep_low (by decide) ?_ | refine keep_high (by simp [hset]) ?_)))
  · simp -implicitDefEqProofs only [go_sem, reduceEqDiff, reduceLT, reduceLeDiff, reduceMul, reduceAdd, reduceIte, reduceCtorEq, Nat.reduceBEq, reduceSub, Int.reduceToNat]
    exact ⟨0, rfl, .inl rfl⟩

def signL : List ByteArray := [⟨#[45, 62]⟩, ⟨#[60, 61]⟩, ⟨#[62, 61]⟩, ⟨#[61, 61]⟩, ⟨#[33, 61]⟩, ⟨#[123]⟩, ⟨#[125]⟩, ⟨#[40]⟩, ⟨#[41]⟩, ⟨#[91]⟩, ⟨#[93]⟩, ⟨#[44]⟩, ⟨#[59]⟩, ⟨#[58]⟩, ⟨#[61]⟩, ⟨#[43]⟩, ⟨#[45]⟩, ⟨#[42]⟩, ⟨#[60]⟩, ⟨#[62]⟩, ⟨#[33]⟩, ⟨#[38]⟩, ⟨#[124]⟩, ⟨#[46]⟩, ⟨#[63]⟩]
theorem signs_ok : CallV Go.Proofs.Tryz.prog 173 [] (fun r => r = .lst (signL.map encS)) := by
  refine callV_of_cw [] Ty.mixed Go.Proofs.Tryz.func173 rfl (by kernel_rfl) (by simp [Go.Proofs.Tryz.ntmps173]) ?_; rw [Go.Proofs.Tryz.ntmps173, Go.Proofs.Tryz.results173]
  simp -implicitDefEqProofs only [go_sem, reduceEqDiff, reduceLT, reduceLeDiff, reduceMul, reduceAdd, reduceIte, reduceCtorEq, Nat.reduceBEq, reduceSub, Int.reduceToNat]
  rfl
end Go.Proofs.YtdlohnchnneaeaaGreat
/- The reference's names, continued. -/
namespace Go.Proofs.YtdlohnchnneaeaaGreat
open Go.Abs

theorem letter_digit {n : Int} (h : letterB n = true) : digitB n = false := by
  unfold letterB digitB at *
  simp at *
  omega
theorem one_ok (s : ByteArray) (hl : s.size ≤ 1000000) (h0 : 0 < s.size) : CallV Go.Proofs.Tryz.prog 160 [.val (.string s), .val (.int .i64 0)] (fun r =>
    ∃ (k n e : Int) (u : ByteArray), r = .tup [.agg [.val (.int .i64 k), .val (.string u), .val (.int .i64 0)], .val (.int .i64 n), .val (.int .i64 e)] ∧ ((e = 0 ∧ k = 1 ∧ n = s.size) ↔ nameB s = true)) := by
  have h0' : (0 : Int) < s.size := by omega
  refine callV_of_cw [] Ty.mixed Go.Proofs.Tryz.func160 rfl (by kernel_rfl) (by simp [Go.Proofs.Tryz.ntmps160]) ?_; rw [Go.Proofs.Tryz.ntmps160, Go.Proofs.Tryz.results160]
  simp -implicitDefEqProofs only [go_sem, reduceEqDiff, reduceLT, reduceLeDiff, reduceMul, reduceAdd, reduceIte, reduceCtorEq, Nat.reduceBEq, reduceSub, Int.reduceToNat]
  refine ⟨⟨by decide, h0'⟩, ?_⟩
  refine call_go (rletter_ok (sbyte s 0)) (by simp -implicitDefEqProofs only [go_sem, reduceEqDiff, reduceLT, reduceLeDiff, reduceMul, reduceAdd, reduceIte, reduceCtorEq, Nat.reduceBEq, reduceSub, Int.reduceToNat] <;> rfl) (scal rfl) ?_
  simp -implicitDefEqProofs only [go_sem, reduceEqDiff, reduceLT, reduceLeDiff, reduceMul, reduceAdd, reduceIte, reduceCtorEq, Nat.reduceBEq, reduceSub, Int.reduceToNat]
  refine walkG_splitN (fun h1 => ?_) (fun h1 => ?_) <;> simp -implicitDefEqProofs only [go_sem, reduceEqDiff, reduceLT, reduceLeDiff, reduceMul, reduceAdd, reduceIte, reduceCtorEq, Nat.reduceBEq, reduceSub, Int.reduceToNat, h1]
  · have hd := letter_digit h1
    refine call_go (rdigit_ok (sbyte s 0)) (by simp -implicitDefEqProofs only [go_sem, reduceEqDiff, reduceLT, reduceLeDiff, reduceMul, reduceAdd, reduceIte, reduceCtorEq, Nat.reduceBEq, reduceSub, Int.reduceToNat] <;> rfl) (scal rfl) ?_
    simp -implicitDefEqProofs only [go_sem, reduceEqDiff, reduceLT, reduceLeDiff, reduceMul, reduceAdd, reduceIte, reduceCtorEq, Nat.reduceBEq, reduceSub, Int.reduceToNat, hd]
    refine call_go (rrun_ok s hl false) (by simp -implicitDefEqProofs only [go_sem, reduceEqDiff, reduceLT, reduceLeDiff, reduceMul, reduceAdd, reduceIte, reduceCtorEq, Nat.reduceBEq, reduceSub, Int.reduceToNat] <;> rfl) (scal rfl) ?_
    simp -implicitDefEqProofs only [go_sem, reduceEqDiff, reduceLT, reduceLeDiff, reduceMul, reduceAdd, reduceIte, reduceCtorEq, Nat.reduceBEq, reduceSub, Int.reduceToNat, rpartB_false]
    refine call_go (rdigit_ok (sbyte s 0)) (by simp -implicitDefEqProofs only [go_sem, reduceEqDiff, reduceLT, reduceLeDiff, reduceMul, reduceAdd, reduceIte, reduceCtorEq, Nat.reduceBEq, reduceSub, Int.reduceToNat] <;> rfl) (scal rfl) ?_
    simp -implicitDefEqProofs only [go_sem, reduceEqDiff, reduceLT, reduceLeDiff, reduceMul, reduceAdd, reduceIte, reduceCtorEq, Nat.reduceBEq, reduceSub, Int.reduceToNat, hd]
    refine condC_split (fun h2 => ?_) (fun h2 => ?_) <;> simp -implicitDefEqProofs only [go_sem, reduceEqDiff, reduceLT, reduceLeDiff, reduceMul, reduceAdd, reduceIte, reduceCtorEq, Nat.reduceBEq, reduceSub, Int.reduceToNat]
    · have hd' := of_decide_eq_true h2
      refine ⟨_, _, _, _, ⟨⟨rfl, rfl⟩, rfl, rfl⟩, ?_⟩
      rw [nameB_iff]
      constructor
      · rintro ⟨h, _⟩; omega
      · rintro ⟨_, _, h3, h4⟩; omega
    · have hd' := of_decide_eq_false h2
      have hr := runF_le partB s 0
      have hw : IntKind.i64.wrap (0 + (runF partB s 0 : Int)) = runF partB s 0 := by rw [IntWalk.i64_in _ (by omega)]; omega
      rw [hw]
      refine ⟨⟨by omega, by omega, by omega⟩, _, _, _, _, ⟨⟨rfl, rfl⟩, rfl, rfl⟩, ?_⟩
      rw [nameB_iff]
      constructor
      · rintro ⟨_, _, h⟩; exact ⟨by omega, h1, by omega, by omega⟩
      · rintro ⟨_, _, h3, h4⟩; exact ⟨rfl, rfl, by omega⟩
  · have hn : nameB s = false := by simp [nameB, h1]
    rw [hn]
    refine call_go (rdigit_ok (sbyte s 0)) (by simp -implicitDefEqProofs only [go_sem, reduceEqDiff, reduceLT, reduceLeDiff, reduceMul, reduceAdd, reduceIte, reduceCtorEq, Nat.reduceBEq, reduceSub, Int.reduceToNat] <;> rfl) (scal rfl) ?_
    simp -implicitDefEqProofs only [go_sem, reduceEqDiff, reduceLT, reduceLeDiff, reduceMul, reduceAdd, reduceIte, reduceCtorEq, Nat.reduceBEq, reduceSub, Int.reduceToNat]
    refine condC_split (fun h2 => ?_) (fun h2 => ?_) <;> simp -implicitDefEqProofs only [go_sem, reduceEqDiff, reduceLT, reduceLeDiff, reduceMul, reduceAdd, reduceIte, reduceCtorEq, Nat.reduceBEq, reduceSub, Int.reduceToNat]
    · refine call_go (rdigit_ok (sbyte s 0)) (by simp -implicitDefEqProofs only [go_sem, reduceEqDiff, reduceLT, reduceLeDiff, reduceMul, reduceAdd, reduceIte, reduceCtorEq, Nat.reduceBEq, reduceSub, Int.reduceToNat] <;> rfl) (scal rfl) ?_
      simp -implicitDefEqProofs only [go_sem, reduceEqDiff, reduceLT, reduceLeDiff, reduceMul, reduceAdd, reduceIte, reduceCtorEq, Nat.reduceBEq, reduceSub, Int.reduceToNat, h2]
      refine call_go (rrun_ok s hl true) (by simp -implicitDefEqProofs only [go_sem, reduceEqDiff, reduceLT, reduceLeDiff, reduceMul, reduceAdd, reduceIte, reduceCtorEq, Nat.reduceBEq, reduceSub, Int.reduceToNat] <;> rfl) (scal rfl) ?_
      simp -implicitDefEqProofs only [go_sem, reduceEqDiff, reduceLT, reduceLeDiff, reduceMul, reduceAdd, reduceIte, reduceCtorEq, Nat.reduceBEq, reduceSub, Int.reduceToNat]
      refine call_go (rdigit_ok (sbyte s 0)) (by simp -implicitDefEqProofs only [go_sem, reduceEqDiff, reduceLT, reduceLeDiff, reduceMul, reduceAdd, reduceIte, reduceCtorEq, Nat.reduceBEq, reduceSub, Int.reduceToNat] <;> rfl) (scal rfl) ?_
      simp -implicitDefEqProofs only [go_sem, reduceEqDiff, reduceLT, reduceLeDiff, reduceMul, reduceAdd, reduceIte, reduceCtorEq, Nat.reduceBEq, reduceSub, Int.reduceToNat, h2]
      have hr := runF_le (rpartB true) s 0
      generalize runF (rpartB true) s 0 = m at hr
      have hw : IntKind.i64.wrap (0 + (m : Int)) = m := by rw [IntWalk.i64_in _ (by omega)]; omega
      refine condC_split (fun h2 => ?_) (fun h2 => ?_) <;> simp -implicitDefEqProofs only [go_sem, reduceEqDiff, reduceLT, reduceLeDiff, reduceMul, reduceAdd, reduceIte, reduceCtorEq, Nat.reduceBEq, reduceSub, Int.reduceToNat, hw]
      · exact ⟨_, _, _, _, ⟨⟨rfl, rfl⟩, rfl, rfl⟩, by simp⟩
      · exact ⟨by omega, _, _, _, _, ⟨⟨rfl, rfl⟩, rfl, rfl⟩, by simp⟩
    · refine condC_split (fun h3 => ?_) (fun h3 => ?_) <;> simp -implicitDefEqProofs only [go_sem, reduceEqDiff, reduceLT, reduceLeDiff, reduceMul, reduceAdd, reduceIte, reduceCtorEq, Nat.reduceBEq, reduceSub, Int.reduceToNat]
      · refine call_rel (rquoted_ok s hl) (by simp -implicitDefEqProofs only [go_sem, reduceEqDiff, reduceLT, reduceLeDiff, reduceMul, reduceAdd, reduceIte, reduceCtorEq, Nat.reduceBEq, reduceSub, Int.reduceToNat] <;> rfl) ?_
        rintro r ⟨n, rfl, hr⟩
        refine ⟨scal rfl, ?_⟩
        simp -implicitDefEqProofs only [go_sem, reduceEqDiff, reduceLT, reduceLeDiff, reduceMul, reduceAdd, reduceIte, reduceCtorEq, Nat.reduceBEq, reduceSub, Int.reduceToNat]
        refine condC_split (fun h4 => ?_) (fun h4 => ?_) <;> simp -implicitDefEqProofs only [go_sem, reduceEqDiff, reduceLT, reduceLeDiff, reduceMul, reduceAdd, reduceIte, reduceCtorEq, Nat.reduceBEq, reduceSub, Int.reduceToNat]
        · exact ⟨_, _, _, _, ⟨⟨rfl, rfl⟩, rfl, rfl⟩, by simp⟩
        · have h5 : 2 ≤ n ∧ n ≤ s.size := by
            have := of_decide_eq_false h4
            omega
          refine condC_split (fun h6 => ?_) (fun h6 => ?_) <;> simp -implicitDefEqProofs only [go_sem, reduceEqDiff, reduceLT, reduceLeDiff, reduceMul, reduceAdd, reduceIte, reduceCtorEq, Nat.reduceBEq, reduceSub, Int.reduceToNat]
          · exact ⟨_, _, _, _, ⟨⟨rfl, rfl⟩, rfl, rfl⟩, by simp⟩
          · have w1 : IntKind.i64.wrap (0 + 1) = 1 := by rfl
            have w2 : IntKind.i64.wrap (0 + (n : Int)) = n := by rw [IntWalk.i64_in _ (by omega)]; omega
            have w3 : IntKind.i64.wrap ((n : Int) - 1) = n - 1 := by rw [IntWalk.i64_in _ (by omega)]
            simp only [w1, w2, w3]
            exact ⟨by omega, _, _, _, _, ⟨⟨rfl, rfl⟩, rfl, rfl⟩, by simp⟩
      · refine call_go (signs_ok) (by simp -implicitDefEqProofs only [go_sem, reduceEqDiff, reduceLT, reduceLeDiff, reduceMul, reduceAdd, reduceIte, reduceCtorEq, Nat.reduceBEq, reduceSub, Int.reduceToNat] <;> rfl) (pers) ?_
        simp -implicitDefEqProofs only [go_sem, reduceEqDiff, reduceLT, reduceLeDiff, reduceMul, reduceAdd, reduceIte, reduceCtorEq, Nat.reduceBEq, reduceSub, Int.reduceToNat]
        refine loop_rule (σ := Nat) (fun x => (upd (upd (upd (upd (upd env0 0 (.p (.val (.string s)))) 1 (.p (.val (.int .i64 0)))) 4 (.ptr 4 0)) 12 (.p (.lst (signL.map encS)))) 13 (.p (.val (.int .i64 x)))))
          (fun x => (hset heap0 4 (.box [.p (.val (.int .i64 0)), .p (.val (.string ⟨#[]⟩)), .p (.val (.int .i64 0))]))) (fun x => x ≤ signL.length) (fun x => signL.length - x) 0 (Nat.zero_le _) (weak_mk (by repeat (first | exact sub_env0 _ | refine sub_upd ?_ (by first | rfl | simp [upd]))) (by repeat (first | exact hsub0 _ | refine hsub_hset ?_ (by first | rfl | simp [hset]))) (by repeat (first | exact ids_env0 _ | refine ids_upd ?_ (by simp [idsOk, idsOkL, hset]))) (by repeat (first | exact boxIds0 _ | refine boxIds_row ?_ | refine boxIds_shut ?_ | refine boxIds_box ?_ (by simp [idsOk, idsOkL, hset]))) (by repeat (first | exact keep0 _ | refine keep_low (by decide) ?_ | refine keep_high (by simp [hset]) ?_))) ?_
        rintro x hx
        simp -implicitDefEqProofs only [go_sem, reduceEqDiff, reduceLT, reduceLeDiff, reduceMul, reduceAdd, reduceIte, reduceCtorEq, Nat.reduceBEq, reduceSub, Int.reduceToNat]
        refine condC_split (fun hc => ?_) (fun hc => ?_)
        · have hlt : x < signL.length := by simpa using hc
          simp -implicitDefEqProofs only [go_sem, reduceEqDiff, reduceLT, reduceLeDiff, reduceMul, reduceAdd, reduceIte, reduceCtorEq, Nat.reduceBEq, reduceSub, Int.reduceToNat]
          refine draw_txt [.q, .q, .q, .q, .q, .q, .q, .q, .q, .q, .q, .q, .q, .q, .q, .q, .q, .q, .q, .q, .q, .q, .q, .q, .q, .q, .q] (by kernel_rfl) ?_
          simp -implicitDefEqProofs only [go_sem, reduceEqDiff, reduceLT, reduceLeDiff, reduceMul, reduceAdd, reduceIte, reduceCtorEq, Nat.reduceBEq, reduceSub, Int.reduceToNat, getD_map encS hlt, encS, hlt, List.length_map]
          have hu : (signL.getD x default).size ≤ 2 := by
            have : ∀ u ∈ signL, u.size ≤ 2 := by decide
            exact this _ (by simp [hlt])
          have hw : IntKind.i64.wrap (0 + ((signL.getD x default).size : Int)) = (signL.getD x default).size := by rw [IntWalk.i64_in _ (by omega)]; omega
          refine walkDG_split (fun h4 => ?_) (fun h4 => ?_)
          · rw [hw] at h4
            have h5 := of_decide_eq_true h4
            simp -implicitDefEqProofs only [go_sem, reduceEqDiff, reduceLT, reduceLeDiff, reduceMul, reduceAdd, reduceIte, reduceCtorEq, Nat.reduceBEq, reduceSub, Int.reduceToNat, hw, h4, h5, getD_map encS hlt, encS, hlt, List.length_map]
            refine ⟨by omega, ?_⟩
            refine condC_split (fun h6 => ?_) (fun h6 => ?_) <;> simp -implicitDefEqProofs only [go_sem, reduceEqDiff, reduceLT, reduceLeDiff, reduceMul, reduceAdd, reduceIte, reduceCtorEq, Nat.reduceBEq, reduceSub, Int.reduceToNat]
            · refine draw_txt [.p, .p, .p, .p, .p, .p, .p, .p, .p, .p, .w, .q, .q] (by kernel_rfl) ?_
              simp -implicitDefEqProofs only [go_sem, reduceEqDiff, reduceLT, reduceLeDiff, reduceMul, reduceAdd, reduceIte, reduceCtorEq, Nat.reduceBEq, reduceSub, Int.reduceToNat, getD_map encS hlt, encS, hlt, List.length_map]
              exact ⟨_, _, _, _, ⟨⟨rfl, rfl⟩, rfl, rfl⟩, by simp⟩
            · rw [wrap_succ hlt (by decide)]
              exact loopN_mk (x + 1) hlt (by omega) (weak_mk (by repeat (first | exact sub_env0 _ | refine sub_upd ?_ (by first | rfl | simp [upd]))) (by repeat (first | exact hsub0 _ | refine hsub_hset ?_ (by first | rfl | simp [hset]))) (by repeat (first | exact ids_env0 _ | refine ids_upd ?_ (by simp [idsOk, idsOkL, hset]))) (by repeat (first | exact boxIds0 _ | refine boxIds_row ?_ | refine boxIds_shut ?_ | refine boxIds_box ?_ (by simp [idsOk, idsOkL, hset]))) (by repeat (first | exact keep0 _ | refine keep_low (by decide) ?_ | refine keep_high (by simp [hset]) ?_)))
          · rw [hw] at h4
            simp -implicitDefEqProofs only [go_sem, reduceEqDiff, reduceLT, reduceLeDiff, reduceMul, reduceAdd, reduceIte, reduceCtorEq, Nat.reduceBEq, reduceSub, Int.reduceToNat, h4, hw]
            rw [wrap_succ hlt (by decide)]
            exact loopN_mk (x + 1) hlt (by omega) (weak_mk (by repeat (first | exact sub_env0 _ | refine sub_upd ?_ (by first | rfl | simp [upd]))) (by repeat (first | exact hsub0 _ | refine hsub_hset ?_ (by first | rfl | simp [hset]))) (by repeat (first | exact ids_env0 _ | refine ids_upd ?_ (by simp [idsOk, idsOkL, hset]))) (by repeat (first | exact boxIds0 _ | refine boxIds_row ?_ | refine boxIds_shut ?_ | refine boxIds_box ?_ (by simp [idsOk, idsOkL, hset]))) (by repeat (first | exact keep0 _ | refine keep_low (by decide) ?_ | refine keep_high (by simp [hset]) ?_)))
        · simp -implicitDefEqProofs only [go_sem, reduceEqDiff, reduceLT, reduceLeDiff, reduceMul, reduceAdd, reduceIte, reduceCtorEq, Nat.reduceBEq, reduceSub, Int.reduceToNat]
          exact ⟨_, _, _, _, ⟨⟨rfl, rfl⟩, rfl, rfl⟩, by simp⟩
theorem text_ok (s : ByteArray) : CallV Go.Proofs.Tryz.prog 159 [.agg [.val (.int .i64 1), .val (.string s), .val (.int .i64 0)]] (fun r => r = .val (.string s)) := by
  refine callV_of_cw [] Ty.mixed Go.Proofs.Tryz.func159 rfl (by kernel_rfl) (by simp [Go.Proofs.Tryz.ntmps159]) ?_; rw [Go.Proofs.Tryz.ntmps159, Go.Proofs.Tryz.results159]
  simp -implicitDefEqProofs only [go_sem, reduceEqDiff, reduceLT, reduceLeDiff, reduceMul, reduceAdd, reduceIte, reduceCtorEq, Nat.reduceBEq, reduceSub, Int.reduceToNat, Int.reduceEq]
theorem right_ok (s : ByteArray) (hl : s.size ≤ 1000000) : CallV Go.Proofs.Tryz.prog 147 [.agg [.val (.int .i64 1), .val (.string s), .val (.int .i64 0)]] (fun r => r = .val (.bool (nameB s))) := by
  refine callV_of_cw [] Ty.mixed Go.Proofs.Tryz.func147 rfl (by kernel_rfl) (by simp [Go.Proofs.Tryz.ntmps147]) ?_; rw [Go.Proofs.Tryz.ntmps147, Go.Proofs.Tryz.results147]
  simp -implicitDefEqProofs only [go_sem, reduceEqDiff, reduceLT, reduceLeDiff, reduceMul, reduceAdd, reduceIte, reduceCtorEq, Nat.reduceBEq, reduceSub, Int.reduceToNat]
  refine call_go (text_ok s) (by simp -implicitDefEqProofs only [go_sem, reduceEqDiff, reduceLT, reduceLeDiff, reduceMul, reduceAdd, reduceIte, reduceCtorEq, Nat.reduceBEq, reduceSub, Int.reduceToNat] <;> rfl) (scal rfl) ?_
  simp -implicitDefEqProofs only [go_sem, reduceEqDiff, reduceLT, reduceLeDiff, reduceMul, reduceAdd, reduceIte, reduceCtorEq, Nat.reduceBEq, reduceSub, Int.reduceToNat, Int.reduceEq]
  refine condC_split (fun hc => ?_) (fun hc => ?_) <;> simp -implicitDefEqProofs only [go_sem, reduceEqDiff, reduceLT, reduceLeDiff, reduceMul, reduceAdd, reduceIte, reduceCtorEq, Nat.reduceBEq, reduceSub, Int.reduceToNat]
  · have he : s = ⟨#[]⟩ := of_decide_eq_true hc
    rw [he]; try rfl
  · have he : s ≠ ⟨#[]⟩ := of_decide_eq_false hc
    have h0 : 0 < s.size := by
      rcases Nat.eq_zero_or_pos s.size with h | h
      · exact absurd (ByteArray.ext (Array.eq_empty_of_size_eq_zero h)) he
      · exact h
    refine call_rel (one_ok s hl h0) (by simp -implicitDefEqProofs only [go_sem, reduceEqDiff, reduceLT, reduceLeDiff, reduceMul, reduceAdd, reduceIte, reduceCtorEq, Nat.reduceBEq, reduceSub, Int.reduceToNat] <;> rfl) ?_
    rintro r ⟨k, n, e, u, rfl, hiff⟩
    refine ⟨scal rfl, ?_⟩
    have hn : nameB s = ((decide (e = 0) && decide (n = s.size)) && decide (k = 1)) := by
      rw [Bool.eq_iff_iff, ← hiff]
      simp only [Bool.and_eq_true, decide_eq_true_eq, and_assoc]
      constructor
      · rintro ⟨h1, h2, h3⟩; exact ⟨h1, h3, h2⟩
      · rintro ⟨h1, h2, h3⟩; exact ⟨h1, h3, h2⟩
    rw [hn]
    simp -implicitDefEqProofs only [go_sem, reduceEqDiff, reduceLT, reduceLeDiff, reduceMul, reduceAdd, reduceIte, reduceCtorEq, Nat.reduceBEq, reduceSub, Int.reduceToNat]
    refine walkG_split (fun h => ?_) (fun h => ?_) <;> simp -implicitDefEqProofs only [go_sem, reduceEqDiff, reduceLT, reduceLeDiff, reduceMul, reduceAdd, reduceIte, reduceCtorEq, Nat.reduceBEq, reduceSub, Int.reduceToNat, h]
    refine walkG_split (fun h' => ?_) (fun h' => ?_) <;> simp -implicitDefEqProofs only [go_sem, reduceEqDiff, reduceLT, reduceLeDiff, reduceMul, reduceAdd, reduceIte, reduceCtorEq, Nat.reduceBEq, reduceSub, Int.reduceToNat, h, h']
theorem rIsName_ok (s : ByteArray) (hl : s.size ≤ 1000000) : CallV Go.Proofs.Tryz.prog 127 [.val (.string s)] (fun r => r = .val (.bool (nameB s))) := by
  refine callV_of_cw [] Ty.mixed Go.Proofs.Tryz.func127 rfl (by kernel_rfl) (by simp [Go.Proofs.Tryz.ntmps127]) ?_; rw [Go.Proofs.Tryz.ntmps127, Go.Proofs.Tryz.results127]
  simp -implicitDefEqProofs only [go_sem, reduceEqDiff, reduceLT, reduceLeDiff, reduceMul, reduceAdd, reduceIte, reduceCtorEq, Nat.reduceBEq, reduceSub, Int.reduceToNat]
  refine call_go (right_ok s hl) (by simp -implicitDefEqProofs only [go_sem, reduceEqDiff, reduceLT, reduceLeDiff, reduceMul, reduceAdd, reduceIte, reduceCtorEq, Nat.reduceBEq, reduceSub, Int.reduceToNat] <;> rfl) (scal rfl) ?_
  simp -implicitDefEqProofs only [go_sem, reduceEqDiff, reduceLT, reduceLeDiff, reduceMul, reduceAdd, reduceIte, reduceCtorEq, Nat.reduceBEq, reduceSub, Int.reduceToNat]

end Go.Proofs.YtdlohnchnneaeaaGreat
/- Package types: attributes. -/
namespace Go.Proofs.YtdlohnchnneaeaaGreat
open Go.Abs

structure FewT (t : Types) : Prop where
  nodes : t.nodes.length ≤ 20
  edges : t.edges.length ≤ 30
  attrs : ∀ n ∈ t.nodes, n.attrs.length ≤ 30
  name : ∀ n ∈ t.nodes, n.name.size ≤ 40
  aname : ∀ n ∈ t.nodes, ∀ a ∈ n.attrs, a.name.size ≤ 40
  names : ∀ n ∈ t.nodes, ∀ a ∈ n.attrs, a.names.length ≤ 25
  word : ∀ n ∈ t.nodes, ∀ a ∈ n.attrs, ∀ s ∈ a.names, s.size ≤ 40
  ename : ∀ e ∈ t.edges, e.name.size ≤ 40

def ParOk (t : Types) (n : Nat) : Prop := ∀ j, j < n → -1 ≤ (t.nodes.getD j default).parent ∧ (t.nodes.getD j default).parent < j

def attrsK (t : Types) : Nat → Nat → List Attr
  | 0, _ => []
  | k + 1, a => (if 0 ≤ (t.nodes.getD a default).parent then attrsK t k (t.nodes.getD a default).parent.toNat else []) ++ (t.nodes.getD a default).attrs
def attrsAt (t : Types) (a : Nat) : List Attr := attrsK t (a + 1) a

theorem attrsK_fuel {t : Types} : ∀ (k k' a : Nat), ParOk t (a + 1) → a < k → a < k' → attrsK t k a = attrsK t k' a
  | 0, _, _, _, h, _ => by omega
  | _ + 1, 0, _, _, _, h => by omega
  | k + 1, k' + 1, a, hp, h, h' => by
    unfold attrsK
    split
    · rename_i h0
      have hq := hp a (by omega)
      rw [attrsK_fuel k k' (t.nodes.getD a default).parent.toNat (fun j hj => hp j (by omega)) (by omega) (by omega)]
    · rfl
theorem attrsAt_eq {t : Types} {a : Nat} (hp : ParOk t (a + 1)) : attrsAt t a = (if 0 ≤ (t.nodes.getD a default).parent then attrsAt t (t.nodes.getD a default).parent.toNat else []) ++ (t.nodes.getD a default).attrs := by
  conv => lhs; unfold attrsAt attrsK
  split
  · rename_i h0
    have hq := hp a (by omega)
    unfold attrsAt
    rw [attrsK_fuel a ((t.nodes.getD a default).parent.toNat + 1) _ (fun j hj => hp j (by omega)) (by omega) (by omega)]
  · rfl
theorem getD_mem {α : Type} [Inhabited α] {l : List α} {a : Nat} (ha : a < l.length) : l.getD a default ∈ l := by
  have : l.getD a default = l[a] := by simp [ha]
  rw [this]; exact List.getElem_mem _
theorem attrsK_len {t : Types} (hf : FewT t) : ∀ (k a : Nat), a < t.nodes.length → ParOk t (a + 1) → (attrsK t k a).length ≤ k * 30
  | 0, _, _, _ => by simp [attrsK]
  | k + 1, a, ha, hp => by
    unfold attrsK
    have h1 : (t.nodes.getD a default).attrs.length ≤ 30 := hf.attrs _ (getD_mem ha)
    have hq := hp a (by omega)
    rw [List.length_append]
    generalize hlx : (t.nodes.getD a default).attrs.length = lx at h1 ⊢
    split
    · have := attrsK_len hf k (t.nodes.getD a default).parent.toNat (by omega) (fun j hj => hp j (by omega))
      omega
    · simp; omega
theorem attrsAt_len {t : Types} (hf : FewT t) {a : Nat} (ha : a < t.nodes.length) (hp : ParOk t (a + 1)) : (attrsAt t a).length ≤ 600 := by
  have := attrsK_len hf (a + 1) a ha hp
  have := hf.nodes
  unfold attrsAt
  omega
theorem attrsK_mem {t : Types} (hf : FewT t) : ∀ (k a : Nat), a < t.nodes.length → ParOk t (a + 1) → ∀ x ∈ attrsK t k a, ∃ n ∈ t.nodes, x ∈ n.attrs
  | 0, _, _, _, x, hx => by simp [attrsK] at hx
  | k + 1, a, ha, hp, x, hx => by
    unfold attrsK at hx
    have hq := hp a (by omega)
    rcases List.mem_append.1 hx with h | h
    · split at h
      · exact attrsK_mem hf k (t.nodes.getD a default).parent.toNat (by omega) (fun j hj => hp j (by omega)) x h
      · cases h
    · exact ⟨_, getD_mem ha, h⟩
theorem enc_len4 (l : List Attr) : ∀ x ∈ l.map encAttr, x.length = 4 := by
  intro x hx
  obtain ⟨a, _, rfl⟩ := List.mem_map.1 hx
  rfl

theorem attrs_ok (t : Types) (hf : FewT t) : ∀ (a : Nat), a < t.nodes.length → ParOk t (a + 1) → CallF Go.Proofs.Tryz.prog 121 [encTypes t, .val (.int .i64 a)] (fun r => r = .row 107 4 ((attrsAt t a).map encAttr)) := by
  intro a
  induction a using Nat.strongRecOn with
  | _ a ih =>
    intro ha hp
    have hq := hp a (by omega)
    have h1 := hf.attrs _ (getD_mem ha)
    have hlen := attrsAt_len hf ha hp
    refine callF_of_cw [25] Ty.mixed Go.Proofs.Tryz.func121 rfl (by kernel_rfl) (by simp [Go.Proofs.Tryz.ntmps121]) ?_; rw [Go.Proofs.Tryz.ntmps121, Go.Proofs.Tryz.results121]
    
    simp -implicitDefEqProofs only [go_sem, reduceEqDiff, reduceLT, reduceLeDiff, reduceMul, reduceAdd, reduceIte, reduceCtorEq, Nat.reduceBEq, reduceSub, Int.reduceToNat, encTypes, getD_map encNode ha, ha, encNode]
    refine condC_split (fun h0 => ?_) (fun h0 => ?_) <;> simp -implicitDefEqProofs only [go_sem, reduceEqDiff, reduceLT, reduceLeDiff, reduceMul, reduceAdd, reduceIte, reduceCtorEq, Nat.reduceBEq, reduceSub, Int.reduceToNat, getD_map encNode ha, ha, encNode]
    · have h0' := of_decide_eq_true h0
      obtain ⟨q, hqq⟩ : ∃ q : Nat, (t.nodes.getD a default).parent = q := ⟨_, (Int.toNat_of_nonneg h0').symm⟩
      have hqa : q < a := by have := hq.2; rw [hqq] at this; omega
      rw [hqq]
      refine callf_go 17 (ih q hqa (by omega) (fun j hj => hp j (by omega))) (by simp -implicitDefEqProofs only [go_sem, reduceEqDiff, reduceLT, reduceLeDiff, reduceMul, reduceAdd, reduceIte, reduceCtorEq, Nat.reduceBEq, reduceSub, Int.reduceToNat, getD_map encNode ha, ha, encNode] <;> rfl) (persF) (by simp -implicitDefEqProofs only [go_sem, reduceEqDiff, reduceLT, reduceLeDiff, reduceMul, reduceAdd, reduceIte, reduceCtorEq, Nat.reduceBEq, reduceSub, Int.reduceToNat, getD_map encNode ha, ha, encNode]) ?_
      simp -implicitDefEqProofs only [go_sem, reduceEqDiff, reduceLT, reduceLeDiff, reduceMul, reduceAdd, reduceIte, reduceCtorEq, Nat.reduceBEq, reduceSub, Int.reduceToNat, getD_map encNode ha, ha, encNode]
      have e : attrsAt t a = attrsAt t q ++ (t.nodes.getD a default).attrs := by
        rw [attrsAt_eq hp, if_pos h0', hqq]; try rfl
      rw [e, List.length_append] at hlen
      exact ⟨⟨by omega, enc_len4 _⟩, by decide, _, .refl _, by rw [e, List.map_append]⟩
    · have h0' := of_decide_eq_false h0
      have e : attrsAt t a = (t.nodes.getD a default).attrs := by
        rw [attrsAt_eq hp, if_neg h0']; try rfl
      exact ⟨⟨by omega, enc_len4 _⟩, by decide, _, .refl _, by rw [e]⟩
end Go.Proofs.YtdlohnchnneaeaaGreat
/- Package types: errors of names, attributes, nodes and edges. -/
namespace Go.Proofs.YtdlohnchnneaeaaGreat
open Go.Abs

def firstI (f : Nat → Int) (s n : Nat) : Option Nat := (List.range' s (n - s)).find? fun i => decide (f i ≠ 0)
def firstE (f : Nat → Int) (s n : Nat) : Int := match firstI f s n with
  | some k => f k
  | none => 0
theorem firstI_at {f : Nat → Int} {s n k : Nat} (hs : s ≤ k) (hk : k < n) (h0 : ∀ j, s ≤ j → j < k → f j = 0) (h1 : f k ≠ 0) : firstI f s n = some k := by
  unfold firstI
  rw [List.find?_range'_eq_some]
  refine ⟨by simpa using h1, by simp [List.mem_range'_1]; omega, fun j hj1 hj2 => by simpa using h0 j hj1 hj2⟩
theorem firstI_none {f : Nat → Int} {s n : Nat} (h0 : ∀ j, s ≤ j → j < n → f j = 0) : firstI f s n = none := by
  unfold firstI
  rw [List.find?_eq_none]
  intro j hj
  rw [List.mem_range'_1] at hj
  have := h0 j hj.1 (by omega)
  simpa using this
theorem firstE_at {f : Nat → Int} {s n k : Nat} (hs : s ≤ k) (hk : k < n) (h0 : ∀ j, s ≤ j → j < k → f j = 0) (h1 : f k ≠ 0) : firstE f s n = f k := by
  unfold firstE
  rw [firstI_at hs hk h0 h1]
theorem firstE_none {f : Nat → Int} {s n : Nat} (h0 : ∀ j, s ≤ j → j < n → f j = 0) : firstE f s n = 0 := by
  unfold firstE
  rw [firstI_none h0]

theorem firstE_at0 {f : Nat → Int} {n k : Nat} (hk : k < n) (h0 : ∀ j, j < k → f j = 0) (h1 : f k ≠ 0) : firstE f 0 n = f k := firstE_at (Nat.zero_le _) hk (fun j _ => h0 j) h1
theorem firstE_none0 {f : Nat → Int} {n : Nat} (h0 : ∀ j, j < n → f j = 0) : firstE f 0 n = 0 := firstE_none fun j _ => h0 j
theorem all_succ {f : Nat → Int} {x : Nat} (h : ∀ j, j < x → f j = 0) (hx : f x = 0) : ∀ j, j < x + 1 → f j = 0 := fun j hj => by
  rcases Nat.lt_succ_iff_lt_or_eq.1 hj with h' | h'
  · exact h j h'
  · rw [h']; exact hx

def nameE (l : List ByteArray) (i : Nat) : Int := if nameB (l.getD i default) = false then 2 else if (l.take i).any (fun x => decide (l.getD i default = x)) = true then 5 else 0
def namesE (l : List ByteArray) : Int := if 20 < l.length then 3 else firstE (nameE l) 0 l.length

theorem names_ok (l : List ByteArray) (hl : l.length ≤ 25) (hw : ∀ s ∈ l, s.size ≤ 40) : CallV Go.Proofs.Tryz.prog 145 [.lst (l.map encS)] (fun r => r = .val (.int .i64 (namesE l))) := by
  unfold namesE
  refine callV_of_cw [] Ty.mixed Go.Proofs.Tryz.func145 rfl (by kernel_rfl) (by simp [Go.Proofs.Tryz.ntmps145]) ?_; rw [Go.Proofs.Tryz.ntmps145, Go.Proofs.Tryz.results145]
  simp -implicitDefEqProofs only [go_sem, reduceEqDiff, reduceLT, reduceLeDiff, reduceMul, reduceAdd, reduceIte, reduceCtorEq, Nat.reduceBEq, reduceSub, Int.reduceToNat]
  refine condC_split (fun h0 => ?_) (fun h0 => ?_) <;> simp -implicitDefEqProofs only [go_sem, reduceEqDiff, reduceLT, reduceLeDiff, reduceMul, reduceAdd, reduceIte, reduceCtorEq, Nat.reduceBEq, reduceSub, Int.reduceToNat]
  · have h0' : 20 < l.length := by have := of_decide_eq_true h0; omega
    rw [if_pos h0']
  · have h0' : ¬ 20 < l.length := by have := of_decide_eq_false h0; omega
    rw [if_neg h0']
    refine loop_rule (σ := Nat) (fun x => (upd (upd (upd (upd env0 0 (.p (.lst (l.map encS)))) 8 (.p (.lst (l.map encS)))) 9 (.p (.val (.int .i64 l.length)))) 10 (.p (.val (.int .i64 x))))) (fun x => heap0)
      (fun x => x ≤ l.length ∧ ∀ j, j < x → nameE l j = 0) (fun x => l.length - x) 0 ⟨Nat.zero_le _, fun j hj => absurd hj (Nat.not_lt_zero j)⟩ (weak_mk (by repeat (first | exact sub_env0 _ | refine sub_upd ?_ (by first | rfl | simp [upd]))) (by repeat (first | exact hsub0 _ | refine hsub_hset ?_ (by first | rfl | simp [hset]))) (by repeat (first | exact ids_env0 _ | refine ids_upd ?_ (by simp [idsOk, idsOkL, hset]))) (by repeat (first | exact boxIds0 _ | refine boxIds_row ?_ | refine boxIds_shut ?_ | refine boxIds_box ?_ (by simp [idsOk, idsOkL, hset]))) (by repeat (first | exact keep0 _ | refine keep_low (by decide) ?_ | refine keep_high (by simp [hset]) ?_))) ?_
    rintro x ⟨hx, hq⟩
    simp -implicitDefEqProofs only [go_sem, reduceEqDiff, reduceLT, reduceLeDiff, reduceMul, reduceAdd, reduceIte, reduceCtorEq, Nat.reduceBEq, reduceSub, Int.reduceToNat]
    refine condC_split (fun hc => ?_) (fun hc => ?_)
    · have hlt : x < l.length := by simpa using hc
      
      simp -implicitDefEqProofs only [go_sem, reduceEqDiff, reduceLT, reduceLeDiff, reduceMul, reduceAdd, reduceIte, reduceCtorEq, Nat.reduceBEq, reduceSub, Int.reduceToNat, getD_map encS hlt, hlt, encS]
      refine call_go (isName_ok (l.getD x default) (Nat.le_trans (hw _ (getD_mem hlt)) (by decide))) (by simp -implicitDefEqProofs only [go_sem, reduceEqDiff, reduceLT, reduceLeDiff, reduceMul, reduceAdd, reduceIte, reduceCtorEq, Nat.reduceBEq, reduceSub, Int.reduceToNat, getD_map encS hlt, hlt, encS] <;> rfl) (scal rfl) ?_
      simp -implicitDefEqProofs only [go_sem, reduceEqDiff, reduceLT, reduceLeDiff, reduceMul, reduceAdd, reduceIte, reduceCtorEq, Nat.reduceBEq, reduceSub, Int.reduceToNat, getD_map encS hlt, hlt, encS]
      refine condC_splitN (fun h1 => ?_) (fun h1 => ?_) <;> simp -implicitDefEqProofs only [go_sem, reduceEqDiff, reduceLT, reduceLeDiff, reduceMul, reduceAdd, reduceIte, reduceCtorEq, Nat.reduceBEq, reduceSub, Int.reduceToNat, getD_map encS hlt, hlt, encS]
      · refine ⟨⟨⟨by omega, by omega⟩, fun x hx => by obtain ⟨a, _, rfl⟩ := List.mem_map.1 hx; rfl⟩, ?_⟩
        refine call_go (has_str (l.take x) (l.getD x default) (by simp; omega)) (by simp -implicitDefEqProofs only [go_sem, reduceEqDiff, reduceLT, reduceLeDiff, reduceMul, reduceAdd, reduceIte, reduceCtorEq, Nat.reduceBEq, reduceSub, Int.reduceToNat, getD_map encS hlt, hlt, encS] <;> rfl) (scal rfl) ?_
        simp -implicitDefEqProofs only [go_sem, reduceEqDiff, reduceLT, reduceLeDiff, reduceMul, reduceAdd, reduceIte, reduceCtorEq, Nat.reduceBEq, reduceSub, Int.reduceToNat, getD_map encS hlt, hlt, encS]
        refine condC_split (fun h2 => ?_) (fun h2 => ?_) <;> simp -implicitDefEqProofs only [go_sem, reduceEqDiff, reduceLT, reduceLeDiff, reduceMul, reduceAdd, reduceIte, reduceCtorEq, Nat.reduceBEq, reduceSub, Int.reduceToNat, getD_map encS hlt, hlt, encS]
        · have : nameE l x = 5 := by unfold nameE; rw [if_neg (by rw [h1]; decide), if_pos h2]
          rw [firstE_at0 hlt hq (by rw [this]; decide), this]
        · have : nameE l x = 0 := by unfold nameE; rw [if_neg (by rw [h1]; decide), if_neg (by rw [h2]; decide)]
          exact loopN_mk (x + 1) ⟨hlt, all_succ hq this⟩ (by omega) (by rw [wrap_succ hlt (by omega)]; exact (weak_mk (by repeat (first | exact sub_env0 _ | refine sub_upd ?_ (by first | rfl | simp [upd]))) (by repeat (first | exact hsub0 _ | refine hsub_hset ?_ (by first | rfl | simp [hset]))) (by repeat (first | exact ids_env0 _ | refine ids_upd ?_ (by simp [idsOk, idsOkL, hset]))) (by repeat (first | exact boxIds0 _ | refine boxIds_row ?_ | refine boxIds_shut ?_ | refine boxIds_box ?_ (by simp [idsOk, idsOkL, hset]))) (by repeat (first | exact keep0 _ | refine keep_low (by decide) ?_ | refine keep_high (by simp [hset]) ?_))))
      · have : nameE l x = 2 := by unfold nameE; rw [if_pos h1]
        rw [firstE_at0 hlt hq (by rw [this]; decide), this]
    · have hge : l.length ≤ x := by simpa using hc
      simp -implicitDefEqProofs only [go_sem, reduceEqDiff, reduceLT, reduceLeDiff, reduceMul, reduceAdd, reduceIte, reduceCtorEq, Nat.reduceBEq, reduceSub, Int.reduceToNat]
      rw [firstE_none0 fun j hj => hq j (by omega)]
end Go.Proofs.YtdlohnchnneaeaaGreat
/- Package types: errors of attributes. -/
namespace Go.Proofs.YtdlohnchnneaeaaGreat
open Go.Abs

theorem attribute1_ok (x y : Attr) : CallV Go.Proofs.Tryz.prog 144 [.agg (encAttr y), .eptr (encAttr x) 0] (fun r => r = .val (.bool (decide (y.name = x.name)))) := by
  refine callV_of_cw [] Ty.mixed Go.Proofs.Tryz.func144 rfl (by kernel_rfl) (by simp [Go.Proofs.Tryz.ntmps144]) ?_; rw [Go.Proofs.Tryz.ntmps144, Go.Proofs.Tryz.results144]
  simp -implicitDefEqProofs only [go_sem, reduceEqDiff, reduceLT, reduceLeDiff, reduceMul, reduceAdd, reduceIte, reduceCtorEq, Nat.reduceBEq, reduceSub, Int.reduceToNat, encAttr, encStrs]
theorem node1_ok (x y : NodeT) : CallV Go.Proofs.Tryz.prog 120 [.agg (encNode y), .eptr (encNode x) 0] (fun r => r = .val (.bool (decide (y.name = x.name)))) := by
  refine callV_of_cw [] Ty.mixed Go.Proofs.Tryz.func120 rfl (by kernel_rfl) (by simp [Go.Proofs.Tryz.ntmps120]) ?_; rw [Go.Proofs.Tryz.ntmps120, Go.Proofs.Tryz.results120]
  simp -implicitDefEqProofs only [go_sem, reduceEqDiff, reduceLT, reduceLeDiff, reduceMul, reduceAdd, reduceIte, reduceCtorEq, Nat.reduceBEq, reduceSub, Int.reduceToNat, encNode, encStrs]
theorem edge2_ok (x y : EdgeT) : CallV Go.Proofs.Tryz.prog 125 [.agg (encEdgeT y), .eptr (encEdgeT x) 0] (fun r => r = .val (.bool (decide (y.name = x.name)))) := by
  refine callV_of_cw [] Ty.mixed Go.Proofs.Tryz.func125 rfl (by kernel_rfl) (by simp [Go.Proofs.Tryz.ntmps125]) ?_; rw [Go.Proofs.Tryz.ntmps125, Go.Proofs.Tryz.results125]
  simp -implicitDefEqProofs only [go_sem, reduceEqDiff, reduceLT, reduceLeDiff, reduceMul, reduceAdd, reduceIte, reduceCtorEq, Nat.reduceBEq, reduceSub, Int.reduceToNat, encEdgeT, encStrs]

structure FewA (x : Attr) : Prop where
  name : x.name.size ≤ 40
  names : x.names.length ≤ 25
  word : ∀ s ∈ x.names, s.size ≤ 40

def rangeB (x : Attr) : Bool := if 0 < x.names.length then decide (x.low = 0) && decide (x.high = (x.names.length : Int) - 1) else (decide (-1000000 ≤ x.low) && decide (x.low ≤ x.high)) && decide (x.high ≤ 1000000)
theorem rangeB_iff (x : Attr) : rangeB x = true ↔ (0 < x.names.length ∧ x.low = 0 ∧ x.high = (x.names.length : Int) - 1) ∨ (x.names.length = 0 ∧ -1000000 ≤ x.low ∧ x.low ≤ x.high ∧ x.high ≤ 1000000) := by
  unfold rangeB
  split
  · simp only [Bool.and_eq_true, decide_eq_true_eq]; omega
  · simp only [Bool.and_eq_true, decide_eq_true_eq]; omega
def attrE (x : Attr) : Int := if namesE x.names ≠ 0 then namesE x.names else if rangeB x = true then 0 else 6
def attrX (before : List Attr) (x : Attr) : Int := if nameB x.name = false then 2 else if before.any (fun y => decide (y.name = x.name)) = true then 5 else attrE x

theorem attribute_ok (x : Attr) (before : List Attr) (hx : FewA x) (hb : before.length ≤ 10000) : CallV Go.Proofs.Tryz.prog 122 [.agg (encAttr x), .lst (before.map encAttr)] (fun r => r = .val (.int .i64 (attrX before x))) := by
  have hn := hx.names
  refine callV_of_cw [] Ty.mixed Go.Proofs.Tryz.func122 rfl (by kernel_rfl) (by simp [Go.Proofs.Tryz.ntmps122]) ?_; rw [Go.Proofs.Tryz.ntmps122, Go.Proofs.Tryz.results122]
  
  simp -implicitDefEqProofs only [go_sem, reduceEqDiff, reduceLT, reduceLeDiff, reduceMul, reduceAdd, reduceIte, reduceCtorEq, Nat.reduceBEq, reduceSub, Int.reduceToNat, encAttr, encStrs]
  refine call_go (isName_ok x.name (Nat.le_trans hx.name (by decide))) (by simp -implicitDefEqProofs only [go_sem, reduceEqDiff, reduceLT, reduceLeDiff, reduceMul, reduceAdd, reduceIte, reduceCtorEq, Nat.reduceBEq, reduceSub, Int.reduceToNat, encAttr, encStrs] <;> rfl) (scal rfl) ?_
  simp -implicitDefEqProofs only [go_sem, reduceEqDiff, reduceLT, reduceLeDiff, reduceMul, reduceAdd, reduceIte, reduceCtorEq, Nat.reduceBEq, reduceSub, Int.reduceToNat, encAttr, encStrs]
  refine condC_splitN (fun h1 => ?_) (fun h1 => ?_) <;> simp -implicitDefEqProofs only [go_sem, reduceEqDiff, reduceLT, reduceLeDiff, reduceMul, reduceAdd, reduceIte, reduceCtorEq, Nat.reduceBEq, reduceSub, Int.reduceToNat, encAttr, encStrs]
  · refine call_go (contains_attr (fun y => decide (y.name = x.name)) before (by omega) _ [] [.eptr (encAttr x) 0] (fun y _ => attribute1_ok x y)) (by simp -implicitDefEqProofs only [go_sem, reduceEqDiff, reduceLT, reduceLeDiff, reduceMul, reduceAdd, reduceIte, reduceCtorEq, Nat.reduceBEq, reduceSub, Int.reduceToNat, encAttr, encStrs] <;> rfl) (scal rfl) ?_
    simp -implicitDefEqProofs only [go_sem, reduceEqDiff, reduceLT, reduceLeDiff, reduceMul, reduceAdd, reduceIte, reduceCtorEq, Nat.reduceBEq, reduceSub, Int.reduceToNat, encAttr, encStrs]
    refine condC_split (fun h2 => ?_) (fun h2 => ?_) <;> simp -implicitDefEqProofs only [go_sem, reduceEqDiff, reduceLT, reduceLeDiff, reduceMul, reduceAdd, reduceIte, reduceCtorEq, Nat.reduceBEq, reduceSub, Int.reduceToNat, encAttr, encStrs]
    · unfold attrX; rw [if_neg (by rw [h1]; decide), if_pos h2]
    · have e : attrX before x = attrE x := by unfold attrX; rw [if_neg (by rw [h1]; decide), if_neg (by rw [h2]; decide)]
      rw [e]
      refine call_go (names_ok x.names hx.names hx.word) (by simp -implicitDefEqProofs only [go_sem, reduceEqDiff, reduceLT, reduceLeDiff, reduceMul, reduceAdd, reduceIte, reduceCtorEq, Nat.reduceBEq, reduceSub, Int.reduceToNat, encAttr, encStrs] <;> rfl) (scal rfl) ?_
      simp -implicitDefEqProofs only [go_sem, reduceEqDiff, reduceLT, reduceLeDiff, reduceMul, reduceAdd, reduceIte, reduceCtorEq, Nat.reduceBEq, reduceSub, Int.reduceToNat, encAttr, encStrs]
      refine condC_splitN (fun h3 => ?_) (fun h3 => ?_) <;> simp -implicitDefEqProofs only [go_sem, reduceEqDiff, reduceLT, reduceLeDiff, reduceMul, reduceAdd, reduceIte, reduceCtorEq, Nat.reduceBEq, reduceSub, Int.reduceToNat, encAttr, encStrs]
      · have h3' := of_decide_eq_true h3
        have e2 : attrE x = if rangeB x = true then 0 else 6 := by unfold attrE; rw [if_neg (by rw [h3']; decide)]
        rw [e2]
        have hw : IntKind.i64.wrap ((x.names.length : Int) - 1) = (x.names.length : Int) - 1 := IntWalk.i64_in _ (by omega)
        repeat' first | done | (refine walkG_splitN (fun h => ?_) (fun h => ?_) <;> try simp -implicitDefEqProofs only [go_sem, reduceEqDiff, reduceLT, reduceLeDiff, reduceMul, reduceAdd, reduceIte, reduceCtorEq, Nat.reduceBEq, reduceSub, Int.reduceToNat, h, hw, encAttr, encStrs]) | (refine walkG_split (fun h => ?_) (fun h => ?_) <;> try simp -implicitDefEqProofs only [go_sem, reduceEqDiff, reduceLT, reduceLeDiff, reduceMul, reduceAdd, reduceIte, reduceCtorEq, Nat.reduceBEq, reduceSub, Int.reduceToNat, h, hw, encAttr, encStrs]) | (refine condC_splitN (fun h => ?_) (fun h => ?_) <;> try simp -implicitDefEqProofs only [go_sem, reduceEqDiff, reduceLT, reduceLeDiff, reduceMul, reduceAdd, reduceIte, reduceCtorEq, Nat.reduceBEq, reduceSub, Int.reduceToNat, h, hw, encAttr, encStrs]) | (refine condC_split (fun h => ?_) (fun h => ?_) <;> try simp -implicitDefEqProofs only [go_sem, reduceEqDiff, reduceLT, reduceLeDiff, reduceMul, reduceAdd, reduceIte, reduceCtorEq, Nat.reduceBEq, reduceSub, Int.reduceToNat, h, hw, encAttr, encStrs])
        all_goals
          simp only [Bool.not_eq_true', Bool.not_eq_false', decide_eq_true_eq, decide_eq_false_iff_not, Decidable.not_not] at *
          split <;> rename_i hr <;> rw [rangeB_iff] at hr <;> omega
      · have h3' := of_decide_eq_false h3
        unfold attrE; rw [if_pos h3']
  · unfold attrX; rw [if_pos h1]
theorem FewT.fewA {t : Types} (hf : FewT t) {a : Nat} (ha : a < t.nodes.length) (hp : ParOk t (a + 1)) {x : Attr} (hx : x ∈ attrsAt t a) : FewA x := by
  obtain ⟨n, hn, h⟩ := attrsK_mem hf _ a ha hp x hx
  exact ⟨hf.aname n hn x h, hf.names n hn x h, hf.word n hn x h⟩

def nodeE (t : Types) (i : Nat) : Int :=
  if nameB (t.nodes.getD i default).name = false then 2
  else if (t.nodes.take i).any (fun y => decide (y.name = (t.nodes.getD i default).name)) = true then 5
  else if ¬ (-1 ≤ (t.nodes.getD i default).parent ∧ (t.nodes.getD i default).parent < i) then 6
  else if 4 < (t.nodes.getD i default).attrs.length then 3
  else if 8 < (attrsAt t i).length then 3
  else firstE (fun k => attrX ((attrsAt t i).take k) ((attrsAt t i).getD k default)) ((attrsAt t i).length - (t.nodes.getD i default).attrs.length) (attrsAt t i).length

theorem nodeE_par {t : Types} {i : Nat} (h : nodeE t i = 0) : -1 ≤ (t.nodes.getD i default).parent ∧ (t.nodes.getD i default).parent < i := by
  unfold nodeE at h
  split at h
  · cases h
  · split at h
    · cases h
    · split at h
      · cases h
      · rename_i h1; exact Decidable.of_not_not h1

theorem node_ok (t : Types) (hf : FewT t) (i : Nat) (hi : i < t.nodes.length) (hp : ParOk t i) : CallV Go.Proofs.Tryz.prog 94 [encTypes t, .val (.int .i64 i)] (fun r => r = .val (.int .i64 (nodeE t i))) := by
  have hn := hf.nodes
  have hl1 := hf.attrs _ (getD_mem hi)
  refine callV_of_cw [] Ty.mixed Go.Proofs.Tryz.func94 rfl (by kernel_rfl) (by simp [Go.Proofs.Tryz.ntmps94]) ?_; rw [Go.Proofs.Tryz.ntmps94, Go.Proofs.Tryz.results94]
  
  simp -implicitDefEqProofs only [go_sem, reduceEqDiff, reduceLT, reduceLeDiff, reduceMul, reduceAdd, reduceIte, reduceCtorEq, Nat.reduceBEq, reduceSub, Int.reduceToNat, encTypes, getD_map encNode hi, hi, encNode]
  refine call_go (isName_ok (t.nodes.getD i default).name (Nat.le_trans (hf.name _ (getD_mem hi)) (by decide))) (by simp -implicitDefEqProofs only [go_sem, reduceEqDiff, reduceLT, reduceLeDiff, reduceMul, reduceAdd, reduceIte, reduceCtorEq, Nat.reduceBEq, reduceSub, Int.reduceToNat, encTypes, getD_map encNode hi, hi, encNode] <;> rfl) (scal rfl) ?_
  simp -implicitDefEqProofs only [go_sem, reduceEqDiff, reduceLT, reduceLeDiff, reduceMul, reduceAdd, reduceIte, reduceCtorEq, Nat.reduceBEq, reduceSub, Int.reduceToNat, encTypes, getD_map encNode hi, hi, encNode]
  refine condC_splitN (fun h1 => ?_) (fun h1 => ?_) <;> simp -implicitDefEqProofs only [go_sem, reduceEqDiff, reduceLT, reduceLeDiff, reduceMul, reduceAdd, reduceIte, reduceCtorEq, Nat.reduceBEq, reduceSub, Int.reduceToNat, encTypes, getD_map encNode hi, hi, encNode]
  · refine ⟨⟨⟨by omega, by omega⟩, fun x hx => by obtain ⟨a, _, rfl⟩ := List.mem_map.1 hx; rfl⟩, ?_⟩
    refine call_go (contains_node (fun y => decide (y.name = (t.nodes.getD i default).name)) (t.nodes.take i) (by simp; omega) _ [] [.eptr (encNode (t.nodes.getD i default)) 0] (fun y _ => node1_ok _ y)) (by simp -implicitDefEqProofs only [go_sem, reduceEqDiff, reduceLT, reduceLeDiff, reduceMul, reduceAdd, reduceIte, reduceCtorEq, Nat.reduceBEq, reduceSub, Int.reduceToNat, encTypes, getD_map encNode hi, hi, encNode] <;> rfl) (scal rfl) ?_
    simp -implicitDefEqProofs only [go_sem, reduceEqDiff, reduceLT, reduceLeDiff, reduceMul, reduceAdd, reduceIte, reduceCtorEq, Nat.reduceBEq, reduceSub, Int.reduceToNat, encTypes, getD_map encNode hi, hi, encNode]
    refine condC_split (fun h2 => ?_) (fun h2 => ?_) <;> simp -implicitDefEqProofs only [go_sem, reduceEqDiff, reduceLT, reduceLeDiff, reduceMul, reduceAdd, reduceIte, reduceCtorEq, Nat.reduceBEq, reduceSub, Int.reduceToNat, encTypes, getD_map encNode hi, hi, encNode]
    · unfold nodeE; rw [if_neg (by rw [h1]; decide), if_pos h2]
    · have e1 : nodeE t i = if ¬ (-1 ≤ (t.nodes.getD i default).parent ∧ (t.nodes.getD i default).parent < i) then 6
          else if 4 < (t.nodes.getD i default).attrs.length then 3 else if 8 < (attrsAt t i).length then 3
          else firstE (fun k => attrX ((attrsAt t i).take k) ((attrsAt t i).getD k default)) ((attrsAt t i).length - (t.nodes.getD i default).attrs.length) (attrsAt t i).length := by
        unfold nodeE; rw [if_neg (by rw [h1]; decide), if_neg (by rw [h2]; decide)]
      rw [e1]
      clear e1
      refine walkG_splitN (fun h3 => ?_) (fun h3 => ?_) <;> simp -implicitDefEqProofs only [go_sem, reduceEqDiff, reduceLT, reduceLeDiff, reduceMul, reduceAdd, reduceIte, reduceCtorEq, Nat.reduceBEq, reduceSub, Int.reduceToNat, h3, encTypes, getD_map encNode hi, hi, encNode]
      · have h3' := of_decide_eq_true h3
        rw [if_pos (by omega)]
      · have h3' := of_decide_eq_false h3
        refine condC_split (fun h4 => ?_) (fun h4 => ?_) <;> simp -implicitDefEqProofs only [go_sem, reduceEqDiff, reduceLT, reduceLeDiff, reduceMul, reduceAdd, reduceIte, reduceCtorEq, Nat.reduceBEq, reduceSub, Int.reduceToNat, encTypes, getD_map encNode hi, hi, encNode]
        · have h4' := of_decide_eq_true h4
          rw [if_pos (by omega)]
        · have h4' := of_decide_eq_false h4
          rw [if_neg (by omega)]
          refine condC_split (fun h5 => ?_) (fun h5 => ?_) <;> simp -implicitDefEqProofs only [go_sem, reduceEqDiff, reduceLT, reduceLeDiff, reduceMul, reduceAdd, reduceIte, reduceCtorEq, Nat.reduceBEq, reduceSub, Int.reduceToNat, encTypes, getD_map encNode hi, hi, encNode]
          · have h5' := of_decide_eq_true h5
            rw [if_pos (by omega)]
          · have h5' := of_decide_eq_false h5
            rw [if_neg (by omega)]
            have hp' : ParOk t (i + 1) := fun j hj => by
              rcases Nat.lt_succ_iff_lt_or_eq.1 hj with h | h
              · exact hp j h
              · subst h; omega
            have hlen := attrsAt_len hf hi hp'
            have hat : (t.nodes.getD i default).attrs.length ≤ (attrsAt t i).length := by
              rw [attrsAt_eq hp', List.length_append]; omega
            generalize hs : (attrsAt t i).length - (t.nodes.getD i default).attrs.length = s
            have hw : IntKind.i64.wrap (((attrsAt t i).length : Int) - ((t.nodes.getD i default).attrs.length : Int)) = s := by rw [IntWalk.i64_in _ (by omega)]; omega
            refine call_go ((attrs_ok t hf i hi hp').toL) (by simp -implicitDefEqProofs only [go_sem, reduceEqDiff, reduceLT, reduceLeDiff, reduceMul, reduceAdd, reduceIte, reduceCtorEq, Nat.reduceBEq, reduceSub, Int.reduceToNat, encTypes, getD_map encNode hi, hi, encNode] <;> rfl) (pers) ?_
            simp -implicitDefEqProofs only [go_sem, reduceEqDiff, reduceLT, reduceLeDiff, reduceMul, reduceAdd, reduceIte, reduceCtorEq, Nat.reduceBEq, reduceSub, Int.reduceToNat, encTypes, getD_map encNode hi, hi, encNode]
            refine condC_split (fun h6 => ?_) (fun h6 => ?_) <;> simp -implicitDefEqProofs only [go_sem, reduceEqDiff, reduceLT, reduceLeDiff, reduceMul, reduceAdd, reduceIte, reduceCtorEq, Nat.reduceBEq, reduceSub, Int.reduceToNat, encTypes, getD_map encNode hi, hi, encNode]
            · have h6' := of_decide_eq_true h6
              rw [if_pos (by omega)]
            · have h6' := of_decide_eq_false h6
              rw [if_neg (by omega), hw]
              generalize hf' : (fun k => attrX ((attrsAt t i).take k) ((attrsAt t i).getD k default)) = f
              refine loop_rule (σ := Nat) (fun x => (upd (upd (upd (upd (upd env0 1 (.p (.val (.int .i64 i)))) 2 (.ptr 2 0)) 5 (.ptr 5 0)) 6 (.p (.lst ((attrsAt t i).map encAttr)))) 7 (.p (.val (.int .i64 x)))))
                (fun x => (hset (hset heap0 2 (.box [.p (.lst (t.nodes.map encNode)), .p (.lst (t.edges.map encEdgeT))])) 5 (.box [.p (.val (.string (t.nodes.getD i default).name)), .p (.val (.int .i64 (t.nodes.getD i default).parent)), .p (.val (.bool (t.nodes.getD i default).abs)), .p (.lst ((t.nodes.getD i default).attrs.map encAttr))])))
                (fun x => (s ≤ x ∧ x ≤ (attrsAt t i).length) ∧ ∀ j, s ≤ j → j < x → f j = 0) (fun x => (attrsAt t i).length - x) s ⟨⟨Nat.le_refl _, by omega⟩, fun j hj hj' => absurd hj' (by omega)⟩ (weak_mk (by repeat (first | exact sub_env0 _ | refine sub_upd ?_ (by first | rfl | simp [upd]))) (by repeat (first | exact hsub0 _ | refine hsub_hset ?_ (by first | rfl | simp [hset]))) (by repeat (first | exact ids_env0 _ | refine ids_upd ?_ (by simp [idsOk, idsOkL, hset]))) (by repeat (first | exact boxIds0 _ | refine boxIds_row ?_ | refine boxIds_shut ?_ | refine boxIds_box ?_ (by simp [idsOk, idsOkL, hset]))) (by repeat (first | exact keep0 _ | refine keep_low (by decide) ?_ | refine keep_high (by simp [hset]) ?_))) ?_
              rintro x ⟨⟨hsx, hx⟩, hq⟩
              simp -implicitDefEqProofs only [go_sem, reduceEqDiff, reduceLT, reduceLeDiff, reduceMul, reduceAdd, reduceIte, reduceCtorEq, Nat.reduceBEq, reduceSub, Int.reduceToNat, encTypes, getD_map encNode hi, hi, encNode]
              refine condC_split (fun hc => ?_) (fun hc => ?_)
              · have hlt : x < (attrsAt t i).length := by have := of_decide_eq_true hc; omega
                
                simp -implicitDefEqProofs only [go_sem, reduceEqDiff, reduceLT, reduceLeDiff, reduceMul, reduceAdd, reduceIte, reduceCtorEq, Nat.reduceBEq, reduceSub, Int.reduceToNat, encTypes, getD_map encNode hi, hi, encNode, getD_map encAttr hlt, hlt, encAttr]
                refine draw_txt [.q, .q, .q, .q, .q, .q, .q, .q, .q] (by kernel_rfl) ?_
                simp -implicitDefEqProofs only [go_sem, reduceEqDiff, reduceLT, reduceLeDiff, reduceMul, reduceAdd, reduceIte, reduceCtorEq, Nat.reduceBEq, reduceSub, Int.reduceToNat, encTypes, getD_map encNode hi, hi, encNode, getD_map encAttr hlt, hlt, encAttr]
                refine ⟨⟨⟨by omega, by omega⟩, enc_len4 _⟩, ?_⟩
                refine calld_go (attribute_ok ((attrsAt t i).getD x default) ((attrsAt t i).take x) (hf.fewA hi hp' (getD_mem hlt)) (by simp; omega)) (by simp -implicitDefEqProofs only [go_sem, reduceEqDiff, reduceLT, reduceLeDiff, reduceMul, reduceAdd, reduceIte, reduceCtorEq, Nat.reduceBEq, reduceSub, Int.reduceToNat, encTypes, getD_map encNode hi, hi, encNode, getD_map encAttr hlt, hlt, encAttr] <;> rfl) (scal rfl) ?_
                simp -implicitDefEqProofs only [go_sem, reduceEqDiff, reduceLT, reduceLeDiff, reduceMul, reduceAdd, reduceIte, reduceCtorEq, Nat.reduceBEq, reduceSub, Int.reduceToNat, encTypes, getD_map encNode hi, hi, encNode, getD_map encAttr hlt, hlt, encAttr]
                have e : f x = attrX ((attrsAt t i).take x) ((attrsAt t i).getD x default) := by rw [← hf']
                rw [← e]
                refine condC_splitN (fun h7 => ?_) (fun h7 => ?_) <;> simp -implicitDefEqProofs only [go_sem, reduceEqDiff, reduceLT, reduceLeDiff, reduceMul, reduceAdd, reduceIte, reduceCtorEq, Nat.reduceBEq, reduceSub, Int.reduceToNat, encTypes, getD_map encNode hi, hi, encNode, getD_map encAttr hlt, hlt, encAttr]
                · have h7' := of_decide_eq_true h7
                  exact loopN_mk (x + 1) ⟨⟨by omega, hlt⟩, fun j hj hj' => by
                    rcases Nat.lt_succ_iff_lt_or_eq.1 hj' with h | h
                    · exact hq j hj h
                    · rw [h]; exact h7'⟩ (by omega) (by rw [wrap_succ hlt (by omega)]; exact (weak_mk (by repeat (first | exact sub_env0 _ | refine sub_upd ?_ (by first | rfl | simp [upd]))) (by repeat (first | exact hsub0 _ | refine hsub_hset ?_ (by first | rfl | simp [hset]))) (by repeat (first | exact ids_env0 _ | refine ids_upd ?_ (by simp [idsOk, idsOkL, hset]))) (by repeat (first | exact boxIds0 _ | refine boxIds_row ?_ | refine boxIds_shut ?_ | refine boxIds_box ?_ (by simp [idsOk, idsOkL, hset]))) (by repeat (first | exact keep0 _ | refine keep_low (by decide) ?_ | refine keep_high (by simp [hset]) ?_))))
                · have h7' := of_decide_eq_false h7
                  rw [firstE_at hsx hlt hq h7']
              · have hge : (attrsAt t i).length ≤ x := by have := of_decide_eq_false hc; omega
                simp -implicitDefEqProofs only [go_sem, reduceEqDiff, reduceLT, reduceLeDiff, reduceMul, reduceAdd, reduceIte, reduceCtorEq, Nat.reduceBEq, reduceSub, Int.reduceToNat, encTypes, getD_map encNode hi, hi, encNode]
                rw [firstE_none fun j hj hj' => hq j hj (by omega)]
  · unfold nodeE; rw [if_pos h1]
end Go.Proofs.YtdlohnchnneaeaaGreat
/- Package types: errors of edges, and of type graphs. -/
namespace Go.Proofs.YtdlohnchnneaeaaGreat
open Go.Abs

def inB (t : Types) (n : Int) : Bool := decide (0 ≤ n) && decide (n < t.nodes.length)
theorem inside_ok (t : Types) (n : Int) : CallV Go.Proofs.Tryz.prog 123 [.val (.int .i64 n), .eptr [.lst (t.nodes.map encNode), .lst (t.edges.map encEdgeT)] 0] (fun r => r = .val (.bool (inB t n))) := by
  unfold inB
  refine callV_of_cw [] Ty.mixed Go.Proofs.Tryz.func123 rfl (by kernel_rfl) (by simp [Go.Proofs.Tryz.ntmps123]) ?_; rw [Go.Proofs.Tryz.ntmps123, Go.Proofs.Tryz.results123]
  simp -implicitDefEqProofs only [go_sem, reduceEqDiff, reduceLT, reduceLeDiff, reduceMul, reduceAdd, reduceIte, reduceCtorEq, Nat.reduceBEq, reduceSub, Int.reduceToNat]
  repeat' first | done | (refine walkG_splitN (fun h => ?_) (fun h => ?_) <;> try simp -implicitDefEqProofs only [go_sem, reduceEqDiff, reduceLT, reduceLeDiff, reduceMul, reduceAdd, reduceIte, reduceCtorEq, Nat.reduceBEq, reduceSub, Int.reduceToNat, h]) | (refine walkG_split (fun h => ?_) (fun h => ?_) <;> try simp -implicitDefEqProofs only [go_sem, reduceEqDiff, reduceLT, reduceLeDiff, reduceMul, reduceAdd, reduceIte, reduceCtorEq, Nat.reduceBEq, reduceSub, Int.reduceToNat, h]) | (refine condC_splitN (fun h => ?_) (fun h => ?_) <;> try simp -implicitDefEqProofs only [go_sem, reduceEqDiff, reduceLT, reduceLeDiff, reduceMul, reduceAdd, reduceIte, reduceCtorEq, Nat.reduceBEq, reduceSub, Int.reduceToNat, h]) | (refine condC_split (fun h => ?_) (fun h => ?_) <;> try simp -implicitDefEqProofs only [go_sem, reduceEqDiff, reduceLT, reduceLeDiff, reduceMul, reduceAdd, reduceIte, reduceCtorEq, Nat.reduceBEq, reduceSub, Int.reduceToNat, h])

def edgeE (t : Types) (i : Nat) : Int :=
  if nameB (t.edges.getD i default).name = false then 2
  else if (t.edges.take i).any (fun y => decide (y.name = (t.edges.getD i default).name)) = true then 5
  else if ((inB t (t.edges.getD i default).src && inB t (t.edges.getD i default).dst) && (boundB (t.edges.getD i default).outLow (t.edges.getD i default).outHigh && boundB (t.edges.getD i default).inLow (t.edges.getD i default).inHigh)) = true then 0 else 6

theorem edge_ok (t : Types) (hf : FewT t) (i : Nat) (hi : i < t.edges.length) : CallV Go.Proofs.Tryz.prog 95 [encTypes t, .val (.int .i64 i)] (fun r => r = .val (.int .i64 (edgeE t i))) := by
  have hn := hf.edges
  refine callV_of_cw [] Ty.mixed Go.Proofs.Tryz.func95 rfl (by kernel_rfl) (by simp [Go.Proofs.Tryz.ntmps95]) ?_; rw [Go.Proofs.Tryz.ntmps95, Go.Proofs.Tryz.results95]
  
  simp -implicitDefEqProofs only [go_sem, reduceEqDiff, reduceLT, reduceLeDiff, reduceMul, reduceAdd, reduceIte, reduceCtorEq, Nat.reduceBEq, reduceSub, Int.reduceToNat, encTypes, getD_map encEdgeT hi, hi, encEdgeT]
  refine call_go (isName_ok (t.edges.getD i default).name (Nat.le_trans (hf.ename _ (getD_mem hi)) (by decide))) (by simp -implicitDefEqProofs only [go_sem, reduceEqDiff, reduceLT, reduceLeDiff, reduceMul, reduceAdd, reduceIte, reduceCtorEq, Nat.reduceBEq, reduceSub, Int.reduceToNat, encTypes, getD_map encEdgeT hi, hi, encEdgeT] <;> rfl) (scal rfl) ?_
  simp -implicitDefEqProofs only [go_sem, reduceEqDiff, reduceLT, reduceLeDiff, reduceMul, reduceAdd, reduceIte, reduceCtorEq, Nat.reduceBEq, reduceSub, Int.reduceToNat, encTypes, getD_map encEdgeT hi, hi, encEdgeT]
  refine condC_splitN (fun h1 => ?_) (fun h1 => ?_) <;> simp -implicitDefEqProofs only [go_sem, reduceEqDiff, reduceLT, reduceLeDiff, reduceMul, reduceAdd, reduceIte, reduceCtorEq, Nat.reduceBEq, reduceSub, Int.reduceToNat, encTypes, getD_map encEdgeT hi, hi, encEdgeT]
  · refine ⟨⟨⟨by omega, by omega⟩, fun x hx => by obtain ⟨a, _, rfl⟩ := List.mem_map.1 hx; rfl⟩, ?_⟩
    refine call_go (contains_edget (fun y => decide (y.name = (t.edges.getD i default).name)) (t.edges.take i) (by simp; omega) _ [] [.eptr (encEdgeT (t.edges.getD i default)) 0] (fun y _ => edge2_ok _ y)) (by simp -implicitDefEqProofs only [go_sem, reduceEqDiff, reduceLT, reduceLeDiff, reduceMul, reduceAdd, reduceIte, reduceCtorEq, Nat.reduceBEq, reduceSub, Int.reduceToNat, encTypes, getD_map encEdgeT hi, hi, encEdgeT] <;> rfl) (scal rfl) ?_
    simp -implicitDefEqProofs only [go_sem, reduceEqDiff, reduceLT, reduceLeDiff, reduceMul, reduceAdd, reduceIte, reduceCtorEq, Nat.reduceBEq, reduceSub, Int.reduceToNat, encTypes, getD_map encEdgeT hi, hi, encEdgeT]
    refine condC_split (fun h2 => ?_) (fun h2 => ?_) <;> simp -implicitDefEqProofs only [go_sem, reduceEqDiff, reduceLT, reduceLeDiff, reduceMul, reduceAdd, reduceIte, reduceCtorEq, Nat.reduceBEq, reduceSub, Int.reduceToNat, encTypes, getD_map encEdgeT hi, hi, encEdgeT]
    · unfold edgeE; rw [if_neg (by rw [h1]; decide), if_pos h2]
    · have e1 : edgeE t i = if ((inB t (t.edges.getD i default).src && inB t (t.edges.getD i default).dst) && (boundB (t.edges.getD i default).outLow (t.edges.getD i default).outHigh && boundB (t.edges.getD i default).inLow (t.edges.getD i default).inHigh)) = true then 0 else 6 := by
        unfold edgeE; rw [if_neg (by rw [h1]; decide), if_neg (by rw [h2]; decide)]
      rw [e1]
      clear e1
      refine call_go (inside_ok t (t.edges.getD i default).src) (by simp -implicitDefEqProofs only [go_sem, reduceEqDiff, reduceLT, reduceLeDiff, reduceMul, reduceAdd, reduceIte, reduceCtorEq, Nat.reduceBEq, reduceSub, Int.reduceToNat, encTypes, getD_map encEdgeT hi, hi, encEdgeT] <;> rfl) (scal rfl) ?_
      simp -implicitDefEqProofs only [go_sem, reduceEqDiff, reduceLT, reduceLeDiff, reduceMul, reduceAdd, reduceIte, reduceCtorEq, Nat.reduceBEq, reduceSub, Int.reduceToNat, encTypes, getD_map encEdgeT hi, hi, encEdgeT]
      refine walkG_split (fun h3 => ?_) (fun h3 => ?_) <;> simp -implicitDefEqProofs only [go_sem, reduceEqDiff, reduceLT, reduceLeDiff, reduceMul, reduceAdd, reduceIte, reduceCtorEq, Nat.reduceBEq, reduceSub, Int.reduceToNat, h3, encTypes, getD_map encEdgeT hi, hi, encEdgeT]
      refine call_go (inside_ok t (t.edges.getD i default).dst) (by simp -implicitDefEqProofs only [go_sem, reduceEqDiff, reduceLT, reduceLeDiff, reduceMul, reduceAdd, reduceIte, reduceCtorEq, Nat.reduceBEq, reduceSub, Int.reduceToNat, encTypes, getD_map encEdgeT hi, hi, encEdgeT] <;> rfl) (scal rfl) ?_
      simp -implicitDefEqProofs only [go_sem, reduceEqDiff, reduceLT, reduceLeDiff, reduceMul, reduceAdd, reduceIte, reduceCtorEq, Nat.reduceBEq, reduceSub, Int.reduceToNat, h3, encTypes, getD_map encEdgeT hi, hi, encEdgeT]
      refine condC_splitN (fun h4 => ?_) (fun h4 => ?_) <;> simp -implicitDefEqProofs only [go_sem, reduceEqDiff, reduceLT, reduceLeDiff, reduceMul, reduceAdd, reduceIte, reduceCtorEq, Nat.reduceBEq, reduceSub, Int.reduceToNat, h4, encTypes, getD_map encEdgeT hi, hi, encEdgeT]
      refine call_go (bounded_ok (t.edges.getD i default).outLow (t.edges.getD i default).outHigh) (by simp -implicitDefEqProofs only [go_sem, reduceEqDiff, reduceLT, reduceLeDiff, reduceMul, reduceAdd, reduceIte, reduceCtorEq, Nat.reduceBEq, reduceSub, Int.reduceToNat, encTypes, getD_map encEdgeT hi, hi, encEdgeT] <;> rfl) (scal rfl) ?_
      simp -implicitDefEqProofs only [go_sem, reduceEqDiff, reduceLT, reduceLeDiff, reduceMul, reduceAdd, reduceIte, reduceCtorEq, Nat.reduceBEq, reduceSub, Int.reduceToNat, encTypes, getD_map encEdgeT hi, hi, encEdgeT]
      refine walkG_split (fun h5 => ?_) (fun h5 => ?_) <;> simp -implicitDefEqProofs only [go_sem, reduceEqDiff, reduceLT, reduceLeDiff, reduceMul, reduceAdd, reduceIte, reduceCtorEq, Nat.reduceBEq, reduceSub, Int.reduceToNat, h5, encTypes, getD_map encEdgeT hi, hi, encEdgeT]
      refine call_go (bounded_ok (t.edges.getD i default).inLow (t.edges.getD i default).inHigh) (by simp -implicitDefEqProofs only [go_sem, reduceEqDiff, reduceLT, reduceLeDiff, reduceMul, reduceAdd, reduceIte, reduceCtorEq, Nat.reduceBEq, reduceSub, Int.reduceToNat, encTypes, getD_map encEdgeT hi, hi, encEdgeT] <;> rfl) (scal rfl) ?_
      simp -implicitDefEqProofs only [go_sem, reduceEqDiff, reduceLT, reduceLeDiff, reduceMul, reduceAdd, reduceIte, reduceCtorEq, Nat.reduceBEq, reduceSub, Int.reduceToNat, encTypes, getD_map encEdgeT hi, hi, encEdgeT]
      refine condC_splitN (fun h6 => ?_) (fun h6 => ?_) <;> simp -implicitDefEqProofs only [go_sem, reduceEqDiff, reduceLT, reduceLeDiff, reduceMul, reduceAdd, reduceIte, reduceCtorEq, Nat.reduceBEq, reduceSub, Int.reduceToNat, h6, encTypes, getD_map encEdgeT hi, hi, encEdgeT]
  · unfold edgeE; rw [if_pos h1]

def validT (t : Types) : ByteArray × Int :=
  if t.nodes.length = 0 then (⟨#[]⟩, 7)
  else if 12 < t.nodes.length ∨ 20 < t.edges.length then (⟨#[]⟩, 3)
  else match firstI (nodeE t) 0 t.nodes.length with
    | some k => ((t.nodes.getD k default).name, nodeE t k)
    | none => match firstI (edgeE t) 0 t.edges.length with
      | some k => ((t.edges.getD k default).name, edgeE t k)
      | none => (⟨#[]⟩, 0)

theorem parOk_of {t : Types} {n : Nat} (h : ∀ j, j < n → nodeE t j = 0) : ParOk t n := fun j hj => nodeE_par (h j hj)

theorem valid_ok (t : Types) (hf : FewT t) : CallV Go.Proofs.Tryz.prog 64 [encTypes t] (fun r => r = .tup [.val (.string (validT t).1), .val (.int .i64 (validT t).2)]) := by
  have hn := hf.nodes
  have hm := hf.edges
  refine callV_of_cw [] Ty.mixed Go.Proofs.Tryz.func64 rfl (by kernel_rfl) (by simp [Go.Proofs.Tryz.ntmps64]) ?_; rw [Go.Proofs.Tryz.ntmps64, Go.Proofs.Tryz.results64]
  
  simp -implicitDefEqProofs only [go_sem, reduceEqDiff, reduceLT, reduceLeDiff, reduceMul, reduceAdd, reduceIte, reduceCtorEq, Nat.reduceBEq, reduceSub, Int.reduceToNat, encTypes]
  refine condC_split (fun h1 => ?_) (fun h1 => ?_) <;> simp -implicitDefEqProofs only [go_sem, reduceEqDiff, reduceLT, reduceLeDiff, reduceMul, reduceAdd, reduceIte, reduceCtorEq, Nat.reduceBEq, reduceSub, Int.reduceToNat, encTypes]
  · have h1' := of_decide_eq_true h1
    unfold validT; rw [if_pos (by omega)]
    exact ⟨rfl, rfl⟩
  · have h1' := of_decide_eq_false h1
    have hN : t.nodes.length ≠ 0 := by omega
    have big : 12 < t.nodes.length ∨ 20 < t.edges.length → validT t = (⟨#[]⟩, 3) := fun h => by unfold validT; rw [if_neg hN, if_pos h]
    refine walkG_splitN (fun h2 => ?_) (fun h2 => ?_) <;> simp -implicitDefEqProofs only [go_sem, reduceEqDiff, reduceLT, reduceLeDiff, reduceMul, reduceAdd, reduceIte, reduceCtorEq, Nat.reduceBEq, reduceSub, Int.reduceToNat, h2, encTypes]
    · have h2' := of_decide_eq_true h2
      rw [big (by omega)]
      exact ⟨rfl, rfl⟩
    · have h2' := of_decide_eq_false h2
      refine condC_split (fun h3 => ?_) (fun h3 => ?_) <;> simp -implicitDefEqProofs only [go_sem, reduceEqDiff, reduceLT, reduceLeDiff, reduceMul, reduceAdd, reduceIte, reduceCtorEq, Nat.reduceBEq, reduceSub, Int.reduceToNat, encTypes]
      · have h3' := of_decide_eq_true h3
        rw [big (by omega)]
        exact ⟨rfl, rfl⟩
      · have h3' := of_decide_eq_false h3
        have hV : validT t = match firstI (nodeE t) 0 t.nodes.length with
            | some k => ((t.nodes.getD k default).name, nodeE t k)
            | none => match firstI (edgeE t) 0 t.edges.length with
              | some k => ((t.edges.getD k default).name, edgeE t k)
              | none => (⟨#[]⟩, 0) := by unfold validT; rw [if_neg hN, if_neg (by omega)]
        clear big
        refine loop_rule (σ := Nat) (fun x => (upd (upd (upd (upd env0 1 (.ptr 1 0)) 27 (.p (.lst (t.nodes.map encNode)))) 28 (.p (.val (.int .i64 t.nodes.length)))) 29 (.p (.val (.int .i64 x)))))
          (fun x => (hset heap0 1 (.box [.p (.lst (t.nodes.map encNode)), .p (.lst (t.edges.map encEdgeT))])))
          (fun x => x ≤ t.nodes.length ∧ ∀ j, j < x → nodeE t j = 0) (fun x => t.nodes.length - x) 0 ⟨Nat.zero_le _, fun j hj => absurd hj (Nat.not_lt_zero j)⟩ (weak_mk (by repeat (first | exact sub_env0 _ | refine sub_upd ?_ (by first | rfl | simp [upd]))) (by repeat (first | exact hsub0 _ | refine hsub_hset ?_ (by first | rfl | simp [hset]))) (by repeat (first | exact ids_env0 _ | refine ids_upd ?_ (by simp [idsOk, idsOkL, hset]))) (by repeat (first | exact boxIds0 _ | refine boxIds_row ?_ | refine boxIds_shut ?_ | refine boxIds_box ?_ (by simp [idsOk, idsOkL, hset]))) (by repeat (first | exact keep0 _ | refine keep_low (by decide) ?_ | refine keep_high (by simp [hset]) ?_))) ?_
        rintro x ⟨hx, hq⟩
        simp -implicitDefEqProofs only [go_sem, reduceEqDiff, reduceLT, reduceLeDiff, reduceMul, reduceAdd, reduceIte, reduceCtorEq, Nat.reduceBEq, reduceSub, Int.reduceToNat, encTypes]
        refine condC_split (fun hc => ?_) (fun hc => ?_)
        · have hlt : x < t.nodes.length := by simpa using hc
          
          simp -implicitDefEqProofs only [go_sem, reduceEqDiff, reduceLT, reduceLeDiff, reduceMul, reduceAdd, reduceIte, reduceCtorEq, Nat.reduceBEq, reduceSub, Int.reduceToNat, encTypes, getD_map encNode hlt, hlt, encNode]
          refine call_go (node_ok t hf x hlt (parOk_of hq)) (by simp -implicitDefEqProofs only [go_sem, reduceEqDiff, reduceLT, reduceLeDiff, reduceMul, reduceAdd, reduceIte, reduceCtorEq, Nat.reduceBEq, reduceSub, Int.reduceToNat, encTypes, getD_map encNode hlt, hlt, encNode] <;> rfl) (scal rfl) ?_
          simp -implicitDefEqProofs only [go_sem, reduceEqDiff, reduceLT, reduceLeDiff, reduceMul, reduceAdd, reduceIte, reduceCtorEq, Nat.reduceBEq, reduceSub, Int.reduceToNat, encTypes, getD_map encNode hlt, hlt, encNode]
          refine condC_splitN (fun h4 => ?_) (fun h4 => ?_) <;> simp -implicitDefEqProofs only [go_sem, reduceEqDiff, reduceLT, reduceLeDiff, reduceMul, reduceAdd, reduceIte, reduceCtorEq, Nat.reduceBEq, reduceSub, Int.reduceToNat, encTypes, getD_map encNode hlt, hlt, encNode]
          · have h4' := of_decide_eq_true h4
            exact loopN_mk (x + 1) ⟨hlt, all_succ hq h4'⟩ (by omega) (by rw [wrap_succ hlt (by omega)]; exact (weak_mk (by repeat (first | exact sub_env0 _ | refine sub_upd ?_ (by first | rfl | simp [upd]))) (by repeat (first | exact hsub0 _ | refine hsub_hset ?_ (by first | rfl | simp [hset]))) (by repeat (first | exact ids_env0 _ | refine ids_upd ?_ (by simp [idsOk, idsOkL, hset]))) (by repeat (first | exact boxIds0 _ | refine boxIds_row ?_ | refine boxIds_shut ?_ | refine boxIds_box ?_ (by simp [idsOk, idsOkL, hset]))) (by repeat (first | exact keep0 _ | refine keep_low (by decide) ?_ | refine keep_high (by simp [hset]) ?_))))
          · have h4' := of_decide_eq_false h4
            rw [hV, firstI_at (Nat.zero_le _) hlt (fun j _ => hq j) h4']
            exact ⟨rfl, rfl⟩
        · have hge : t.nodes.length ≤ x := by simpa using hc
          have hN0 : firstI (nodeE t) 0 t.nodes.length = none := firstI_none fun j _ hj => hq j (by omega)
          rw [hN0] at hV
          simp only [] at hV
          simp -implicitDefEqProofs only [go_sem, reduceEqDiff, reduceLT, reduceLeDiff, reduceMul, reduceAdd, reduceIte, reduceCtorEq, Nat.reduceBEq, reduceSub, Int.reduceToNat, encTypes]
          refine loop_rule (σ := Nat) (fun x => (upd (upd (upd (upd env0 1 (.ptr 1 0)) 44 (.p (.lst (t.edges.map encEdgeT)))) 45 (.p (.val (.int .i64 t.edges.length)))) 46 (.p (.val (.int .i64 x)))))
            (fun x => (hset heap0 1 (.box [.p (.lst (t.nodes.map encNode)), .p (.lst (t.edges.map encEdgeT))])))
            (fun x => x ≤ t.edges.length ∧ ∀ j, j < x → edgeE t j = 0) (fun x => t.edges.length - x) 0 ⟨Nat.zero_le _, fun j hj => absurd hj (Nat.not_lt_zero j)⟩ (weak_mk (by repeat (first | exact sub_env0 _ | refine sub_upd ?_ (by first | rfl | simp [upd]))) (by repeat (first | exact hsub0 _ | refine hsub_hset ?_ (by first | rfl | simp [hset]))) (by repeat (first | exact ids_env0 _ | refine ids_upd ?_ (by simp [idsOk, idsOkL, hset]))) (by repeat (first | exact boxIds0 _ | refine boxIds_row ?_ | refine boxIds_shut ?_ | refine boxIds_box ?_ (by simp [idsOk, idsOkL, hset]))) (by repeat (first | exact keep0 _ | refine keep_low (by decide) ?_ | refine keep_high (by simp [hset]) ?_))) ?_
          rintro y ⟨hy, hq'⟩
          simp -implicitDefEqProofs only [go_sem, reduceEqDiff, reduceLT, reduceLeDiff, reduceMul, reduceAdd, reduceIte, reduceCtorEq, Nat.reduceBEq, reduceSub, Int.reduceToNat, encTypes]
          refine condC_split (fun hc' => ?_) (fun hc' => ?_)
          · have hlt : y < t.edges.length := by simpa using hc'
            
            simp -implicitDefEqProofs only [go_sem, reduceEqDiff, reduceLT, reduceLeDiff, reduceMul, reduceAdd, reduceIte, reduceCtorEq, Nat.reduceBEq, reduceSub, Int.reduceToNat, encTypes, getD_map encEdgeT hlt, hlt, encEdgeT]
            refine call_go (edge_ok t hf y hlt) (by simp -implicitDefEqProofs only [go_sem, reduceEqDiff, reduceLT, reduceLeDiff, reduceMul, reduceAdd, reduceIte, reduceCtorEq, Nat.reduceBEq, reduceSub, Int.reduceToNat, encTypes, getD_map encEdgeT hlt, hlt, encEdgeT] <;> rfl) (scal rfl) ?_
            simp -implicitDefEqProofs only [go_sem, reduceEqDiff, reduceLT, reduceLeDiff, reduceMul, reduceAdd, reduceIte, reduceCtorEq, Nat.reduceBEq, reduceSub, Int.reduceToNat, encTypes, getD_map encEdgeT hlt, hlt, encEdgeT]
            refine condC_splitN (fun h4 => ?_) (fun h4 => ?_) <;> simp -implicitDefEqProofs only [go_sem, reduceEqDiff, reduceLT, reduceLeDiff, reduceMul, reduceAdd, reduceIte, reduceCtorEq, Nat.reduceBEq, reduceSub, Int.reduceToNat, encTypes, getD_map encEdgeT hlt, hlt, encEdgeT]
            · have h4' := of_decide_eq_true h4
              exact loopN_mk (y + 1) ⟨hlt, all_succ hq' h4'⟩ (by omega) (by rw [wrap_succ hlt (by omega)]; exact (weak_mk (by repeat (first | exact sub_env0 _ | refine sub_upd ?_ (by first | rfl | simp [upd]))) (by repeat (first | exact hsub0 _ | refine hsub_hset ?_ (by first | rfl | simp [hset]))) (by repeat (first | exact ids_env0 _ | refine ids_upd ?_ (by simp [idsOk, idsOkL, hset]))) (by repeat (first | exact boxIds0 _ | refine boxIds_row ?_ | refine boxIds_shut ?_ | refine boxIds_box ?_ (by simp [idsOk, idsOkL, hset]))) (by repeat (first | exact keep0 _ | refine keep_low (by decide) ?_ | refine keep_high (by simp [hset]) ?_))))
            · have h4' := of_decide_eq_false h4
              rw [hV, firstI_at (Nat.zero_le _) hlt (fun j _ => hq' j) h4']
              exact ⟨rfl, rfl⟩
          · have hge : t.edges.length ≤ y := by simpa using hc'
            simp -implicitDefEqProofs only [go_sem, reduceEqDiff, reduceLT, reduceLeDiff, reduceMul, reduceAdd, reduceIte, reduceCtorEq, Nat.reduceBEq, reduceSub, Int.reduceToNat, encTypes]
            rw [hV, firstI_none fun j _ hj => hq' j (by omega)]
            exact ⟨rfl, rfl⟩
end Go.Proofs.YtdlohnchnneaeaaGreat
/- The reference of layer 4: errors. -/
namespace Go.Proofs.YtdlohnchnneaeaaGreat
open Go.Abs

theorem take_any_true {α : Type} [Inhabited α] {p : α → Bool} {l : List α} {x j : Nat} (hj : j < x) (hx : x ≤ l.length) (h : p (l.getD j default) = true) : (l.take x).any p = true := by
  have hjl : j < l.length := by omega
  refine List.any_eq_true.2 ⟨l[j], List.mem_iff_getElem.2 ⟨j, by simp; omega, by simp⟩, ?_⟩
  simpa [hjl] using h
theorem take_any_false {α : Type} [Inhabited α] {p : α → Bool} {l : List α} {x : Nat} (hx : x ≤ l.length) (h : ∀ j, j < x → p (l.getD j default) = false) : (l.take x).any p = false := by
  rw [List.any_eq_false]
  intro a ha
  obtain ⟨j, hj, rfl⟩ := List.mem_iff_getElem.1 ha
  simp only [List.length_take] at hj
  have := h j (by omega)
  have hjl : j < l.length := by omega
  simpa [hjl] using this
theorem dec_comm {α : Type} [DecidableEq α] {a b : α} {c : Bool} (h : decide (a = b) = c) : decide (b = a) = c := by
  rw [← h]; simp [eq_comm]
theorem all_succB {p : Nat → Bool} {x : Nat} (h : ∀ j, j < x → p j = false) (hx : p x = false) : ∀ j, j < x + 1 → p j = false := fun j hj => by
  rcases Nat.lt_succ_iff_lt_or_eq.1 hj with h' | h'
  · exact h j h'
  · rw [h']; exact hx

theorem rnames_ok (l : List ByteArray) (hl : l.length ≤ 25) (hw : ∀ s ∈ l, s.size ≤ 40) : CallV Go.Proofs.Tryz.prog 148 [.lst (l.map encS)] (fun r => r = .val (.int .i64 (namesE l))) := by
  unfold namesE
  refine callV_of_cw [] Ty.mixed Go.Proofs.Tryz.func148 rfl (by kernel_rfl) (by simp [Go.Proofs.Tryz.ntmps148]) ?_; rw [Go.Proofs.Tryz.ntmps148, Go.Proofs.Tryz.results148]
  simp -implicitDefEqProofs only [go_sem, reduceEqDiff, reduceLT, reduceLeDiff, reduceMul, reduceAdd, reduceIte, reduceCtorEq, Nat.reduceBEq, reduceSub, Int.reduceToNat]
  refine condC_split (fun h0 => ?_) (fun h0 => ?_) <;> simp -implicitDefEqProofs only [go_sem, reduceEqDiff, reduceLT, reduceLeDiff, reduceMul, reduceAdd, reduceIte, reduceCtorEq, Nat.reduceBEq, reduceSub, Int.reduceToNat]
  · have h0' : 20 < l.length := by have := of_decide_eq_true h0; omega
    rw [if_pos h0']
  · have h0' : ¬ 20 < l.length := by have := of_decide_eq_false h0; omega
    rw [if_neg h0']
    refine loop_rule (σ := Nat) (fun x => (upd (upd env0 0 (.p (.lst (l.map encS)))) 3 (.p (.val (.int .i64 x))))) (fun x => heap0)
      (fun x => x ≤ l.length ∧ ∀ j, j < x → nameE l j = 0) (fun x => l.length - x) 0 ⟨Nat.zero_le _, fun j hj => absurd hj (Nat.not_lt_zero j)⟩ (weak_mk (by repeat (first | exact sub_env0 _ | refine sub_upd ?_ (by first | rfl | simp [upd]))) (by repeat (first | exact hsub0 _ | refine hsub_hset ?_ (by first | rfl | simp [hset]))) (by repeat (first | exact ids_env0 _ | refine ids_upd ?_ (by simp [idsOk, idsOkL, hset]))) (by repeat (first | exact boxIds0 _ | refine boxIds_row ?_ | refine boxIds_shut ?_ | refine boxIds_box ?_ (by simp [idsOk, idsOkL, hset]))) (by repeat (first | exact keep0 _ | refine keep_low (by decide) ?_ | refine keep_high (by simp [hset]) ?_))) ?_
    rintro x ⟨hx, hq⟩
    simp -implicitDefEqProofs only [go_sem, reduceEqDiff, reduceLT, reduceLeDiff, reduceMul, reduceAdd, reduceIte, reduceCtorEq, Nat.reduceBEq, reduceSub, Int.reduceToNat]
    refine condC_split (fun hc => ?_) (fun hc => ?_)
    · have hlt : x < l.length := by simpa using hc
      
      simp -implicitDefEqProofs only [go_sem, reduceEqDiff, reduceLT, reduceLeDiff, reduceMul, reduceAdd, reduceIte, reduceCtorEq, Nat.reduceBEq, reduceSub, Int.reduceToNat, getD_map encS hlt, hlt, encS]
      refine call_go (rIsName_ok (l.getD x default) (Nat.le_trans (hw _ (getD_mem hlt)) (by decide))) (by simp -implicitDefEqProofs only [go_sem, reduceEqDiff, reduceLT, reduceLeDiff, reduceMul, reduceAdd, reduceIte, reduceCtorEq, Nat.reduceBEq, reduceSub, Int.reduceToNat, getD_map encS hlt, hlt, encS] <;> rfl) (scal rfl) ?_
      simp -implicitDefEqProofs only [go_sem, reduceEqDiff, reduceLT, reduceLeDiff, reduceMul, reduceAdd, reduceIte, reduceCtorEq, Nat.reduceBEq, reduceSub, Int.reduceToNat, getD_map encS hlt, hlt, encS]
      refine condC_splitN (fun h1 => ?_) (fun h1 => ?_) <;> simp -implicitDefEqProofs only [go_sem, reduceEqDiff, reduceLT, reduceLeDiff, reduceMul, reduceAdd, reduceIte, reduceCtorEq, Nat.reduceBEq, reduceSub, Int.reduceToNat, getD_map encS hlt, hlt, encS]
      · refine loop_rule (σ := Nat) (fun y => (upd (upd (upd env0 0 (.p (.lst (l.map encS)))) 3 (.p (.val (.int .i64 x)))) 4 (.p (.val (.int .i64 y))))) (fun _ => heap0)
          (fun y => y ≤ x ∧ ∀ j, j < y → decide (l.getD x default = l.getD j default) = false) (fun y => x - y) 0 ⟨Nat.zero_le _, fun j hj => absurd hj (Nat.not_lt_zero j)⟩ (weak_mk (by repeat (first | exact sub_env0 _ | refine sub_upd ?_ (by first | rfl | simp [upd]))) (by repeat (first | exact hsub0 _ | refine hsub_hset ?_ (by first | rfl | simp [hset]))) (by repeat (first | exact ids_env0 _ | refine ids_upd ?_ (by simp [idsOk, idsOkL, hset]))) (by repeat (first | exact boxIds0 _ | refine boxIds_row ?_ | refine boxIds_shut ?_ | refine boxIds_box ?_ (by simp [idsOk, idsOkL, hset]))) (by repeat (first | exact keep0 _ | refine keep_low (by decide) ?_ | refine keep_high (by simp [hset]) ?_))) ?_
        rintro y ⟨hy, hqy⟩
        simp -implicitDefEqProofs only [go_sem, reduceEqDiff, reduceLT, reduceLeDiff, reduceMul, reduceAdd, reduceIte, reduceCtorEq, Nat.reduceBEq, reduceSub, Int.reduceToNat, getD_map encS hlt, hlt, encS]
        refine condC_split (fun hc' => ?_) (fun hc' => ?_)
        · have hlty : y < x := by simpa using hc'
          have hltl : y < l.length := by omega
          
          simp -implicitDefEqProofs only [go_sem, reduceEqDiff, reduceLT, reduceLeDiff, reduceMul, reduceAdd, reduceIte, reduceCtorEq, Nat.reduceBEq, reduceSub, Int.reduceToNat, getD_map encS hlt, hlt, encS, getD_map encS hltl, hltl]
          refine draw_txt [.q, .q, .q, .q, .q, .q, .q, .q, .q] (by kernel_rfl) ?_
          simp -implicitDefEqProofs only [go_sem, reduceEqDiff, reduceLT, reduceLeDiff, reduceMul, reduceAdd, reduceIte, reduceCtorEq, Nat.reduceBEq, reduceSub, Int.reduceToNat, getD_map encS hlt, hlt, encS, getD_map encS hltl, hltl]
          refine condC_split (fun h2 => ?_) (fun h2 => ?_) <;> simp -implicitDefEqProofs only [go_sem, reduceEqDiff, reduceLT, reduceLeDiff, reduceMul, reduceAdd, reduceIte, reduceCtorEq, Nat.reduceBEq, reduceSub, Int.reduceToNat, getD_map encS hlt, hlt, encS, getD_map encS hltl, hltl]
          · have : nameE l x = 5 := by
              unfold nameE; rw [if_neg (by rw [h1]; decide), if_pos (take_any_true hlty hx (dec_comm h2))]
            rw [firstE_at0 hlt hq (by rw [this]; decide), this]
          · exact loopN_mk (y + 1) ⟨hlty, all_succB hqy (dec_comm h2)⟩ (by omega) (by rw [wrap_succ hlty (by omega)]; exact (weak_mk (by repeat (first | exact sub_env0 _ | refine sub_upd ?_ (by first | rfl | simp [upd]))) (by repeat (first | exact hsub0 _ | refine hsub_hset ?_ (by first | rfl | simp [hset]))) (by repeat (first | exact ids_env0 _ | refine ids_upd ?_ (by simp [idsOk, idsOkL, hset]))) (by repeat (first | exact boxIds0 _ | refine boxIds_row ?_ | refine boxIds_shut ?_ | refine boxIds_box ?_ (by simp [idsOk, idsOkL, hset]))) (by repeat (first | exact keep0 _ | refine keep_low (by decide) ?_ | refine keep_high (by simp [hset]) ?_))))
        · have hge : x ≤ y := by simpa using hc'
          simp -implicitDefEqProofs only [go_sem, reduceEqDiff, reduceLT, reduceLeDiff, reduceMul, reduceAdd, reduceIte, reduceCtorEq, Nat.reduceBEq, reduceSub, Int.reduceToNat, getD_map encS hlt, hlt, encS]
          have : nameE l x = 0 := by
            unfold nameE; rw [if_neg (by rw [h1]; decide), if_neg (by rw [take_any_false (p := fun z => decide (l.getD x default = z)) hx fun j hj => hqy j (by omega)]; decide)]
          exact loopN_mk (x + 1) ⟨hlt, all_succ hq this⟩ (by omega) (by rw [wrap_succ hlt (by omega)]; exact (weak_mk (by repeat (first | exact sub_env0 _ | refine sub_upd ?_ (by first | rfl | simp [upd]))) (by repeat (first | exact hsub0 _ | refine hsub_hset ?_ (by first | rfl | simp [hset]))) (by repeat (first | exact ids_env0 _ | refine ids_upd ?_ (by simp [idsOk, idsOkL, hset]))) (by repeat (first | exact boxIds0 _ | refine boxIds_row ?_ | refine boxIds_shut ?_ | refine boxIds_box ?_ (by simp [idsOk, idsOkL, hset]))) (by repeat (first | exact keep0 _ | refine keep_low (by decide) ?_ | refine keep_high (by simp [hset]) ?_))))
      · have : nameE l x = 2 := by unfold nameE; rw [if_pos h1]
        rw [firstE_at0 hlt hq (by rw [this]; decide), this]
    · have hge : l.length ≤ x := by simpa using hc
      simp -implicitDefEqProofs only [go_sem, reduceEqDiff, reduceLT, reduceLeDiff, reduceMul, reduceAdd, reduceIte, reduceCtorEq, Nat.reduceBEq, reduceSub, Int.reduceToNat]
      rw [firstE_none0 fun j hj => hq j (by omega)]

theorem rattribute_ok (x : Attr) (hx : FewA x) : CallV Go.Proofs.Tryz.prog 128 [.agg (encAttr x)] (fun r => r = .val (.int .i64 (attrE x))) := by
  have hn := hx.names
  refine callV_of_cw [] Ty.mixed Go.Proofs.Tryz.func128 rfl (by kernel_rfl) (by simp [Go.Proofs.Tryz.ntmps128]) ?_; rw [Go.Proofs.Tryz.ntmps128, Go.Proofs.Tryz.results128]
  
  simp -implicitDefEqProofs only [go_sem, reduceEqDiff, reduceLT, reduceLeDiff, reduceMul, reduceAdd, reduceIte, reduceCtorEq, Nat.reduceBEq, reduceSub, Int.reduceToNat, encAttr, encStrs]
  have hw : IntKind.i64.wrap ((x.names.length : Int) - 1) = (x.names.length : Int) - 1 := IntWalk.i64_in _ (by omega)
  have hnil : x.names.length = 0 → namesE x.names = 0 := fun h => by
    have : x.names = [] := List.length_eq_zero_iff.1 h
    rw [this]; try rfl
  refine condC_split (fun h1 => ?_) (fun h1 => ?_) <;> simp -implicitDefEqProofs only [go_sem, reduceEqDiff, reduceLT, reduceLeDiff, reduceMul, reduceAdd, reduceIte, reduceCtorEq, Nat.reduceBEq, reduceSub, Int.reduceToNat, encAttr, encStrs]
  · have h1' := of_decide_eq_true h1
    have e : attrE x = if rangeB x = true then 0 else 6 := by unfold attrE; rw [if_neg (by rw [hnil (by omega)]; decide)]
    rw [e]
    refine call_go (in_ok x.low (-1000000) 1000000) (by simp -implicitDefEqProofs only [go_sem, reduceEqDiff, reduceLT, reduceLeDiff, reduceMul, reduceAdd, reduceIte, reduceCtorEq, Nat.reduceBEq, reduceSub, Int.reduceToNat, encAttr, encStrs] <;> rfl) (scal rfl) ?_
    simp -implicitDefEqProofs only [go_sem, reduceEqDiff, reduceLT, reduceLeDiff, reduceMul, reduceAdd, reduceIte, reduceCtorEq, Nat.reduceBEq, reduceSub, Int.reduceToNat, encAttr, encStrs]
    refine walkG_split (fun h2 => ?_) (fun h2 => ?_) <;> simp -implicitDefEqProofs only [go_sem, reduceEqDiff, reduceLT, reduceLeDiff, reduceMul, reduceAdd, reduceIte, reduceCtorEq, Nat.reduceBEq, reduceSub, Int.reduceToNat, h2, encAttr, encStrs]
    · refine call_go (in_ok x.high x.low 1000000) (by simp -implicitDefEqProofs only [go_sem, reduceEqDiff, reduceLT, reduceLeDiff, reduceMul, reduceAdd, reduceIte, reduceCtorEq, Nat.reduceBEq, reduceSub, Int.reduceToNat, encAttr, encStrs] <;> rfl) (scal rfl) ?_
      simp -implicitDefEqProofs only [go_sem, reduceEqDiff, reduceLT, reduceLeDiff, reduceMul, reduceAdd, reduceIte, reduceCtorEq, Nat.reduceBEq, reduceSub, Int.reduceToNat, encAttr, encStrs]
      refine condC_splitN (fun h3 => ?_) (fun h3 => ?_) <;> simp -implicitDefEqProofs only [go_sem, reduceEqDiff, reduceLT, reduceLeDiff, reduceMul, reduceAdd, reduceIte, reduceCtorEq, Nat.reduceBEq, reduceSub, Int.reduceToNat, encAttr, encStrs]
      all_goals
        simp only [Bool.and_eq_true, Bool.and_eq_false_iff] at *
        simp only [Bool.not_eq_true', Bool.not_eq_false', decide_eq_true_eq, decide_eq_false_iff_not, Decidable.not_not] at *
        split <;> rename_i hr <;> rw [rangeB_iff] at hr <;> omega
    · simp only [Bool.and_eq_true, Bool.and_eq_false_iff] at *
      simp only [Bool.not_eq_true', Bool.not_eq_false', decide_eq_true_eq, decide_eq_false_iff_not, Decidable.not_not] at *
      split <;> rename_i hr <;> rw [rangeB_iff] at hr <;> omega
  · have h1' := of_decide_eq_false h1
    refine call_go (rnames_ok x.names hx.names hx.word) (by simp -implicitDefEqProofs only [go_sem, reduceEqDiff, reduceLT, reduceLeDiff, reduceMul, reduceAdd, reduceIte, reduceCtorEq, Nat.reduceBEq, reduceSub, Int.reduceToNat, encAttr, encStrs] <;> rfl) (scal rfl) ?_
    simp -implicitDefEqProofs only [go_sem, reduceEqDiff, reduceLT, reduceLeDiff, reduceMul, reduceAdd, reduceIte, reduceCtorEq, Nat.reduceBEq, reduceSub, Int.reduceToNat, encAttr, encStrs]
    refine condC_splitN (fun h3 => ?_) (fun h3 => ?_) <;> simp -implicitDefEqProofs only [go_sem, reduceEqDiff, reduceLT, reduceLeDiff, reduceMul, reduceAdd, reduceIte, reduceCtorEq, Nat.reduceBEq, reduceSub, Int.reduceToNat, encAttr, encStrs]
    · have h3' := of_decide_eq_true h3
      have e2 : attrE x = if rangeB x = true then 0 else 6 := by unfold attrE; rw [if_neg (by rw [h3']; decide)]
      rw [e2]
      repeat' first | done | (refine walkG_splitN (fun h => ?_) (fun h => ?_) <;> try simp -implicitDefEqProofs only [go_sem, reduceEqDiff, reduceLT, reduceLeDiff, reduceMul, reduceAdd, reduceIte, reduceCtorEq, Nat.reduceBEq, reduceSub, Int.reduceToNat, h, hw, encAttr, encStrs]) | (refine walkG_split (fun h => ?_) (fun h => ?_) <;> try simp -implicitDefEqProofs only [go_sem, reduceEqDiff, reduceLT, reduceLeDiff, reduceMul, reduceAdd, reduceIte, reduceCtorEq, Nat.reduceBEq, reduceSub, Int.reduceToNat, h, hw, encAttr, encStrs]) | (refine condC_splitN (fun h => ?_) (fun h => ?_) <;> try simp -implicitDefEqProofs only [go_sem, reduceEqDiff, reduceLT, reduceLeDiff, reduceMul, reduceAdd, reduceIte, reduceCtorEq, Nat.reduceBEq, reduceSub, Int.reduceToNat, h, hw, encAttr, encStrs]) | (refine condC_split (fun h => ?_) (fun h => ?_) <;> try simp -implicitDefEqProofs only [go_sem, reduceEqDiff, reduceLT, reduceLeDiff, reduceMul, reduceAdd, reduceIte, reduceCtorEq, Nat.reduceBEq, reduceSub, Int.reduceToNat, h, hw, encAttr, encStrs])
      all_goals
        simp only [Bool.not_eq_true', Bool.not_eq_false', decide_eq_true_eq, decide_eq_false_iff_not, Decidable.not_not] at *
        split <;> rename_i hr <;> rw [rangeB_iff] at hr <;> omega
    · have h3' := of_decide_eq_false h3
      unfold attrE; rw [if_pos h3']
end Go.Proofs.YtdlohnchnneaeaaGreat
/- The reference of layer 4: node types. -/
namespace Go.Proofs.YtdlohnchnneaeaaGreat
open Go.Abs

def attrsI (t : Types) (a : Int) : List Attr := if a < 0 then [] else attrsAt t a.toNat

theorem rattrs_neg (t : Types) (a : Int) (ha : a < 0) : CallF Go.Proofs.Tryz.prog 81 [encTypes t, .val (.int .i64 a)] (fun r => r = .row 107 4 []) := by
  refine callF_of_cw [7] Ty.mixed Go.Proofs.Tryz.func81 rfl (by kernel_rfl) (by simp [Go.Proofs.Tryz.ntmps81]) ?_; rw [Go.Proofs.Tryz.ntmps81, Go.Proofs.Tryz.results81]
  simp -implicitDefEqProofs only [go_sem, reduceEqDiff, reduceLT, reduceLeDiff, reduceMul, reduceAdd, reduceIte, reduceCtorEq, Nat.reduceBEq, reduceSub, Int.reduceToNat, encTypes]
  refine condC_split (fun h0 => ?_) (fun h0 => ?_) <;> simp -implicitDefEqProofs only [go_sem, reduceEqDiff, reduceLT, reduceLeDiff, reduceMul, reduceAdd, reduceIte, reduceCtorEq, Nat.reduceBEq, reduceSub, Int.reduceToNat]
  · exact ⟨by decide, _, .nil _ _ (by decide), rfl⟩
  · have := of_decide_eq_false h0
    omega

theorem rattrs_ok (t : Types) (hf : FewT t) : ∀ (a : Nat), a < t.nodes.length → ParOk t (a + 1) → CallF Go.Proofs.Tryz.prog 81 [encTypes t, .val (.int .i64 a)] (fun r => r = .row 107 4 ((attrsAt t a).map encAttr)) := by
  intro a
  induction a using Nat.strongRecOn with
  | _ a ih =>
    intro ha hp
    have hq := hp a (by omega)
    have h1 := hf.attrs _ (getD_mem ha)
    have hlen := attrsAt_len hf ha hp
    have hrec : CallF Go.Proofs.Tryz.prog 81 [encTypes t, .val (.int .i64 (t.nodes.getD a default).parent)] (fun r => r = .row 107 4 ((attrsI t (t.nodes.getD a default).parent).map encAttr)) := by
      by_cases h0 : (t.nodes.getD a default).parent < 0
      · have := rattrs_neg t _ h0
        unfold attrsI; rw [if_pos h0]; exact this
      · obtain ⟨q, hqq⟩ : ∃ q : Nat, (t.nodes.getD a default).parent = q := ⟨_, (Int.toNat_of_nonneg (by omega)).symm⟩
        unfold attrsI
        rw [if_neg h0, hqq, Int.toNat_natCast]
        have hqa : q < a := by have := hq.2; rw [hqq] at this; omega
        exact ih q hqa (by omega) (fun j hj => hp j (by omega))
    have e : attrsAt t a = attrsI t (t.nodes.getD a default).parent ++ (t.nodes.getD a default).attrs := by
      rw [attrsAt_eq hp]
      unfold attrsI
      by_cases h0 : (t.nodes.getD a default).parent < 0
      · rw [if_pos h0, if_neg (by omega)]
      · rw [if_neg h0, if_pos (by omega)]
    rw [e, List.length_append] at hlen
    rw [e]
    refine callF_of_cw [7] Ty.mixed Go.Proofs.Tryz.func81 rfl (by kernel_rfl) (by simp [Go.Proofs.Tryz.ntmps81]) ?_; rw [Go.Proofs.Tryz.ntmps81, Go.Proofs.Tryz.results81]
    
    simp -implicitDefEqProofs only [go_sem, reduceEqDiff, reduceLT, reduceLeDiff, reduceMul, reduceAdd, reduceIte, reduceCtorEq, Nat.reduceBEq, reduceSub, Int.reduceToNat, encTypes, getD_map encNode ha, ha, encNode]
    refine condC_split (fun h0 => ?_) (fun h0 => ?_) <;> simp -implicitDefEqProofs only [go_sem, reduceEqDiff, reduceLT, reduceLeDiff, reduceMul, reduceAdd, reduceIte, reduceCtorEq, Nat.reduceBEq, reduceSub, Int.reduceToNat, getD_map encNode ha, ha, encNode]
    · have := of_decide_eq_true h0
      omega
    · refine draw_my [(1, .q), (2, .q), (3, .q), (4, .q), (5, .q), (6, .q), (7, .q), (8, .q), (10, .b), (11, .b), (12, .b), (13, .b), (14, .b), (15, .b), (0, .w), (9, .s), (16, .w), (17, .q)] (by kernel_rfl) ?_
      simp -implicitDefEqProofs only [go_sem, reduceEqDiff, reduceLT, reduceLeDiff, reduceMul, reduceAdd, reduceIte, reduceCtorEq, Nat.reduceBEq, reduceSub, Int.reduceToNat, getD_map encNode ha, ha, encNode]
      refine calld_go (hrec.toL) (by simp -implicitDefEqProofs only [go_sem, reduceEqDiff, reduceLT, reduceLeDiff, reduceMul, reduceAdd, reduceIte, reduceCtorEq, Nat.reduceBEq, reduceSub, Int.reduceToNat, getD_map encNode ha, ha, encNode] <;> rfl) (pers) ?_
      simp -implicitDefEqProofs only [go_sem, reduceEqDiff, reduceLT, reduceLeDiff, reduceMul, reduceAdd, reduceIte, reduceCtorEq, Nat.reduceBEq, reduceSub, Int.reduceToNat, getD_map encNode ha, ha, encNode]
      exact ⟨⟨⟨_, rfl⟩, _, rfl⟩, ⟨by omega, enc_len4 _⟩, ⟨by omega, enc_len4 _⟩, by decide, _, .refl _, by rw [List.map_append]⟩

theorem rnode_ok (t : Types) (hf : FewT t) (i : Nat) (hi : i < t.nodes.length) (hp : ParOk t i) : CallV Go.Proofs.Tryz.prog 96 [encTypes t, .val (.int .i64 i)] (fun r => r = .val (.int .i64 (nodeE t i))) := by
  have hn := hf.nodes
  have hl1 := hf.attrs _ (getD_mem hi)
  refine callV_of_cw [] Ty.mixed Go.Proofs.Tryz.func96 rfl (by kernel_rfl) (by simp [Go.Proofs.Tryz.ntmps96]) ?_; rw [Go.Proofs.Tryz.ntmps96, Go.Proofs.Tryz.results96]
  
  simp -implicitDefEqProofs only [go_sem, reduceEqDiff, reduceLT, reduceLeDiff, reduceMul, reduceAdd, reduceIte, reduceCtorEq, Nat.reduceBEq, reduceSub, Int.reduceToNat, encTypes, getD_map encNode hi, hi, encNode]
  refine call_go (rIsName_ok (t.nodes.getD i default).name (Nat.le_trans (hf.name _ (getD_mem hi)) (by decide))) (by simp -implicitDefEqProofs only [go_sem, reduceEqDiff, reduceLT, reduceLeDiff, reduceMul, reduceAdd, reduceIte, reduceCtorEq, Nat.reduceBEq, reduceSub, Int.reduceToNat, encTypes, getD_map encNode hi, hi, encNode] <;> rfl) (scal rfl) ?_
  simp -implicitDefEqProofs only [go_sem, reduceEqDiff, reduceLT, reduceLeDiff, reduceMul, reduceAdd, reduceIte, reduceCtorEq, Nat.reduceBEq, reduceSub, Int.reduceToNat, encTypes, getD_map encNode hi, hi, encNode]
  refine condC_splitN (fun h1 => ?_) (fun h1 => ?_) <;> simp -implicitDefEqProofs only [go_sem, reduceEqDiff, reduceLT, reduceLeDiff, reduceMul, reduceAdd, reduceIte, reduceCtorEq, Nat.reduceBEq, reduceSub, Int.reduceToNat, encTypes, getD_map encNode hi, hi, encNode]
  · refine loop_rule (σ := Nat) (fun x => (upd (upd (upd (upd env0 1 (.p (.val (.int .i64 i)))) 2 (.ptr 2 0)) 5 (.ptr 5 0)) 6 (.p (.val (.int .i64 x)))))
      (fun x => (hset (hset heap0 2 (.box [.p (.lst (t.nodes.map encNode)), .p (.lst (t.edges.map encEdgeT))])) 5 (.box [.p (.val (.string (t.nodes.getD i default).name)), .p (.val (.int .i64 (t.nodes.getD i default).parent)), .p (.val (.bool (t.nodes.getD i default).abs)), .p (.lst ((t.nodes.getD i default).attrs.map encAttr))])))
      (fun x => x ≤ i ∧ ∀ j, j < x → decide ((t.nodes.getD j default).name = (t.nodes.getD i default).name) = false) (fun x => i - x) 0 ⟨Nat.zero_le _, fun j hj => absurd hj (Nat.not_lt_zero j)⟩ (weak_mk (by repeat (first | exact sub_env0 _ | refine sub_upd ?_ (by first | rfl | simp [upd]))) (by repeat (first | exact hsub0 _ | refine hsub_hset ?_ (by first | rfl | simp [hset]))) (by repeat (first | exact ids_env0 _ | refine ids_upd ?_ (by simp [idsOk, idsOkL, hset]))) (by repeat (first | exact boxIds0 _ | refine boxIds_row ?_ | refine boxIds_shut ?_ | refine boxIds_box ?_ (by simp [idsOk, idsOkL, hset]))) (by repeat (first | exact keep0 _ | refine keep_low (by decide) ?_ | refine keep_high (by simp [hset]) ?_))) ?_
    rintro x ⟨hx, hqx⟩
    simp -implicitDefEqProofs only [go_sem, reduceEqDiff, reduceLT, reduceLeDiff, reduceMul, reduceAdd, reduceIte, reduceCtorEq, Nat.reduceBEq, reduceSub, Int.reduceToNat, encTypes, getD_map encNode hi, hi, encNode]
    refine condC_split (fun hc => ?_) (fun hc => ?_)
    · have hltx : x < i := by simpa using hc
      have hxl : x < t.nodes.length := by omega
      
      simp -implicitDefEqProofs only [go_sem, reduceEqDiff, reduceLT, reduceLeDiff, reduceMul, reduceAdd, reduceIte, reduceCtorEq, Nat.reduceBEq, reduceSub, Int.reduceToNat, encTypes, getD_map encNode hi, hi, encNode, getD_map encNode hxl, hxl]
      refine draw_txt [.q, .q, .q, .q, .q, .q, .q, .q, .q] (by kernel_rfl) ?_
      simp -implicitDefEqProofs only [go_sem, reduceEqDiff, reduceLT, reduceLeDiff, reduceMul, reduceAdd, reduceIte, reduceCtorEq, Nat.reduceBEq, reduceSub, Int.reduceToNat, encTypes, getD_map encNode hi, hi, encNode, getD_map encNode hxl, hxl]
      refine condC_split (fun h2 => ?_) (fun h2 => ?_) <;> simp -implicitDefEqProofs only [go_sem, reduceEqDiff, reduceLT, reduceLeDiff, reduceMul, reduceAdd, reduceIte, reduceCtorEq, Nat.reduceBEq, reduceSub, Int.reduceToNat, encTypes, getD_map encNode hi, hi, encNode, getD_map encNode hxl, hxl]
      · have : nodeE t i = 5 := by
          unfold nodeE; rw [if_neg (by rw [h1]; decide), if_pos (take_any_true (p := fun y : NodeT => decide (y.name = (t.nodes.getD i default).name)) hltx (by omega) h2)]
        rw [this]
      · exact loopN_mk (x + 1) ⟨hltx, all_succB hqx h2⟩ (by omega) (by rw [wrap_succ hltx (by omega)]; exact (weak_mk (by repeat (first | exact sub_env0 _ | refine sub_upd ?_ (by first | rfl | simp [upd]))) (by repeat (first | exact hsub0 _ | refine hsub_hset ?_ (by first | rfl | simp [hset]))) (by repeat (first | exact ids_env0 _ | refine ids_upd ?_ (by simp [idsOk, idsOkL, hset]))) (by repeat (first | exact boxIds0 _ | refine boxIds_row ?_ | refine boxIds_shut ?_ | refine boxIds_box ?_ (by simp [idsOk, idsOkL, hset]))) (by repeat (first | exact keep0 _ | refine keep_low (by decide) ?_ | refine keep_high (by simp [hset]) ?_))))
    · have hge : i ≤ x := by simpa using hc
      have hany := take_any_false (p := fun y : NodeT => decide (y.name = (t.nodes.getD i default).name)) (Nat.le_of_lt hi) fun j hj => hqx j (by omega)
      have e1 : nodeE t i = if ¬ (-1 ≤ (t.nodes.getD i default).parent ∧ (t.nodes.getD i default).parent < i) then 6
          else if 4 < (t.nodes.getD i default).attrs.length then 3 else if 8 < (attrsAt t i).length then 3
          else firstE (fun k => attrX ((attrsAt t i).take k) ((attrsAt t i).getD k default)) ((attrsAt t i).length - (t.nodes.getD i default).attrs.length) (attrsAt t i).length := by
        unfold nodeE; rw [if_neg (by rw [h1]; decide), if_neg (by rw [hany]; decide)]
      rw [e1]
      clear e1
      have hwi : IntKind.i64.wrap ((i : Int) - 1) = (i : Int) - 1 := IntWalk.i64_in _ (by omega)
      simp -implicitDefEqProofs only [go_sem, reduceEqDiff, reduceLT, reduceLeDiff, reduceMul, reduceAdd, reduceIte, reduceCtorEq, Nat.reduceBEq, reduceSub, Int.reduceToNat, hwi, encTypes, getD_map encNode hi, hi, encNode]
      refine call_go (in_ok (t.nodes.getD i default).parent (-1) (i - 1)) (by simp -implicitDefEqProofs only [go_sem, reduceEqDiff, reduceLT, reduceLeDiff, reduceMul, reduceAdd, reduceIte, reduceCtorEq, Nat.reduceBEq, reduceSub, Int.reduceToNat, encTypes, getD_map encNode hi, hi, encNode] <;> rfl) (scal rfl) ?_
      simp -implicitDefEqProofs only [go_sem, reduceEqDiff, reduceLT, reduceLeDiff, reduceMul, reduceAdd, reduceIte, reduceCtorEq, Nat.reduceBEq, reduceSub, Int.reduceToNat, encTypes, getD_map encNode hi, hi, encNode]
      refine condC_splitN (fun h3 => ?_) (fun h3 => ?_) <;> simp -implicitDefEqProofs only [go_sem, reduceEqDiff, reduceLT, reduceLeDiff, reduceMul, reduceAdd, reduceIte, reduceCtorEq, Nat.reduceBEq, reduceSub, Int.reduceToNat, encTypes, getD_map encNode hi, hi, encNode]
      · simp only [Bool.and_eq_true, decide_eq_true_eq] at h3
        rw [if_neg (by omega)]
        have hp' : ParOk t (i + 1) := fun j hj => by
          rcases Nat.lt_succ_iff_lt_or_eq.1 hj with h | h
          · exact hp j h
          · subst h; omega
        have hlen := attrsAt_len hf hi hp'
        have hat : (t.nodes.getD i default).attrs.length ≤ (attrsAt t i).length := by
          rw [attrsAt_eq hp', List.length_append]; omega
        generalize hs : (attrsAt t i).length - (t.nodes.getD i default).attrs.length = s
        have hw : IntKind.i64.wrap (((attrsAt t i).length : Int) - ((t.nodes.getD i default).attrs.length : Int)) = s := by rw [IntWalk.i64_in _ (by omega)]; omega
        refine call_go ((rattrs_ok t hf i hi hp').toL) (by simp -implicitDefEqProofs only [go_sem, reduceEqDiff, reduceLT, reduceLeDiff, reduceMul, reduceAdd, reduceIte, reduceCtorEq, Nat.reduceBEq, reduceSub, Int.reduceToNat, encTypes, getD_map encNode hi, hi, encNode] <;> rfl) (pers) ?_
        simp -implicitDefEqProofs only [go_sem, reduceEqDiff, reduceLT, reduceLeDiff, reduceMul, reduceAdd, reduceIte, reduceCtorEq, Nat.reduceBEq, reduceSub, Int.reduceToNat, encTypes, getD_map encNode hi, hi, encNode]
        refine walkG_splitN (fun h5 => ?_) (fun h5 => ?_) <;> simp -implicitDefEqProofs only [go_sem, reduceEqDiff, reduceLT, reduceLeDiff, reduceMul, reduceAdd, reduceIte, reduceCtorEq, Nat.reduceBEq, reduceSub, Int.reduceToNat, h5, encTypes, getD_map encNode hi, hi, encNode]
        · have h5' := of_decide_eq_true h5
          rw [if_pos (by omega)]
        · have h5' := of_decide_eq_false h5
          rw [if_neg (by omega)]
          refine condC_split (fun h6 => ?_) (fun h6 => ?_) <;> simp -implicitDefEqProofs only [go_sem, reduceEqDiff, reduceLT, reduceLeDiff, reduceMul, reduceAdd, reduceIte, reduceCtorEq, Nat.reduceBEq, reduceSub, Int.reduceToNat, encTypes, getD_map encNode hi, hi, encNode]
          · have h6' := of_decide_eq_true h6
            rw [if_pos (by omega)]
          · have h6' := of_decide_eq_false h6
            rw [if_neg (by omega), hw]
            generalize hf' : (fun k => attrX ((attrsAt t i).take k) ((attrsAt t i).getD k default)) = f
            refine loop_rule (σ := Nat) (fun x => (upd (upd (upd (upd (upd env0 1 (.p (.val (.int .i64 i)))) 2 (.ptr 2 0)) 5 (.ptr 5 0)) 7 (.p (.lst ((attrsAt t i).map encAttr)))) 8 (.p (.val (.int .i64 x)))))
              (fun x => (hset (hset heap0 2 (.box [.p (.lst (t.nodes.map encNode)), .p (.lst (t.edges.map encEdgeT))])) 5 (.box [.p (.val (.string (t.nodes.getD i default).name)), .p (.val (.int .i64 (t.nodes.getD i default).parent)), .p (.val (.bool (t.nodes.getD i default).abs)), .p (.lst ((t.nodes.getD i default).attrs.map encAttr))])))
              (fun x => (s ≤ x ∧ x ≤ (attrsAt t i).length) ∧ ∀ j, s ≤ j → j < x → f j = 0) (fun x => (attrsAt t i).length - x) s ⟨⟨Nat.le_refl _, by omega⟩, fun j hj hj' => absurd hj' (by omega)⟩ (weak_mk (by repeat (first | exact sub_env0 _ | refine sub_upd ?_ (by first | rfl | simp [upd]))) (by repeat (first | exact hsub0 _ | refine hsub_hset ?_ (by first | rfl | simp [hset]))) (by repeat (first | exact ids_env0 _ | refine ids_upd ?_ (by simp [idsOk, idsOkL, hset]))) (by repeat (first | exact boxIds0 _ | refine boxIds_row ?_ | refine boxIds_shut ?_ | refine boxIds_box ?_ (by simp [idsOk, idsOkL, hset]))) (by repeat (first | exact keep0 _ | refine keep_low (by decide) ?_ | refine keep_high (by simp [hset]) ?_))) ?_
            rintro x ⟨⟨hsx, hx⟩, hq⟩
            simp -implicitDefEqProofs only [go_sem, reduceEqDiff, reduceLT, reduceLeDiff, reduceMul, reduceAdd, reduceIte, reduceCtorEq, Nat.reduceBEq, reduceSub, Int.reduceToNat, encTypes, getD_map encNode hi, hi, encNode]
            refine condC_split (fun hc => ?_) (fun hc => ?_)
            · have hlt : x < (attrsAt t i).length := by have := of_decide_eq_true hc; omega
              have hA := hf.fewA hi hp' (getD_mem hlt)
              have e : f x = attrX ((attrsAt t i).take x) ((attrsAt t i).getD x default) := by rw [← hf']
              
              simp -implicitDefEqProofs only [go_sem, reduceEqDiff, reduceLT, reduceLeDiff, reduceMul, reduceAdd, reduceIte, reduceCtorEq, Nat.reduceBEq, reduceSub, Int.reduceToNat, encTypes, getD_map encNode hi, hi, encNode, getD_map encAttr hlt, hlt, encAttr]
              refine call_go (rIsName_ok ((attrsAt t i).getD x default).name (Nat.le_trans hA.name (by decide))) (by simp -implicitDefEqProofs only [go_sem, reduceEqDiff, reduceLT, reduceLeDiff, reduceMul, reduceAdd, reduceIte, reduceCtorEq, Nat.reduceBEq, reduceSub, Int.reduceToNat, encTypes, getD_map encNode hi, hi, encNode, getD_map encAttr hlt, hlt, encAttr] <;> rfl) (scal rfl) ?_
              simp -implicitDefEqProofs only [go_sem, reduceEqDiff, reduceLT, reduceLeDiff, reduceMul, reduceAdd, reduceIte, reduceCtorEq, Nat.reduceBEq, reduceSub, Int.reduceToNat, encTypes, getD_map encNode hi, hi, encNode, getD_map encAttr hlt, hlt, encAttr]
              refine condC_splitN (fun h7 => ?_) (fun h7 => ?_) <;> simp -implicitDefEqProofs only [go_sem, reduceEqDiff, reduceLT, reduceLeDiff, reduceMul, reduceAdd, reduceIte, reduceCtorEq, Nat.reduceBEq, reduceSub, Int.reduceToNat, encTypes, getD_map encNode hi, hi, encNode, getD_map encAttr hlt, hlt, encAttr]
              · refine loop_rule (σ := Nat) (fun y => (upd (upd (upd (upd (upd (upd env0 1 (.p (.val (.int .i64 i)))) 2 (.ptr 2 0)) 5 (.ptr 5 0)) 7 (.p (.lst ((attrsAt t i).map encAttr)))) 8 (.p (.val (.int .i64 x)))) 9 (.p (.val (.int .i64 y)))))
                  (fun x => (hset (hset heap0 2 (.box [.p (.lst (t.nodes.map encNode)), .p (.lst (t.edges.map encEdgeT))])) 5 (.box [.p (.val (.string (t.nodes.getD i default).name)), .p (.val (.int .i64 (t.nodes.getD i default).parent)), .p (.val (.bool (t.nodes.getD i default).abs)), .p (.lst ((t.nodes.getD i default).attrs.map encAttr))])))
                  (fun y => y ≤ x ∧ ∀ j, j < y → decide (((attrsAt t i).getD j default).name = ((attrsAt t i).getD x default).name) = false) (fun y => x - y) 0 ⟨Nat.zero_le _, fun j hj => absurd hj (Nat.not_lt_zero j)⟩ (weak_mk (by repeat (first | exact sub_env0 _ | refine sub_upd ?_ (by first | rfl | simp [upd]))) (by repeat (first | exact hsub0 _ | refine hsub_hset ?_ (by first | rfl | simp [hset]))) (by repeat (first | exact ids_env0 _ | refine ids_upd ?_ (by simp [idsOk, idsOkL, hset]))) (by repeat (first | exact boxIds0 _ | refine boxIds_row ?_ | refine boxIds_shut ?_ | refine boxIds_box ?_ (by simp [idsOk, idsOkL, hset]))) (by repeat (first | exact keep0 _ | refine keep_low (by decide) ?_ | refine keep_high (by simp [hset]) ?_))) ?_
                rintro y ⟨hy, hqy⟩
                simp -implicitDefEqProofs only [go_sem, reduceEqDiff, reduceLT, reduceLeDiff, reduceMul, reduceAdd, reduceIte, reduceCtorEq, Nat.reduceBEq, reduceSub, Int.reduceToNat, encTypes, getD_map encNode hi, hi, encNode, getD_map encAttr hlt, hlt, encAttr]
                refine condC_split (fun hc' => ?_) (fun hc' => ?_)
                · have hlty : y < x := by simpa using hc'
                  have hltl : y < (attrsAt t i).length := by omega
                  
                  simp -implicitDefEqProofs only [go_sem, reduceEqDiff, reduceLT, reduceLeDiff, reduceMul, reduceAdd, reduceIte, reduceCtorEq, Nat.reduceBEq, reduceSub, Int.reduceToNat, encTypes, getD_map encNode hi, hi, encNode, getD_map encAttr hlt, hlt, encAttr, getD_map encAttr hltl, hltl]
                  refine draw_txt [.q, .q, .q, .q, .q, .q, .q, .q, .q, .q, .q] (by kernel_rfl) ?_
                  simp -implicitDefEqProofs only [go_sem, reduceEqDiff, reduceLT, reduceLeDiff, reduceMul, reduceAdd, reduceIte, reduceCtorEq, Nat.reduceBEq, reduceSub, Int.reduceToNat, encTypes, getD_map encNode hi, hi, encNode, getD_map encAttr hlt, hlt, encAttr, getD_map encAttr hltl, hltl]
                  refine condC_split (fun h8 => ?_) (fun h8 => ?_) <;> simp -implicitDefEqProofs only [go_sem, reduceEqDiff, reduceLT, reduceLeDiff, reduceMul, reduceAdd, reduceIte, reduceCtorEq, Nat.reduceBEq, reduceSub, Int.reduceToNat, encTypes, getD_map encNode hi, hi, encNode, getD_map encAttr hlt, hlt, encAttr, getD_map encAttr hltl, hltl]
                  · have e5 : f x = 5 := by
                      rw [e]; unfold attrX
                      rw [if_neg (by rw [h7]; decide), if_pos (take_any_true (p := fun z : Attr => decide (z.name = ((attrsAt t i).getD x default).name)) hlty hx h8)]
                    rw [firstE_at hsx hlt hq (by rw [e5]; decide), e5]
                  · exact loopN_mk (y + 1) ⟨hlty, all_succB hqy h8⟩ (by omega) (by rw [wrap_succ hlty (by omega)]; exact (weak_mk (by repeat (first | exact sub_env0 _ | refine sub_upd ?_ (by first | rfl | simp [upd]))) (by repeat (first | exact hsub0 _ | refine hsub_hset ?_ (by first | rfl | simp [hset]))) (by repeat (first | exact ids_env0 _ | refine ids_upd ?_ (by simp [idsOk, idsOkL, hset]))) (by repeat (first | exact boxIds0 _ | refine boxIds_row ?_ | refine boxIds_shut ?_ | refine boxIds_box ?_ (by simp [idsOk, idsOkL, hset]))) (by repeat (first | exact keep0 _ | refine keep_low (by decide) ?_ | refine keep_high (by simp [hset]) ?_))))
                · have hge' : x ≤ y := by simpa using hc'
                  have e6 : f x = attrE ((attrsAt t i).getD x default) := by
                    rw [e]; unfold attrX
                    rw [if_neg (by rw [h7]; decide), if_neg (by rw [take_any_false (p := fun z : Attr => decide (z.name = ((attrsAt t i).getD x default).name)) hx fun j hj => hqy j (by omega)]; decide)]
                  simp -implicitDefEqProofs only [go_sem, reduceEqDiff, reduceLT, reduceLeDiff, reduceMul, reduceAdd, reduceIte, reduceCtorEq, Nat.reduceBEq, reduceSub, Int.reduceToNat, encTypes, getD_map encNode hi, hi, encNode, getD_map encAttr hlt, hlt, encAttr]
                  refine call_go (rattribute_ok ((attrsAt t i).getD x default) hA) (by simp -implicitDefEqProofs only [go_sem, reduceEqDiff, reduceLT, reduceLeDiff, reduceMul, reduceAdd, reduceIte, reduceCtorEq, Nat.reduceBEq, reduceSub, Int.reduceToNat, encTypes, getD_map encNode hi, hi, encNode, getD_map encAttr hlt, hlt, encAttr] <;> rfl) (scal rfl) ?_
                  simp -implicitDefEqProofs only [go_sem, reduceEqDiff, reduceLT, reduceLeDiff, reduceMul, reduceAdd, reduceIte, reduceCtorEq, Nat.reduceBEq, reduceSub, Int.reduceToNat, encTypes, getD_map encNode hi, hi, encNode, getD_map encAttr hlt, hlt, encAttr]
                  rw [← e6]
                  refine condC_splitN (fun h9 => ?_) (fun h9 => ?_) <;> simp -implicitDefEqProofs only [go_sem, reduceEqDiff, reduceLT, reduceLeDiff, reduceMul, reduceAdd, reduceIte, reduceCtorEq, Nat.reduceBEq, reduceSub, Int.reduceToNat, encTypes, getD_map encNode hi, hi, encNode, getD_map encAttr hlt, hlt, encAttr]
                  · have h9' := of_decide_eq_true h9
                    exact loopN_mk (x + 1) ⟨⟨by omega, hlt⟩, fun j hj hj' => by
                      rcases Nat.lt_succ_iff_lt_or_eq.1 hj' with h | h
                      · exact hq j hj h
                      · rw [h]; exact h9'⟩ (by omega) (by rw [wrap_succ hlt (by omega)]; exact (weak_mk (by repeat (first | exact sub_env0 _ | refine sub_upd ?_ (by first | rfl | simp [upd]))) (by repeat (first | exact hsub0 _ | refine hsub_hset ?_ (by first | rfl | simp [hset]))) (by repeat (first | exact ids_env0 _ | refine ids_upd ?_ (by simp [idsOk, idsOkL, hset]))) (by repeat (first | exact boxIds0 _ | refine boxIds_row ?_ | refine boxIds_shut ?_ | refine boxIds_box ?_ (by simp [idsOk, idsOkL, hset]))) (by repeat (first | exact keep0 _ | refine keep_low (by decide) ?_ | refine keep_high (by simp [hset]) ?_))))
                  · have h9' := of_decide_eq_false h9
                    rw [firstE_at hsx hlt hq h9']
              · have e2 : f x = 2 := by rw [e]; unfold attrX; rw [if_pos h7]
                rw [firstE_at hsx hlt hq (by rw [e2]; decide), e2]
            · have hge : (attrsAt t i).length ≤ x := by have := of_decide_eq_false hc; omega
              simp -implicitDefEqProofs only [go_sem, reduceEqDiff, reduceLT, reduceLeDiff, reduceMul, reduceAdd, reduceIte, reduceCtorEq, Nat.reduceBEq, reduceSub, Int.reduceToNat, encTypes, getD_map encNode hi, hi, encNode]
              rw [firstE_none fun j hj hj' => hq j hj (by omega)]
      · simp only [Bool.and_eq_false_iff, decide_eq_false_iff_not] at h3
        rw [if_pos (by omega)]
  · unfold nodeE; rw [if_pos h1]
end Go.Proofs.YtdlohnchnneaeaaGreat
/- slices.Reverse. -/
namespace Go.Proofs.YtdlohnchnneaeaaGreat
open Go.Abs

def revS (l : List Int) (i : Nat) : List Int := (List.range l.length).map fun k => if k < i ∨ l.length - 1 - i < k then l.getD (l.length - 1 - k) default else l.getD k default
theorem revS_len (l : List Int) (i : Nat) : (revS l i).length = l.length := by simp [revS]
theorem revS_zero (l : List Int) : revS l 0 = l := by
  apply List.ext_getElem
  · simp [revS]
  · intro k h1 h2
    simp only [revS, List.getElem_map, List.getElem_range, Nat.not_lt_zero, false_or, Nat.sub_zero]
    rw [if_neg (by omega)]
    simp [h2]
theorem revS_end (l : List Int) (i : Nat) (h : l.length ≤ 2 * i + 1) : revS l i = l.reverse := by
  apply List.ext_getElem
  · simp [revS]
  · intro k h1 h2
    have hk : k < l.length := by simpa using h2
    simp only [revS, List.getElem_map, List.getElem_range, List.getElem_reverse]
    have h3 : l.length - 1 - k < l.length := by omega
    split
    · simp [h3]
    · have e : k = l.length - 1 - k := by omega
      have : l[l.length - 1 - k] = l[k] := by congr 1; omega
      rw [this]; simp [hk]
theorem revS_at (l : List Int) (i k : Nat) (hk : k < l.length) : (revS l i).getD k default = if k < i ∨ l.length - 1 - i < k then l.getD (l.length - 1 - k) default else l.getD k default := by
  simp only [revS, List.getD_eq_getElem?_getD, List.getElem?_map, List.getElem?_range hk, Option.map_some, Option.getD_some]
theorem revS_succ (l : List Int) (i : Nat) (h : 2 * i + 1 < l.length) : ((revS l i).set i (l.getD (l.length - 1 - i) default)).set (l.length - 1 - i) (l.getD i default) = revS l (i + 1) := by
  apply List.ext_getElem
  · simp [revS]
  · intro k h1 h2
    have hk : k < l.length := by simpa [revS] using h2
    simp only [List.getElem_set, revS, List.getElem_map, List.getElem_range]
    split
    · rename_i e
      rw [if_pos (by omega)]
      congr 1; omega
    · split
      · rename_i e
        rw [if_pos (by omega), e]
      · by_cases h3 : k < i ∨ l.length - 1 - i < k
        · rw [if_pos h3, if_pos (by omega)]
        · rw [if_neg h3, if_neg (by omega)]

theorem map_set_encI (l : List Int) (k : Nat) (y : Int) : (l.map encI).set k [PV.val (.int .i64 y)] = (l.set k y).map encI := by rw [List.map_set]; try rfl

theorem reverse_ok (l : List Int) (hl : l.length ≤ 1000000) (v : Nat) : CallM Go.Proofs.Tryz.prog 155 v 3 1 (l.map encI) [] (fun a c => a = .tup [] ∧ c = some (.row v 3 1 (l.reverse.map encI))) := by
  refine callM_of_cw [] Ty.mixed Go.Proofs.Tryz.func155 rfl (by kernel_rfl) (by simp [Go.Proofs.Tryz.ntmps155]) ?_; rw [Go.Proofs.Tryz.ntmps155, Go.Proofs.Tryz.results155]
  simp -implicitDefEqProofs only [go_sem, reduceEqDiff, reduceLT, reduceLeDiff, reduceMul, reduceAdd, reduceIte, reduceCtorEq, Nat.reduceBEq, reduceSub, Int.reduceToNat]
  have hw : IntKind.i64.wrap ((l.length : Int) - 1) = (l.length : Int) - 1 := IntWalk.i64_in _ (by omega)
  rw [hw]
  refine loop_rule (σ := Nat) (fun x => (upd (upd (upd env0 0 (.row 1000000 v)) 2 (.p (.val (.int .i64 x)))) 3 (.p (.val (.int .i64 ((l.length : Int) - 1 - x)))))) (fun x => (hset heap0 1000000 (.row v 3 1 ((revS l x).map encI))))
    (fun x => 2 * x ≤ l.length + 1) (fun x => l.length - 2 * x) 0 (by omega) ?_ ?_
  · rw [revS_zero]
    exact (weak_mk (by repeat (first | exact sub_env0 _ | refine sub_upd ?_ (by first | rfl | simp [upd]))) (by repeat (first | exact hsub0 _ | refine hsub_hset ?_ (by first | rfl | simp [hset]))) (by repeat (first | exact ids_env0 _ | refine ids_upd ?_ (by simp [idsOk, idsOkL, hset]))) (by repeat (first | exact boxIds0 _ | refine boxIds_row ?_ | refine boxIds_shut ?_ | refine boxIds_box ?_ (by simp [idsOk, idsOkL, hset]))) (by repeat (first | exact keep0 _ | refine keep_low (by decide) ?_ | refine keep_high (by simp [hset]) ?_)))
  rintro x hx
  simp -implicitDefEqProofs only [go_sem, reduceEqDiff, reduceLT, reduceLeDiff, reduceMul, reduceAdd, reduceIte, reduceCtorEq, Nat.reduceBEq, reduceSub, Int.reduceToNat]
  refine condC_split (fun hc => ?_) (fun hc => ?_)
  · have hc' := of_decide_eq_true hc
    have hx1 : x < l.length := by omega
    have hj1 : ((l.length : Int) - 1 - x).toNat = l.length - 1 - x := by omega
    have hj2 : l.length - 1 - x < l.length := by omega
    have hlx : x < (revS l x).length := by rw [revS_len]; exact hx1
    have hlj : l.length - 1 - x < (revS l x).length := by rw [revS_len]; exact hj2
    have hv1 : (revS l x).getD (l.length - 1 - x) default = l.getD (l.length - 1 - x) default := by rw [revS_at l x _ hj2, if_neg (by omega)]
    have hv2 : (revS l x).getD x default = l.getD x default := by rw [revS_at l x _ hx1, if_neg (by omega)]
    have hlj' : l.length - 1 - x < ((revS l x).set x (l.getD (l.length - 1 - x) default)).length := by rw [List.length_set]; exact hlj
    
    
    simp -implicitDefEqProofs only [go_sem, reduceEqDiff, reduceLT, reduceLeDiff, reduceMul, reduceAdd, reduceIte, reduceCtorEq, Nat.reduceBEq, reduceSub, Int.reduceToNat, hv1, hv2, map_set_encI, getD_map encI hlj', hj1, getD_map encI hlx, getD_map encI hlj, encI, revS_len, List.length_set]
    refine draw_txt [.q, .q, .p, .p, .q, .q, .q, .q, .q, .q, .q, .q, .q, .w, .q, .w] (by kernel_rfl) ?_
    simp -implicitDefEqProofs only [go_sem, reduceEqDiff, reduceLT, reduceLeDiff, reduceMul, reduceAdd, reduceIte, reduceCtorEq, Nat.reduceBEq, reduceSub, Int.reduceToNat, hv1, hv2, map_set_encI, getD_map encI hlj', hj1, getD_map encI hlx, getD_map encI hlj, encI, revS_len, List.length_set]
    refine ⟨by omega, hj2, hx1, hx1, hx1, hx1, by omega, hj2, ?_⟩
    rw [revS_succ l x (by omega), wrap_succ (show x < l.length from hx1) (by omega)]
    have hw2 : IntKind.i64.wrap ((l.length : Int) - 1 - x - 1) = (l.length : Int) - 1 - ((x + 1 : Nat) : Int) := by rw [IntWalk.i64_in _ (by omega)]; omega
    rw [hw2]
    exact loopN_mk (x + 1) (by omega) (by omega) (weak_mk (by repeat (first | exact sub_env0 _ | refine sub_upd ?_ (by first | rfl | simp [upd]))) (by repeat (first | exact hsub0 _ | refine hsub_hset ?_ (by first | rfl | simp [hset]))) (by repeat (first | exact ids_env0 _ | refine ids_upd ?_ (by simp [idsOk, idsOkL, hset]))) (by repeat (first | exact boxIds0 _ | refine boxIds_row ?_ | refine boxIds_shut ?_ | refine boxIds_box ?_ (by simp [idsOk, idsOkL, hset]))) (by repeat (first | exact keep0 _ | refine keep_low (by decide) ?_ | refine keep_high (by simp [hset]) ?_)))
  · have hc' := of_decide_eq_false hc
    simp -implicitDefEqProofs only [go_sem, reduceEqDiff, reduceLT, reduceLeDiff, reduceMul, reduceAdd, reduceIte, reduceCtorEq, Nat.reduceBEq, reduceSub, Int.reduceToNat]
    rw [revS_end l x (by omega)]
end Go.Proofs.YtdlohnchnneaeaaGreat
/- slices.Clone. -/
namespace Go.Proofs.YtdlohnchnneaeaaGreat
open Go.Abs

theorem len_encI (l : List Int) : ∀ x ∈ l.map encI, x.length = 1 := by
  intro x hx
  obtain ⟨a, _, rfl⟩ := List.mem_map.1 hx
  rfl
theorem clone_int (l : List Int) (hl : l.length ≤ 1000000) : CallF Go.Proofs.Tryz.prog 46 [.lst (l.map encI)] (fun r => r = .row 3 1 (l.map encI)) := by
  by_cases h0 : l = []
  · subst h0
    refine CallF.lst_nil (by kernel_rfl) fun ao cap => ?_
    refine callF_of_cw [5] Ty.mixed Go.Proofs.Tryz.func46 rfl (by kernel_rfl) (by simp [Go.Proofs.Tryz.ntmps46]) ?_; rw [Go.Proofs.Tryz.ntmps46, Go.Proofs.Tryz.results46]
    simp -implicitDefEqProofs only [go_sem, reduceEqDiff, reduceLT, reduceLeDiff, reduceMul, reduceAdd, reduceIte, reduceCtorEq, Nat.reduceBEq, reduceSub, Int.reduceToNat]
    cases ao with
    | none =>
      simp -implicitDefEqProofs only [go_sem, reduceEqDiff, reduceLT, reduceLeDiff, reduceMul, reduceAdd, reduceIte, reduceCtorEq, Nat.reduceBEq, reduceSub, Int.reduceToNat]
      exact ⟨by decide, _, .nil _ _ (by decide), rfl⟩
    | some a =>
      simp -implicitDefEqProofs only [go_sem, reduceEqDiff, reduceLT, reduceLeDiff, reduceMul, reduceAdd, reduceIte, reduceCtorEq, Nat.reduceBEq, reduceSub, Int.reduceToNat]
      exact ⟨fun _ h => h.elim, by decide, _, .refl _, rfl⟩
  · have hne : l.map encI ≠ [] := by simpa using h0
    refine callF_of_cw [5] Ty.mixed Go.Proofs.Tryz.func46 rfl (by kernel_rfl) (by simp [Go.Proofs.Tryz.ntmps46]) ?_; rw [Go.Proofs.Tryz.ntmps46, Go.Proofs.Tryz.results46]
    simp -implicitDefEqProofs only [go_sem, reduceEqDiff, reduceLT, reduceLeDiff, reduceMul, reduceAdd, reduceIte, reduceCtorEq, Nat.reduceBEq, reduceSub, Int.reduceToNat, hne]
    exact ⟨⟨by omega, len_encI l⟩, by decide, _, .refl _, rfl⟩
theorem len_encS (l : List ByteArray) : ∀ x ∈ l.map encS, x.length = 1 := by
  intro x hx
  obtain ⟨a, _, rfl⟩ := List.mem_map.1 hx
  rfl
theorem clone_str (l : List ByteArray) (hl : l.length ≤ 1000000) : CallF Go.Proofs.Tryz.prog 136 [.lst (l.map encS)] (fun r => r = .row 9 1 (l.map encS)) := by
  by_cases h0 : l = []
  · subst h0
    refine CallF.lst_nil (by kernel_rfl) fun ao cap => ?_
    refine callF_of_cw [5] Ty.mixed Go.Proofs.Tryz.func136 rfl (by kernel_rfl) (by simp [Go.Proofs.Tryz.ntmps136]) ?_; rw [Go.Proofs.Tryz.ntmps136, Go.Proofs.Tryz.results136]
    simp -implicitDefEqProofs only [go_sem, reduceEqDiff, reduceLT, reduceLeDiff, reduceMul, reduceAdd, reduceIte, reduceCtorEq, Nat.reduceBEq, reduceSub, Int.reduceToNat]
    cases ao with
    | none =>
      simp -implicitDefEqProofs only [go_sem, reduceEqDiff, reduceLT, reduceLeDiff, reduceMul, reduceAdd, reduceIte, reduceCtorEq, Nat.reduceBEq, reduceSub, Int.reduceToNat]
      exact ⟨by decide, _, .nil _ _ (by decide), rfl⟩
    | some a =>
      simp -implicitDefEqProofs only [go_sem, reduceEqDiff, reduceLT, reduceLeDiff, reduceMul, reduceAdd, reduceIte, reduceCtorEq, Nat.reduceBEq, reduceSub, Int.reduceToNat]
      exact ⟨fun _ h => h.elim, by decide, _, .refl _, rfl⟩
  · have hne : l.map encS ≠ [] := by simpa using h0
    refine callF_of_cw [5] Ty.mixed Go.Proofs.Tryz.func136 rfl (by kernel_rfl) (by simp [Go.Proofs.Tryz.ntmps136]) ?_; rw [Go.Proofs.Tryz.ntmps136, Go.Proofs.Tryz.results136]
    simp -implicitDefEqProofs only [go_sem, reduceEqDiff, reduceLT, reduceLeDiff, reduceMul, reduceAdd, reduceIte, reduceCtorEq, Nat.reduceBEq, reduceSub, Int.reduceToNat, hne]
    exact ⟨⟨by omega, len_encS l⟩, by decide, _, .refl _, rfl⟩
theorem len_encEdge (l : List Edge) : ∀ x ∈ l.map encEdge, x.length = 3 := by
  intro x hx
  obtain ⟨a, _, rfl⟩ := List.mem_map.1 hx
  rfl
theorem clone_edge (l : List Edge) (hl : l.length ≤ 1000000) : CallF Go.Proofs.Tryz.prog 44 [.lst (l.map encEdge)] (fun r => r = .row 73 3 (l.map encEdge)) := by
  by_cases h0 : l = []
  · subst h0
    refine CallF.lst_nil (by kernel_rfl) fun ao cap => ?_
    refine callF_of_cw [5] Ty.mixed Go.Proofs.Tryz.func44 rfl (by kernel_rfl) (by simp [Go.Proofs.Tryz.ntmps44]) ?_; rw [Go.Proofs.Tryz.ntmps44, Go.Proofs.Tryz.results44]
    simp -implicitDefEqProofs only [go_sem, reduceEqDiff, reduceLT, reduceLeDiff, reduceMul, reduceAdd, reduceIte, reduceCtorEq, Nat.reduceBEq, reduceSub, Int.reduceToNat]
    cases ao with
    | none =>
      simp -implicitDefEqProofs only [go_sem, reduceEqDiff, reduceLT, reduceLeDiff, reduceMul, reduceAdd, reduceIte, reduceCtorEq, Nat.reduceBEq, reduceSub, Int.reduceToNat]
      exact ⟨by decide, _, .nil _ _ (by decide), rfl⟩
    | some a =>
      simp -implicitDefEqProofs only [go_sem, reduceEqDiff, reduceLT, reduceLeDiff, reduceMul, reduceAdd, reduceIte, reduceCtorEq, Nat.reduceBEq, reduceSub, Int.reduceToNat]
      exact ⟨fun _ h => h.elim, by decide, _, .refl _, rfl⟩
  · have hne : l.map encEdge ≠ [] := by simpa using h0
    refine callF_of_cw [5] Ty.mixed Go.Proofs.Tryz.func44 rfl (by kernel_rfl) (by simp [Go.Proofs.Tryz.ntmps44]) ?_; rw [Go.Proofs.Tryz.ntmps44, Go.Proofs.Tryz.results44]
    simp -implicitDefEqProofs only [go_sem, reduceEqDiff, reduceLT, reduceLeDiff, reduceMul, reduceAdd, reduceIte, reduceCtorEq, Nat.reduceBEq, reduceSub, Int.reduceToNat, hne]
    exact ⟨⟨by omega, len_encEdge l⟩, by decide, _, .refl _, rfl⟩
end Go.Proofs.YtdlohnchnneaeaaGreat
