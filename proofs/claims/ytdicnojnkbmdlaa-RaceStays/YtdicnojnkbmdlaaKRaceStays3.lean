/-
  Texts of RaceStays, part 4 of 16. The abstract machine over this seat: its table of functions, facts on its types, and that the table is sound. Written by program (seat.py).
-/
import Derived.Test.YtdicnojnkbmdlaaProg
import Derived.Test.YtdicnojnkbmdlaaKRaceStays2
import Derived.KernelRfl
import Derived.Test.YtdicnojnkbmdlaaKRaceStays0
section
namespace Go.Proofs.Ytdicnojnkbmdlaa
open Go Go.Am

theorem ty1 : tyOf Try.prog 1 = some { size := 1, bytes := 8, agg := false, k := .other, zero := some [.nilFunc] } := by kernel_rfl
theorem tk1 : tk Try.prog 1 = some (.other) := by kernel_rfl
theorem ty2 : tyOf Try.prog 2 = some { size := 1, bytes := 8, agg := false, k := .int .i64, zero := some [.int .i64 0] } := by kernel_rfl
theorem tk2 : tk Try.prog 2 = some (.int .i64) := by kernel_rfl
theorem ty3 : tyOf Try.prog 3 = some { size := 1, bytes := 8, agg := false, k := .int .i64, zero := some [.int .i64 0] } := by kernel_rfl
theorem tk3 : tk Try.prog 3 = some (.int .i64) := by kernel_rfl
theorem ty4 : tyOf Try.prog 4 = some { size := 1, bytes := 1, agg := false, k := .bool, zero := some [.bool false] } := by kernel_rfl
theorem tk4 : tk Try.prog 4 = some (.bool) := by kernel_rfl
theorem ty5 : tyOf Try.prog 5 = some { size := 1, bytes := 1, agg := false, k := .int .u8, zero := some [.int .u8 0] } := by kernel_rfl
theorem tk5 : tk Try.prog 5 = some (.int .u8) := by kernel_rfl
theorem ty9 : tyOf Try.prog 9 = some { size := 1, bytes := 16, agg := false, k := .string, zero := some [.string ⟨#[]⟩] } := by kernel_rfl
theorem tk9 : tk Try.prog 9 = some (.string) := by kernel_rfl
theorem ty22 : tyOf Try.prog 22 = some { size := 1, bytes := 24, agg := false, k := .slice 66, zero := some [.slice none 0 0] } := by kernel_rfl
theorem tk22 : tk Try.prog 22 = some (.slice 66) := by kernel_rfl
theorem ty24 : tyOf Try.prog 24 = some { size := 4, bytes := 48, agg := true, k := .struct [(0, 3), (1, 3), (2, 3), (3, 22)], zero := some [.int .i64 0, .int .i64 0, .int .i64 0, .slice none 0 0] } := by kernel_rfl
theorem tk24 : tk Try.prog 24 = some (.struct [(0, 3), (1, 3), (2, 3), (3, 22)]) := by kernel_rfl
theorem eqOk24 : eqOk Try.prog 24 = true := by kernel_rfl
theorem ty27 : tyOf Try.prog 27 = some { size := 1, bytes := 24, agg := false, k := .slice 2, zero := some [.slice none 0 0] } := by kernel_rfl
theorem tk27 : tk Try.prog 27 = some (.slice 2) := by kernel_rfl
theorem ty28 : tyOf Try.prog 28 = some { size := 1, bytes := 24, agg := false, k := .slice 4, zero := some [.slice none 0 0] } := by kernel_rfl
theorem tk28 : tk Try.prog 28 = some (.slice 4) := by kernel_rfl
theorem ty29 : tyOf Try.prog 29 = some { size := 1, bytes := 8, agg := false, k := .int .i64, zero := some [.int .i64 0] } := by kernel_rfl
theorem tk29 : tk Try.prog 29 = some (.int .i64) := by kernel_rfl
theorem ty40 : tyOf Try.prog 40 = some { size := 1, bytes := 24, agg := false, k := .slice 3, zero := some [.slice none 0 0] } := by kernel_rfl
theorem tk40 : tk Try.prog 40 = some (.slice 3) := by kernel_rfl
theorem ty41 : tyOf Try.prog 41 = some { size := 1, bytes := 24, agg := false, k := .slice 58, zero := some [.slice none 0 0] } := by kernel_rfl
theorem tk41 : tk Try.prog 41 = some (.slice 58) := by kernel_rfl
theorem ty43 : tyOf Try.prog 43 = some { size := 2, bytes := 48, agg := true, k := .struct [(0, 40), (1, 41)], zero := some [.slice none 0 0, .slice none 0 0] } := by kernel_rfl
theorem tk43 : tk Try.prog 43 = some (.struct [(0, 40), (1, 41)]) := by kernel_rfl
theorem eqOk43 : eqOk Try.prog 43 = true := by kernel_rfl
theorem ty46 : tyOf Try.prog 46 = some { size := 3, bytes := 56, agg := true, k := .struct [(0, 4), (1, 40), (2, 40)], zero := some [.bool false, .slice none 0 0, .slice none 0 0] } := by kernel_rfl
theorem tk46 : tk Try.prog 46 = some (.struct [(0, 4), (1, 40), (2, 40)]) := by kernel_rfl
theorem eqOk46 : eqOk Try.prog 46 = true := by kernel_rfl
theorem ty58 : tyOf Try.prog 58 = some { size := 2, bytes := 16, agg := true, k := .array 2 3, zero := some [.int .i64 0, .int .i64 0] } := by kernel_rfl
theorem tk58 : tk Try.prog 58 = some (.array 2 3) := by kernel_rfl
theorem eqOk58 : eqOk Try.prog 58 = true := by kernel_rfl
theorem ty66 : tyOf Try.prog 66 = some { size := 3, bytes := 24, agg := true, k := .struct [(0, 3), (1, 3), (2, 2)], zero := some [.int .i64 0, .int .i64 0, .int .i64 0] } := by kernel_rfl
theorem tk66 : tk Try.prog 66 = some (.struct [(0, 3), (1, 3), (2, 2)]) := by kernel_rfl
theorem eqOk66 : eqOk Try.prog 66 = true := by kernel_rfl
theorem ty67 : tyOf Try.prog 67 = some { size := 1, bytes := 24, agg := false, k := .slice 71, zero := some [.slice none 0 0] } := by kernel_rfl
theorem tk67 : tk Try.prog 67 = some (.slice 71) := by kernel_rfl
theorem ty71 : tyOf Try.prog 71 = some { size := 2, bytes := 16, agg := true, k := .struct [(0, 3), (1, 4)], zero := some [.int .i64 0, .bool false] } := by kernel_rfl
theorem tk71 : tk Try.prog 71 = some (.struct [(0, 3), (1, 4)]) := by kernel_rfl
theorem eqOk71 : eqOk Try.prog 71 = true := by kernel_rfl
theorem ty78 : tyOf Try.prog 78 = some { size := 1, bytes := 24, agg := false, k := .slice 93, zero := some [.slice none 0 0] } := by kernel_rfl
theorem tk78 : tk Try.prog 78 = some (.slice 93) := by kernel_rfl
theorem ty93 : tyOf Try.prog 93 = some { size := 3, bytes := 24, agg := true, k := .struct [(0, 3), (1, 3), (2, 3)], zero := some [.int .i64 0, .int .i64 0, .int .i64 0] } := by kernel_rfl
theorem tk93 : tk Try.prog 93 = some (.struct [(0, 3), (1, 3), (2, 3)]) := by kernel_rfl
theorem eqOk93 : eqOk Try.prog 93 = true := by kernel_rfl
theorem ty104 : tyOf Try.prog 104 = some { size := 1, bytes := 8, agg := false, k := .other, zero := some [.nilFunc] } := by kernel_rfl
theorem tk104 : tk Try.prog 104 = some (.other) := by kernel_rfl

noncomputable def fa3 : FnA := ⟨Try.f3, [0, 1, 2, 3, 4, 5, 6, 7, 8, 9, 10, 11, 12, 14, 17, 45], []⟩
noncomputable def fa4 : FnA := ⟨Try.f4, [0, 1, 2, 3, 6, 7, 8, 9, 10, 11, 12, 13, 14, 16, 29], [(9, .quiet 46)]⟩
noncomputable def fa5 : FnA := ⟨Try.f5, [0, 1, 2, 3, 6, 7, 8, 9, 10, 11, 12, 13, 14, 15, 17, 30, 38, 67], []⟩
noncomputable def fa6 : FnA := ⟨Try.f6, [0, 1, 2, 4, 5, 6, 7, 9, 10, 11, 13, 33], []⟩
noncomputable def fa7 : FnA := ⟨Try.f7, [0, 1, 2, 4, 5, 6, 7, 8, 10, 13], []⟩
noncomputable def fa8 : FnA := ⟨Try.f8, [0, 1, 2, 3, 5, 6, 7, 8, 11, 26], []⟩
noncomputable def fa9 : FnA := ⟨Try.f9, [0, 1, 2, 3, 6, 7, 8, 9, 11, 12, 13, 14, 15, 16, 18, 20, 23, 42, 51, 55, 114], [(14, .led [1, 2, 4, 5, 6] [[0, 3, 7, 8], [0, 3, 8, 7], [0, 8, 3, 7], [8, 0, 3, 7]] [9] [70, 13] [0, 1, 2]), (15, .quiet 12), (16, .quiet 13)]⟩
noncomputable def fa10 : FnA := ⟨Try.f10, [0, 1, 2, 3, 6, 7, 8, 9, 10, 11, 12, 13, 14, 15, 16, 17, 18, 19, 20, 22, 30], [(11, .quiet 41)]⟩
noncomputable def fa11 : FnA := ⟨Try.f11, [0, 1, 2, 3, 6, 7, 8, 9, 10, 11, 12, 13, 14, 16, 18, 26, 34, 54, 57, 61, 62, 63, 64, 91, 100, 104, 105, 106, 107], []⟩
noncomputable def fa12 : FnA := ⟨Try.f12, [0, 1, 2, 3, 4, 5, 6, 41], []⟩
noncomputable def fa13 : FnA := ⟨Try.f13, [0, 1, 2], []⟩
noncomputable def fa14 : FnA := ⟨Try.f14, [0, 1, 2, 3, 4, 5, 6, 7, 8, 9, 10, 11, 12, 14, 18, 35, 43, 59, 74, 75, 76, 77, 81], []⟩
noncomputable def fa15 : FnA := ⟨Try.f15, [0, 1, 2, 3, 4, 5, 6, 7, 8, 12, 29], []⟩
noncomputable def fa16 : FnA := ⟨Try.f16, [0, 1, 4, 5, 10, 12, 13, 14, 24], [(6, .quiet 9)]⟩
noncomputable def fa17 : FnA := ⟨Try.f17, [0, 1, 2, 4, 5, 6, 11], [(4, .led [0, 1, 3, 4] [[2]] [5, 6, 7, 8] [] [])]⟩
noncomputable def fa18 : FnA := ⟨Try.f18, [0, 1, 2, 4, 5, 6, 11], [(4, .led [0, 1, 3, 4] [[2]] [5, 6, 7, 8] [] [])]⟩
noncomputable def fa19 : FnA := ⟨Try.f19, [0, 1, 2, 4, 5, 6, 7, 9, 13, 34, 36, 37, 38, 39, 54], []⟩
noncomputable def fa20 : FnA := ⟨Try.f20, [0, 1, 2, 4, 5, 6, 7, 9, 13, 34, 36, 37, 38, 39, 54], []⟩
noncomputable def fa21 : FnA := ⟨Try.f21, [0, 1, 2, 4, 5, 14, 34, 40, 41, 42, 43, 46, 66], []⟩
noncomputable def fa22 : FnA := ⟨Try.f22, [0, 1, 2, 4, 5, 14, 44, 50, 51, 52, 53, 84, 92], []⟩
noncomputable def fa23 : FnA := ⟨Try.f23, [0, 1, 2, 4, 5, 6, 7, 8, 9, 13, 20, 22, 23, 24, 25, 42, 46, 47, 48, 49, 66], [(9, .quiet 14)]⟩
noncomputable def fa24 : FnA := ⟨Try.f24, [0, 1, 2, 4, 5, 6, 7, 8, 9, 13, 20, 22, 23, 24, 25, 42, 46, 47, 48, 49, 66], [(9, .quiet 14)]⟩
noncomputable def fa25 : FnA := ⟨Try.f25, [0, 1, 2, 3, 6, 7, 8, 9, 17, 25, 29], []⟩
noncomputable def fa26 : FnA := ⟨Try.f26, [0, 1, 2, 3, 6, 7, 8, 9, 17, 26, 30], []⟩
noncomputable def fa27 : FnA := ⟨Try.f27, [0, 1, 2, 3, 4], []⟩
noncomputable def fa28 : FnA := ⟨Try.f28, [0, 1, 2, 3, 5, 7, 16, 18, 19, 20, 21, 29, 34, 36, 37, 38, 39, 68, 74], []⟩
noncomputable def fa29 : FnA := ⟨Try.f29, [0, 1, 2, 4, 5, 6, 7, 8, 9, 10, 11, 12, 13, 15, 16, 17, 18, 26, 30, 31, 32, 33, 39, 58, 59, 60, 79, 89, 90, 91, 100], [(16, .quiet 17)]⟩
noncomputable def fa30 : FnA := ⟨Try.f30, [0, 1, 2, 4, 5, 6, 8, 9, 17, 21, 22, 23, 38], [(7, .quiet 14)]⟩
noncomputable def fa31 : FnA := ⟨Try.f31, [0, 1, 2, 6, 7, 8, 10, 11, 12, 13, 14, 17, 18, 19, 20, 21, 37], []⟩
noncomputable def fa32 : FnA := ⟨Try.f32, [0, 1, 2, 3, 5, 6, 7, 8, 15, 19], []⟩
noncomputable def fa33 : FnA := ⟨Try.f33, [0, 1, 2, 3, 4, 5, 6, 7, 8, 9, 10, 11, 12], []⟩
noncomputable def fa34 : FnA := ⟨Try.f34, [0, 1, 2], []⟩
noncomputable def fa35 : FnA := ⟨Try.f35, [0, 1, 2, 4, 5, 6, 7, 8, 9, 10, 11, 12, 13, 15, 16, 17, 18, 26, 30, 31, 32, 33, 39, 58, 59, 60, 79, 88, 89, 90, 101], [(16, .quiet 17)]⟩
noncomputable def fa36 : FnA := ⟨Try.f36, [0, 1, 4, 5, 10, 12, 13, 14, 24], [(6, .quiet 9)]⟩
noncomputable def fa37 : FnA := ⟨Try.f37, [0, 1, 2, 3, 5, 6, 7, 8, 10, 11, 13, 14, 15, 16, 17, 19, 27, 30, 43, 45, 46, 47, 48, 56, 62, 63, 64, 65, 73, 84, 90, 91, 92, 93, 124, 137, 138, 139, 140, 154, 164], []⟩
noncomputable def fa38 : FnA := ⟨Try.f38, [0, 1, 2, 4, 5, 6, 10, 20], []⟩
noncomputable def fa39 : FnA := ⟨Try.f39, [0, 1, 2, 4, 5, 6, 10, 20], []⟩
noncomputable def fa40 : FnA := ⟨Try.f40, [0, 1, 2, 4, 5, 6, 10, 12, 19], []⟩
noncomputable def fa41 : FnA := ⟨Try.f41, [0, 1, 2, 4, 5, 6, 8, 12, 19, 20, 21, 22, 23, 31], []⟩
noncomputable def fa42 : FnA := ⟨Try.f42, [0, 1, 2, 4, 5, 6, 8, 9, 17, 21, 22, 23, 38], [(7, .quiet 14)]⟩
noncomputable def fa43 : FnA := ⟨Try.f43, [0, 1, 2, 3, 5, 7, 8, 18, 20, 21, 22, 23, 31, 36, 38, 39, 40, 41, 70, 79], []⟩
noncomputable def fa44 : FnA := ⟨Try.f44, [0, 1, 2, 4, 5, 6, 7, 8, 9, 10, 11, 12, 13, 29, 36, 37, 38, 39, 50, 58, 70], [(1, .led [0, 1, 3, 4] [[2, 5, 6], [2, 6, 5], [5, 2, 6]] [7] [19, 6] [0, 1]), (10, .led [0, 1, 2, 3] [[4, 5]] [6] [] []), (12, .led [0, 1, 2, 3] [[4]] [5] [] []), (15, .led [0, 1, 2, 3, 4, 5] [[6]] [7, 8] [] [])]⟩
noncomputable def fa45 : FnA := ⟨Try.f45, [0, 1, 2, 3, 5, 6, 8], [(3, .quiet 14)]⟩
noncomputable def fa46 : FnA := ⟨Try.f46, [0, 1, 2, 4, 5, 6, 7, 8, 9, 10, 11, 27, 34, 35, 36, 37, 61, 95], [(11, .quiet 21), (12, .led [0, 1, 2, 3, 4, 5, 6, 7, 8] [[9]] [10, 11] [] []), (15, .led [0, 1, 2, 3, 4, 5, 6, 7, 8, 9] [[10]] [11, 12] [] [])]⟩
noncomputable def fa47 : FnA := ⟨Try.f47, [0, 1, 2, 3, 6, 7, 8, 9, 10, 16, 22, 66, 72], [(6, .quiet 16)]⟩
noncomputable def fa48 : FnA := ⟨Try.f48, [0, 1, 2, 4, 5, 6, 7, 12, 13, 14, 15], [(5, .quiet 11), (6, .quiet 11)]⟩
noncomputable def fa49 : FnA := ⟨Try.f49, [0, 1, 2, 4, 5, 6, 7, 12, 13, 14, 15], [(5, .quiet 11), (6, .quiet 11)]⟩
noncomputable def fa50 : FnA := ⟨Try.f50, [0, 1, 2, 4], []⟩
noncomputable def fa51 : FnA := ⟨Try.f51, [0, 1, 2, 4, 5, 6, 7, 8, 9, 10, 11, 12, 14, 20, 27, 28, 29, 33, 49, 69, 81, 87, 88, 89, 90], [(15, .quiet 17)]⟩
noncomputable def fa52 : FnA := ⟨Try.f52, [0, 1, 2, 6, 7, 8, 9, 10, 35, 40, 49], []⟩
noncomputable def fa53 : FnA := ⟨Try.f53, [0, 2, 3, 5, 6, 7, 8, 9, 10, 18], []⟩
noncomputable def fa54 : FnA := ⟨Try.f54, [0, 1, 2, 3, 6, 7, 8, 10, 11, 12, 13, 14, 15, 17, 18, 19, 20, 22, 23, 24, 25, 37, 53, 54, 55, 56, 60, 61, 62, 63, 69, 103, 104, 105, 106, 112], [(17, .led [0, 2] [[1]] [3] [] [])]⟩
noncomputable def fa55 : FnA := ⟨Try.f55, [0, 1, 2, 3, 4, 8, 9, 10, 11, 12, 13, 14, 15, 20, 21, 22, 39, 40, 41, 42, 46, 54, 86], [(18, .quiet 8)]⟩
noncomputable def fa56 : FnA := ⟨Try.f56, [0, 1, 2, 4, 5, 7, 14, 15, 16, 17, 29], []⟩
noncomputable def fa57 : FnA := ⟨Try.f57, [0, 1, 2, 3, 5, 6, 7, 26, 37], [(4, .quiet 7)]⟩
noncomputable def fa58 : FnA := ⟨Try.f58, [0, 1, 2, 3, 4, 7, 8, 9, 10, 11, 13, 23, 25, 26, 27, 28, 59, 69, 70, 71, 72, 86, 96], []⟩
noncomputable def fa59 : FnA := ⟨Try.f59, [0, 1, 2, 3, 6, 7, 8, 9, 10, 11, 12, 13, 14, 15, 16, 17, 33, 34, 35, 36, 71, 72, 73, 74, 80], []⟩
noncomputable def fa60 : FnA := ⟨Try.f60, [0, 1, 2, 3, 4, 8, 9, 10, 12, 13, 14, 15, 16, 21, 22, 23, 24, 36, 40, 45, 46, 47, 48, 55, 79], [(15, .quiet 13)]⟩
noncomputable def fa61 : FnA := ⟨Try.f61, [0, 1, 2, 4, 5, 6, 7, 13, 14, 15, 16], [(5, .quiet 11), (6, .quiet 12)]⟩
noncomputable def fa62 : FnA := ⟨Try.f62, [0, 1, 2, 4, 5, 7, 14, 15, 16, 17, 29], []⟩
noncomputable def fa63 : FnA := ⟨Try.f63, [0, 2], []⟩
noncomputable def fa64 : FnA := ⟨Try.f64, [0, 1, 2, 4, 5, 6, 7, 12, 13, 14, 15], [(5, .quiet 11), (6, .quiet 12)]⟩
noncomputable def fa65 : FnA := ⟨Try.f65, [0, 1, 2, 4, 5, 6, 7, 9, 10, 11, 13, 14, 15, 16, 28, 30, 31, 32, 39, 48], [(11, .quiet 6)]⟩
noncomputable def fa66 : FnA := ⟨Try.f66, [0, 1, 2, 3, 4, 15], []⟩
noncomputable def fa67 : FnA := ⟨Try.f67, [0, 1, 4, 5, 6, 11, 14], []⟩
noncomputable def fa68 : FnA := ⟨Try.f68, [0, 2, 4], []⟩
noncomputable def fa69 : FnA := ⟨Try.f69, [0, 1, 2], []⟩
noncomputable def fa70 : FnA := ⟨Try.f70, [0, 1, 3, 4], []⟩
noncomputable def fa71 : FnA := ⟨Try.f71, [0, 1, 3, 4, 5, 7, 8, 9, 16], [(4, .quiet 6)]⟩
noncomputable def fa72 : FnA := ⟨Try.f72, [0, 2, 3, 4, 7, 15], []⟩
noncomputable def fa73 : FnA := ⟨Try.f73, [0, 1, 4], []⟩
noncomputable def fa74 : FnA := ⟨Try.f74, [0, 1, 2, 3, 4], []⟩
noncomputable def fa75 : FnA := ⟨Try.f75, [0, 1, 4], []⟩
noncomputable def fa76 : FnA := ⟨Try.f76, [0, 2], []⟩
noncomputable def fa77 : FnA := ⟨Try.f77, [0, 2, 4], []⟩
noncomputable def fa78 : FnA := ⟨Try.f78, [0, 2], []⟩
noncomputable def fa79 : FnA := ⟨Try.f79, [0, 1, 4, 5, 7, 8, 9, 16], []⟩
noncomputable def fa80 : FnA := ⟨Try.f80, [0, 1, 4, 5, 7, 8, 9, 16], []⟩

noncomputable def fns : FuncId → Option FnA
  | 3 => some fa3
  | 4 => some fa4
  | 5 => some fa5
  | 6 => some fa6
  | 7 => some fa7
  | 8 => some fa8
  | 9 => some fa9
  | 10 => some fa10
  | 11 => some fa11
  | 12 => some fa12
  | 13 => some fa13
  | 14 => some fa14
  | 15 => some fa15
  | 16 => some fa16
  | 17 => some fa17
  | 18 => some fa18
  | 19 => some fa19
  | 20 => some fa20
  | 21 => some fa21
  | 22 => some fa22
  | 23 => some fa23
  | 24 => some fa24
  | 25 => some fa25
  | 26 => some fa26
  | 27 => some fa27
  | 28 => some fa28
  | 29 => some fa29
  | 30 => some fa30
  | 31 => some fa31
  | 32 => some fa32
  | 33 => some fa33
  | 34 => some fa34
  | 35 => some fa35
  | 36 => some fa36
  | 37 => some fa37
  | 38 => some fa38
  | 39 => some fa39
  | 40 => some fa40
  | 41 => some fa41
  | 42 => some fa42
  | 43 => some fa43
  | 44 => some fa44
  | 45 => some fa45
  | 46 => some fa46
  | 47 => some fa47
  | 48 => some fa48
  | 49 => some fa49
  | 50 => some fa50
  | 51 => some fa51
  | 52 => some fa52
  | 53 => some fa53
  | 54 => some fa54
  | 55 => some fa55
  | 56 => some fa56
  | 57 => some fa57
  | 58 => some fa58
  | 59 => some fa59
  | 60 => some fa60
  | 61 => some fa61
  | 62 => some fa62
  | 63 => some fa63
  | 64 => some fa64
  | 65 => some fa65
  | 66 => some fa66
  | 67 => some fa67
  | 68 => some fa68
  | 69 => some fa69
  | 70 => some fa70
  | 71 => some fa71
  | 72 => some fa72
  | 73 => some fa73
  | 74 => some fa74
  | 75 => some fa75
  | 76 => some fa76
  | 77 => some fa77
  | 78 => some fa78
  | 79 => some fa79
  | 80 => some fa80
  | _ => none

noncomputable def sig : Sig := { P := Try.prog, fns := fns, prim := fun _ => none, own := fun f => f == 47 || f == 66 || f == 77, fz := fun f => f == 12 || f == 27 || f == 28 || f == 30 || f == 31 || f == 33 || f == 38 || f == 56 }

theorem fnOK3 : FnOK Try.prog sig.pure 3 fa3 := ⟨Try.func3, by kernel_rfl, fun c hc => by cases hc; kernel_rfl⟩
theorem fnOK4 : FnOK Try.prog sig.pure 4 fa4 := ⟨Try.func4, by kernel_rfl, fun c hc => by cases hc; kernel_rfl⟩
theorem fnOK5 : FnOK Try.prog sig.pure 5 fa5 := ⟨Try.func5, by kernel_rfl, fun c hc => by cases hc; kernel_rfl⟩
theorem fnOK6 : FnOK Try.prog sig.pure 6 fa6 := ⟨Try.func6, by kernel_rfl, fun c hc => by cases hc; kernel_rfl⟩
theorem fnOK7 : FnOK Try.prog sig.pure 7 fa7 := ⟨Try.func7, by kernel_rfl, fun c hc => by cases hc; kernel_rfl⟩
theorem fnOK8 : FnOK Try.prog sig.pure 8 fa8 := ⟨Try.func8, by kernel_rfl, fun c hc => by cases hc; kernel_rfl⟩
theorem fnOK9 : FnOK Try.prog sig.pure 9 fa9 := ⟨Try.func9, by kernel_rfl, fun c hc => by cases hc; kernel_rfl⟩
theorem fnOK10 : FnOK Try.prog sig.pure 10 fa10 := ⟨Try.func10, by kernel_rfl, fun c hc => by cases hc; kernel_rfl⟩
theorem fnOK11 : FnOK Try.prog sig.pure 11 fa11 := ⟨Try.func11, by kernel_rfl, fun c hc => by cases hc; kernel_rfl⟩
theorem fnOK12 : FnOK Try.prog sig.pure 12 fa12 := ⟨Try.func12, by kernel_rfl, fun c hc => by cases hc; kernel_rfl⟩
theorem fnOK13 : FnOK Try.prog sig.pure 13 fa13 := ⟨Try.func13, by kernel_rfl, fun c hc => by cases hc; kernel_rfl⟩
theorem fnOK14 : FnOK Try.prog sig.pure 14 fa14 := ⟨Try.func14, by kernel_rfl, fun c hc => by cases hc; kernel_rfl⟩
theorem fnOK15 : FnOK Try.prog sig.pure 15 fa15 := ⟨Try.func15, by kernel_rfl, fun c hc => by cases hc; kernel_rfl⟩
theorem fnOK16 : FnOK Try.prog sig.pure 16 fa16 := ⟨Try.func16, by kernel_rfl, fun c hc => by cases hc; kernel_rfl⟩
theorem fnOK17 : FnOK Try.prog sig.pure 17 fa17 := ⟨Try.func17, by kernel_rfl, fun c hc => by cases hc; kernel_rfl⟩
theorem fnOK18 : FnOK Try.prog sig.pure 18 fa18 := ⟨Try.func18, by kernel_rfl, fun c hc => by cases hc; kernel_rfl⟩
theorem fnOK19 : FnOK Try.prog sig.pure 19 fa19 := ⟨Try.func19, by kernel_rfl, fun c hc => by cases hc; kernel_rfl⟩
theorem fnOK20 : FnOK Try.prog sig.pure 20 fa20 := ⟨Try.func20, by kernel_rfl, fun c hc => by cases hc; kernel_rfl⟩
theorem fnOK21 : FnOK Try.prog sig.pure 21 fa21 := ⟨Try.func21, by kernel_rfl, fun c hc => by cases hc; kernel_rfl⟩
theorem fnOK22 : FnOK Try.prog sig.pure 22 fa22 := ⟨Try.func22, by kernel_rfl, fun c hc => by cases hc; kernel_rfl⟩
theorem fnOK23 : FnOK Try.prog sig.pure 23 fa23 := ⟨Try.func23, by kernel_rfl, fun c hc => by cases hc; kernel_rfl⟩
theorem fnOK24 : FnOK Try.prog sig.pure 24 fa24 := ⟨Try.func24, by kernel_rfl, fun c hc => by cases hc; kernel_rfl⟩
theorem fnOK25 : FnOK Try.prog sig.pure 25 fa25 := ⟨Try.func25, by kernel_rfl, fun c hc => by cases hc; kernel_rfl⟩
theorem fnOK26 : FnOK Try.prog sig.pure 26 fa26 := ⟨Try.func26, by kernel_rfl, fun c hc => by cases hc; kernel_rfl⟩
theorem fnOK27 : FnOK Try.prog sig.pure 27 fa27 := ⟨Try.func27, by kernel_rfl, fun c hc => by cases hc; kernel_rfl⟩
theorem fnOK28 : FnOK Try.prog sig.pure 28 fa28 := ⟨Try.func28, by kernel_rfl, fun c hc => by cases hc; kernel_rfl⟩
theorem fnOK29 : FnOK Try.prog sig.pure 29 fa29 := ⟨Try.func29, by kernel_rfl, fun c hc => by cases hc; kernel_rfl⟩
theorem fnOK30 : FnOK Try.prog sig.pure 30 fa30 := ⟨Try.func30, by kernel_rfl, fun c hc => by cases hc; kernel_rfl⟩
theorem fnOK31 : FnOK Try.prog sig.pure 31 fa31 := ⟨Try.func31, by kernel_rfl, fun c hc => by cases hc; kernel_rfl⟩
theorem fnOK32 : FnOK Try.prog sig.pure 32 fa32 := ⟨Try.func32, by kernel_rfl, fun c hc => by cases hc; kernel_rfl⟩
theorem fnOK33 : FnOK Try.prog sig.pure 33 fa33 := ⟨Try.func33, by kernel_rfl, fun c hc => by cases hc; kernel_rfl⟩
theorem fnOK34 : FnOK Try.prog sig.pure 34 fa34 := ⟨Try.func34, by kernel_rfl, fun c hc => by cases hc; kernel_rfl⟩
theorem fnOK35 : FnOK Try.prog sig.pure 35 fa35 := ⟨Try.func35, by kernel_rfl, fun c hc => by cases hc; kernel_rfl⟩
theorem fnOK36 : FnOK Try.prog sig.pure 36 fa36 := ⟨Try.func36, by kernel_rfl, fun c hc => by cases hc; kernel_rfl⟩
theorem fnOK37 : FnOK Try.prog sig.pure 37 fa37 := ⟨Try.func37, by kernel_rfl, fun c hc => by cases hc; kernel_rfl⟩
theorem fnOK38 : FnOK Try.prog sig.pure 38 fa38 := ⟨Try.func38, by kernel_rfl, fun c hc => by cases hc; kernel_rfl⟩
theorem fnOK39 : FnOK Try.prog sig.pure 39 fa39 := ⟨Try.func39, by kernel_rfl, fun c hc => by cases hc; kernel_rfl⟩
theorem fnOK40 : FnOK Try.prog sig.pure 40 fa40 := ⟨Try.func40, by kernel_rfl, fun c hc => by cases hc; kernel_rfl⟩
theorem fnOK41 : FnOK Try.prog sig.pure 41 fa41 := ⟨Try.func41, by kernel_rfl, fun c hc => by cases hc; kernel_rfl⟩
theorem fnOK42 : FnOK Try.prog sig.pure 42 fa42 := ⟨Try.func42, by kernel_rfl, fun c hc => by cases hc; kernel_rfl⟩
theorem fnOK43 : FnOK Try.prog sig.pure 43 fa43 := ⟨Try.func43, by kernel_rfl, fun c hc => by cases hc; kernel_rfl⟩
theorem fnOK44 : FnOK Try.prog sig.pure 44 fa44 := ⟨Try.func44, by kernel_rfl, fun c hc => by cases hc; kernel_rfl⟩
theorem fnOK45 : FnOK Try.prog sig.pure 45 fa45 := ⟨Try.func45, by kernel_rfl, fun c hc => by cases hc; kernel_rfl⟩
theorem fnOK46 : FnOK Try.prog sig.pure 46 fa46 := ⟨Try.func46, by kernel_rfl, fun c hc => by cases hc; kernel_rfl⟩
theorem fnOK47 : FnOK Try.prog sig.pure 47 fa47 := ⟨Try.func47, by kernel_rfl, fun c hc => by cases hc; kernel_rfl⟩
theorem fnOK48 : FnOK Try.prog sig.pure 48 fa48 := ⟨Try.func48, by kernel_rfl, fun c hc => by cases hc; kernel_rfl⟩
theorem fnOK49 : FnOK Try.prog sig.pure 49 fa49 := ⟨Try.func49, by kernel_rfl, fun c hc => by cases hc; kernel_rfl⟩
theorem fnOK50 : FnOK Try.prog sig.pure 50 fa50 := ⟨Try.func50, by kernel_rfl, fun c hc => by cases hc; kernel_rfl⟩
theorem fnOK51 : FnOK Try.prog sig.pure 51 fa51 := ⟨Try.func51, by kernel_rfl, fun c hc => by cases hc; kernel_rfl⟩
theorem fnOK52 : FnOK Try.prog sig.pure 52 fa52 := ⟨Try.func52, by kernel_rfl, fun c hc => by cases hc; kernel_rfl⟩
theorem fnOK53 : FnOK Try.prog sig.pure 53 fa53 := ⟨Try.func53, by kernel_rfl, fun c hc => by cases hc; kernel_rfl⟩
theorem fnOK54 : FnOK Try.prog sig.pure 54 fa54 := ⟨Try.func54, by kernel_rfl, fun c hc => by cases hc; kernel_rfl⟩
theorem fnOK55 : FnOK Try.prog sig.pure 55 fa55 := ⟨Try.func55, by kernel_rfl, fun c hc => by cases hc; kernel_rfl⟩
theorem fnOK56 : FnOK Try.prog sig.pure 56 fa56 := ⟨Try.func56, by kernel_rfl, fun c hc => by cases hc; kernel_rfl⟩
theorem fnOK57 : FnOK Try.prog sig.pure 57 fa57 := ⟨Try.func57, by kernel_rfl, fun c hc => by cases hc; kernel_rfl⟩
theorem fnOK58 : FnOK Try.prog sig.pure 58 fa58 := ⟨Try.func58, by kernel_rfl, fun c hc => by cases hc; kernel_rfl⟩
theorem fnOK59 : FnOK Try.prog sig.pure 59 fa59 := ⟨Try.func59, by kernel_rfl, fun c hc => by cases hc; kernel_rfl⟩
theorem fnOK60 : FnOK Try.prog sig.pure 60 fa60 := ⟨Try.func60, by kernel_rfl, fun c hc => by cases hc; kernel_rfl⟩
theorem fnOK61 : FnOK Try.prog sig.pure 61 fa61 := ⟨Try.func61, by kernel_rfl, fun c hc => by cases hc; kernel_rfl⟩
theorem fnOK62 : FnOK Try.prog sig.pure 62 fa62 := ⟨Try.func62, by kernel_rfl, fun c hc => by cases hc; kernel_rfl⟩
theorem fnOK63 : FnOK Try.prog sig.pure 63 fa63 := ⟨Try.func63, by kernel_rfl, fun c hc => by cases hc; kernel_rfl⟩
theorem fnOK64 : FnOK Try.prog sig.pure 64 fa64 := ⟨Try.func64, by kernel_rfl, fun c hc => by cases hc; kernel_rfl⟩
theorem fnOK65 : FnOK Try.prog sig.pure 65 fa65 := ⟨Try.func65, by kernel_rfl, fun c hc => by cases hc; kernel_rfl⟩
theorem fnOK66 : FnOK Try.prog sig.pure 66 fa66 := ⟨Try.func66, by kernel_rfl, fun c hc => by cases hc; kernel_rfl⟩
theorem fnOK67 : FnOK Try.prog sig.pure 67 fa67 := ⟨Try.func67, by kernel_rfl, fun c hc => by cases hc; kernel_rfl⟩
theorem fnOK68 : FnOK Try.prog sig.pure 68 fa68 := ⟨Try.func68, by kernel_rfl, fun c hc => by cases hc; kernel_rfl⟩
theorem fnOK69 : FnOK Try.prog sig.pure 69 fa69 := ⟨Try.func69, by kernel_rfl, fun c hc => by cases hc; kernel_rfl⟩
theorem fnOK70 : FnOK Try.prog sig.pure 70 fa70 := ⟨Try.func70, by kernel_rfl, fun c hc => by cases hc; kernel_rfl⟩
theorem fnOK71 : FnOK Try.prog sig.pure 71 fa71 := ⟨Try.func71, by kernel_rfl, fun c hc => by cases hc; kernel_rfl⟩
theorem fnOK72 : FnOK Try.prog sig.pure 72 fa72 := ⟨Try.func72, by kernel_rfl, fun c hc => by cases hc; kernel_rfl⟩
theorem fnOK73 : FnOK Try.prog sig.pure 73 fa73 := ⟨Try.func73, by kernel_rfl, fun c hc => by cases hc; kernel_rfl⟩
theorem fnOK74 : FnOK Try.prog sig.pure 74 fa74 := ⟨Try.func74, by kernel_rfl, fun c hc => by cases hc; kernel_rfl⟩
theorem fnOK75 : FnOK Try.prog sig.pure 75 fa75 := ⟨Try.func75, by kernel_rfl, fun c hc => by cases hc; kernel_rfl⟩
theorem fnOK76 : FnOK Try.prog sig.pure 76 fa76 := ⟨Try.func76, by kernel_rfl, fun c hc => by cases hc; kernel_rfl⟩
theorem fnOK77 : FnOK Try.prog sig.pure 77 fa77 := ⟨Try.func77, by kernel_rfl, fun c hc => by cases hc; kernel_rfl⟩
theorem fnOK78 : FnOK Try.prog sig.pure 78 fa78 := ⟨Try.func78, by kernel_rfl, fun c hc => by cases hc; kernel_rfl⟩
theorem fnOK79 : FnOK Try.prog sig.pure 79 fa79 := ⟨Try.func79, by kernel_rfl, fun c hc => by cases hc; kernel_rfl⟩
theorem fnOK80 : FnOK Try.prog sig.pure 80 fa80 := ⟨Try.func80, by kernel_rfl, fun c hc => by cases hc; kernel_rfl⟩

theorem fns_ok : ∀ f fa, fns f = some fa → FnOK Try.prog sig.pure f fa := by
  intro f fa h
  unfold fns at h
  split at h <;> first | (cases h; done) | skip
  · cases h; exact fnOK3
  · cases h; exact fnOK4
  · cases h; exact fnOK5
  · cases h; exact fnOK6
  · cases h; exact fnOK7
  · cases h; exact fnOK8
  · cases h; exact fnOK9
  · cases h; exact fnOK10
  · cases h; exact fnOK11
  · cases h; exact fnOK12
  · cases h; exact fnOK13
  · cases h; exact fnOK14
  · cases h; exact fnOK15
  · cases h; exact fnOK16
  · cases h; exact fnOK17
  · cases h; exact fnOK18
  · cases h; exact fnOK19
  · cases h; exact fnOK20
  · cases h; exact fnOK21
  · cases h; exact fnOK22
  · cases h; exact fnOK23
  · cases h; exact fnOK24
  · cases h; exact fnOK25
  · cases h; exact fnOK26
  · cases h; exact fnOK27
  · cases h; exact fnOK28
  · cases h; exact fnOK29
  · cases h; exact fnOK30
  · cases h; exact fnOK31
  · cases h; exact fnOK32
  · cases h; exact fnOK33
  · cases h; exact fnOK34
  · cases h; exact fnOK35
  · cases h; exact fnOK36
  · cases h; exact fnOK37
  · cases h; exact fnOK38
  · cases h; exact fnOK39
  · cases h; exact fnOK40
  · cases h; exact fnOK41
  · cases h; exact fnOK42
  · cases h; exact fnOK43
  · cases h; exact fnOK44
  · cases h; exact fnOK45
  · cases h; exact fnOK46
  · cases h; exact fnOK47
  · cases h; exact fnOK48
  · cases h; exact fnOK49
  · cases h; exact fnOK50
  · cases h; exact fnOK51
  · cases h; exact fnOK52
  · cases h; exact fnOK53
  · cases h; exact fnOK54
  · cases h; exact fnOK55
  · cases h; exact fnOK56
  · cases h; exact fnOK57
  · cases h; exact fnOK58
  · cases h; exact fnOK59
  · cases h; exact fnOK60
  · cases h; exact fnOK61
  · cases h; exact fnOK62
  · cases h; exact fnOK63
  · cases h; exact fnOK64
  · cases h; exact fnOK65
  · cases h; exact fnOK66
  · cases h; exact fnOK67
  · cases h; exact fnOK68
  · cases h; exact fnOK69
  · cases h; exact fnOK70
  · cases h; exact fnOK71
  · cases h; exact fnOK72
  · cases h; exact fnOK73
  · cases h; exact fnOK74
  · cases h; exact fnOK75
  · cases h; exact fnOK76
  · cases h; exact fnOK77
  · cases h; exact fnOK78
  · cases h; exact fnOK79
  · cases h; exact fnOK80

theorem sig_ok : SigOK sig := ⟨by kernel_rfl, fns_ok, fun f h => by
  have h := (show (f == 12 || f == 27 || f == 28 || f == 30 || f == 31 || f == 33 || f == 38 || f == 56) = true from h)
  simp only [Bool.or_eq_true, beq_iff_eq] at h
  rcases h with (((((((rfl | rfl) | rfl) | rfl) | rfl) | rfl) | rfl) | rfl) <;> rfl, fun f p h => by cases h⟩
end Go.Proofs.Ytdicnojnkbmdlaa
end
section
namespace Go.Am
open Go

/-! ### More fuel, the same answer -/
def CallLe (c c' : CallF) : Prop := ∀ lim f args H r, c lim f args H = some r → c' lim f args H = some r

theorem opV_mono {P : Program} {c c' : CallF} (hc : CallLe c c') {lim : Nat} {o : Op} {e : Env} {H : Heap} {r : AV × Heap} (h : opV P c lim o e H = some r) : opV P c' lim o e H = some r := by
  unfold opV at *
  split
  · rename_i t a hl; simp only [hl] at h; exact h
  · rename_i hl
    simp only [hl] at h
    split
    · rename_i f args hcv; simp only [hcv] at h; exact hc _ _ _ _ _ h
    · rename_i hcv; simp only [hcv] at h; exact h

theorem runOps_mono {P : Program} {c c' : CallF} (hc : CallLe c c') {lim : Nat} {ops : Array Oper} : ∀ (l : List Oper) (e : Env) (H : Heap) (r : Env × Heap),
    runOps P c lim ops l e H = some r → runOps P c' lim ops l e H = some r
  | [], _, _, _, h => h
  | o :: l, e, H, r, h => by
    simp only [runOps] at h ⊢
    split
    · rename_i hw
      simp only [hw] at h
      split at h
      · rename_i x H' ho
        rw [opV_mono hc ho]
        exact runOps_mono hc l _ _ _ h
      · cases h
    · rename_i hw
      simp only [hw] at h
      exact runOps_mono hc l _ _ _ h
    · rename_i hw
      simp only [hw] at h
      cases h

theorem quietV_mono {P : Program} {c c' : CallF} (hc : CallLe c c') {pu : FuncId → Bool} {o : Op} {e : Env} {H : Heap} {r : AV} (h : quietV P c pu o e H = some r) : quietV P c' pu o e H = some r := by
  unfold quietV at *
  split
  · rename_i t a hl; simp only [hl] at h; exact h
  · rename_i hl
    simp only [hl] at h
    split
    · rename_i f args hcv
      simp only [hcv] at h
      split
      · rename_i hp
        simp only [hp, if_true] at h
        split at h
        · rename_i x H' hx
          rw [hc _ _ _ _ _ hx]
          exact h
        · cases h
      · rename_i hp; simp [hp] at h
    · rename_i hcv; simp only [hcv] at h; exact h

theorem runQuiet_mono {P : Program} {c c' : CallF} (hc : CallLe c c') {pu : FuncId → Bool} {ops : Array Oper} : ∀ (l : List Oper) (e : Env) (H : Heap) (r : Env),
    runQuiet P c pu ops l e H = some r → runQuiet P c' pu ops l e H = some r
  | [], _, _, _, h => h
  | o :: l, e, H, r, h => by
    simp only [runQuiet] at h ⊢
    split
    · rename_i hw
      simp only [hw] at h
      split at h
      · rename_i x ho
        rw [quietV_mono hc ho]
        exact runQuiet_mono hc l _ _ _ h
      · cases h
    · rename_i hw
      simp only [hw] at h
      exact runQuiet_mono hc l _ _ _ h
    · rename_i hw
      simp only [hw] at h
      cases h

theorem altsOK_mono {P : Program} {c c' : CallF} (hc : CallLe c c') {ops : Array Oper} {live keep : List Nat} {n0 : Nat} {e e0 : Env} {H H0 : Heap} : ∀ (ms : List (List Nat)), altsOK P c ops live keep n0 e H e0 H0 ms = true → altsOK P c' ops live keep n0 e H e0 H0 ms = true
  | [], _ => rfl
  | m :: ms, h => by
    simp only [altsOK, Bool.and_eq_true] at h ⊢
    refine ⟨?_, altsOK_mono hc ms h.2⟩
    have h1 := h.1
    split at h1
    · rename_i r hr; rw [runOps_mono hc _ _ _ _ hr]; exact h1
    · cases h1
theorem runMid_mono {P : Program} {c c' : CallF} (hc : CallLe c c') {lim : Nat} {ops : Array Oper} {R : List Nat} : ∀ (l : List Oper) (e : Env) (H : Heap) (r : Env × Heap),
    runMid P c lim ops R l e H = some r → runMid P c' lim ops R l e H = some r
  | [], _, _, _, h => h
  | o :: l, e, H, r, h => by
    simp only [runMid] at h ⊢
    split at h
    rotate_left
    · cases h
    rename_i hwc
    rw [if_pos hwc]
    split
    · rename_i hw
      simp only [hw] at h
      split at h
      · rename_i x H' ho
        rw [opV_mono hc ho]
        exact runMid_mono hc l _ _ _ h
      · cases h
    · rename_i hw
      simp only [hw] at h
      exact runMid_mono hc l _ _ _ h
    · rename_i hw
      simp only [hw] at h
      cases h
theorem led_mono {P : Program} {c c' : CallF} (hc : CallLe c c') {lim : Nat} {ops : Array Oper} {lead : List Nat} {mids : List (List Nat)} {fin live keep : List Nat} {s r : St} (h : led P c lim ops lead mids fin live keep s = some r) : led P c' lim ops lead mids fin live keep s = some r := by
  unfold led at *
  split at h
  · split at h
    rotate_left
    · cases h
    rename_i e1 H1 hrun
    simp only [runMid_mono hc _ _ _ _ hrun]
    simp only [Option.map_eq_some_iff] at h ⊢
    obtain ⟨x, hx, hr⟩ := h
    exact ⟨x, runOps_mono hc _ _ _ _ hx, hr⟩
  · split at h
    rotate_left
    · cases h
    rename_i e1 H1 hrun
    simp only [runOps_mono hc _ _ _ _ hrun]
    split at h
    rotate_left
    · cases h
    rename_i halt
    rw [if_pos (altsOK_mono hc _ halt)]
    simp only [Option.map_eq_some_iff] at h ⊢
    obtain ⟨x, hx, hr⟩ := h
    exact ⟨x, runOps_mono hc _ _ _ _ hx, hr⟩
  · cases h

theorem region_mono {P : Program} {c c' : CallF} (hc : CallLe c c') {pu : FuncId → Bool} {lim : Nat} {dr : List (Nat × Draw)} {id : Nat} {ops : Array Oper} {draw : Bool} {s : St} {r : St}
    (h : region P c pu lim dr id ops draw s = some r) : region P c' pu lim dr id ops draw s = some r := by
  unfold region at *
  split
  · rename_i hd
    simp only [hd, if_true] at h
    split
    · rename_i n hn
      simp only [hn] at h
      split at h
      · rename_i e he
        rw [runQuiet_mono hc _ _ _ _ he]
        simp only [Option.map_eq_some_iff] at h ⊢
        obtain ⟨x, hx, hr⟩ := h
        exact ⟨x, runOps_mono hc _ _ _ _ hx, hr⟩
      · cases h
    · rename_i lead mids fin live keep hn; simp only [hn] at h; exact led_mono hc h
    · rename_i hn; simp only [hn] at h; cases h
  · rename_i hd
    simp only [hd] at h
    simp only [Bool.false_eq_true, if_false, Option.map_eq_some_iff] at h ⊢
    obtain ⟨x, hx, hr⟩ := h
    exact ⟨x, runOps_mono hc _ _ _ _ hx, hr⟩

theorem exec_mono {P : Program} {c c' : CallF} (hc : CallLe c c') {pu : FuncId → Bool} {lim : Nat} {dr : List (Nat × Draw)} : ∀ (n m : Nat), n ≤ m → ∀ (code : Code) (s : St) (r : Ex × St),
    exec P c pu lim dr n code s = some r → exec P c' pu lim dr m code s = some r
  | 0, _, _, _, _, _, h => by cases h
  | n + 1, 0, hle, _, _, _, _ => by omega
  | n + 1, m + 1, hle, code, s, r, h => by
    have ih := exec_mono (P := P) hc (pu := pu) (lim := lim) (dr := dr) n m (by omega)
    cases code <;> simp only [exec] at h ⊢ <;> try exact h
    case region id ops draw =>
      simp only [Option.map_eq_some_iff] at h ⊢
      obtain ⟨x, hx, hr⟩ := h
      exact ⟨x, region_mono hc hx, hr⟩
    case seq a b =>
      split at h
      · rename_i s' ha
        rw [ih _ _ _ ha]
        exact ih _ _ _ h
      · rename_i hr
        cases hx : exec P c pu lim dr n a s with
        | none => rw [hx] at h; cases h
        | some y =>
          rw [ih _ _ _ hx]
          rw [hx] at h hr
          obtain ⟨e, s'⟩ := y
          cases e
          · exact absurd rfl (hr _)
          · exact h
          · exact h
    case cond c x y =>
      split at h
      · rename_i t ht
        split at h
        · rename_i h1; simp only [h1]; exact ih _ _ _ h
        · rename_i h1; simp only [h1]; exact ih _ _ _ h
      · cases h
    case block id b =>
      cases hx : exec P c pu lim dr n b s with
      | none => rw [hx] at h; cases h
      | some y =>
        rw [ih _ _ _ hx]
        rw [hx] at h
        exact h
    case loop b =>
      cases hx : exec P c pu lim dr n b s with
      | none => rw [hx] at h; cases h
      | some y =>
        rw [ih _ _ _ hx]
        rw [hx] at h
        obtain ⟨e, s'⟩ := y
        cases e
        · exact ih _ _ _ h
        · exact h
        · exact h

theorem acall_mono (S : Sig) : ∀ (n m : Nat), n ≤ m → CallLe (acall S n) (acall S m)
  | 0, _, _ => fun _ _ _ _ _ h => by cases h
  | n + 1, 0, h => by omega
  | n + 1, m + 1, hle => by
    intro lim f args H r h
    simp only [acall] at h ⊢
    split
    · rename_i p hp; simp only [hp] at h; exact h
    · rename_i hp
      simp only [hp] at h
      split
      · rename_i fa hf
        simp only [hf] at h
        split
        · rename_i c hb
          simp only [hb] at h
          have ih := acall_mono S n m (by omega)
          by_cases hz : S.fz f = true
          · simp only [hz, if_true] at h ⊢
            cases hx : exec S.P (acall S n) S.pure 0 fa.draws n c ⟨env0 fa.keep (args.map (frz H 0 8)), []⟩ with
            | none => rw [hx] at h; simp [finish] at h
            | some y => rw [exec_mono ih n m (by omega) _ _ _ hx]; rw [hx] at h; exact h
          · simp only [hz, Bool.false_eq_true, if_false] at h ⊢
            cases hx : exec S.P (acall S n) S.pure (if S.own f then lim else H.length) fa.draws n c ⟨env0 fa.keep args, H⟩ with
            | none => rw [hx] at h; simp [finish] at h
            | some y => rw [exec_mono ih n m (by omega) _ _ _ hx]; rw [hx] at h; exact h
        · rename_i hb; simp only [hb] at h; cases h
      · rename_i hf; simp only [hf] at h; cases h

/-! ### Enough for an end -/
section
variable (S : Sig)

/-- The call comes to an end of which K holds. -/
def ACall (lim : Nat) (f : FuncId) (args : List AV) (H : Heap) (K : AV → Heap → Prop) : Prop := ∃ n r H', acall S n lim f args H = some (r, H') ∧ K r H'

def W (lim : Nat) (dr : List (Nat × Draw)) (c : Code) (s : St) (Q : Ex → St → Prop) : Prop := ∃ n e s', exec S.P (acall S n) S.pure lim dr n c s = some (e, s') ∧ Q e s'

def optP {α : Type} (x : Option α) (K : α → Prop) : Prop :=
  match x with
  | some a => K a
  | none => False

def opP (lim : Nat) (o : Op) (e : Env) (H : Heap) (K : AV → Heap → Prop) : Prop :=
  match o with
  | .load t a => optP (loadV S.P H t (evO e a)) (K · H)
  | .move x | .assign x => K (evO e x) H
  | .call { callee := .value f, args, argTypes := _ } =>
    match evO e f with
    | .clo g l => ACall S lim g (args.toList.map (evO e) ++ l) H K
    | _ => False
  | .alloc _ | .box _ _ | .store _ _ _ | .buildSlice _ _ _ | .makeSlice _ _ _ | .call { callee := .builtin .append, args := _, argTypes := _ } => optP (effV S.P lim o (evO e) H) fun r => K r.1 r.2
  | o => optP (popV S.P o (evO e)) (K · H)

def guardP (ops : Array Oper) (e : Env) (o : Oper) (Y N : Prop) : Prop :=
  match wantedA ops e o with
  | some true => Y
  | some false => N
  | none => False

def Rp (lim : Nat) (ops : Array Oper) : List Oper → Env → Heap → (Env → Heap → Prop) → Prop
  | [], e, H, K => K e H
  | o :: l, e, H, K => guardP ops e o (opP S lim o.op e H fun x H' => Rp lim ops l (e.put o.dst x) H' K) (Rp lim ops l (e.put o.dst (.v undef)) H K)

/-- A call in a region that draws its order: its answer must be the same in every world. -/
def opQ (o : Op) (e : Env) (H : Heap) (K : AV → Prop) : Prop :=
  match o with
  | .load t a => optP (loadV S.P H t (evO e a)) K
  | .move x | .assign x => K (evO e x)
  | .call { callee := .value f, args, argTypes := _ } =>
    match evO e f with
    | .clo g l => S.pure g = true ∧ ACall S H.length g (args.toList.map (evO e) ++ l) H fun x _ => exacts x = true ∧ K x
    | _ => False
  | o => optP (popV S.P o (evO e)) K

def Qp (ops : Array Oper) : List Oper → Env → Heap → (Env → Prop) → Prop
  | [], e, _, K => K e
  | o :: l, e, H, K => guardP ops e o (opQ S o.op e H fun x => Qp ops l (e.put o.dst x) H K) (Qp ops l (e.put o.dst (.v undef)) H K)

variable {S}

theorem opV_of_opP {lim : Nat} {o : Op} {e : Env} {H : Heap} {K : AV → Heap → Prop} (h : opP S lim o e H K) : ∃ n x H', opV S.P (acall S n) lim o e H = some (x, H') ∧ K x H' := by
  unfold opP at h
  split at h
  · rename_i t a
    unfold optP at h
    split at h
    · rename_i x hx; exact ⟨0, x, H, by simp [opV, isLoad, hx], h⟩
    · exact h.elim
  · exact ⟨0, _, H, by simp [opV, isLoad, callV, popV], h⟩
  · exact ⟨0, _, H, by simp [opV, isLoad, callV, popV], h⟩
  · rename_i f args _
    split at h
    · rename_i g l hf
      obtain ⟨n, r, H', hc, hk⟩ := h
      exact ⟨n, r, H', by simp [opV, isLoad, callV, hf, hc], hk⟩
    · exact h.elim
  · unfold optP at h
    split at h
    · rename_i x hx; exact ⟨0, x.1, x.2, by simp [opV, isLoad, callV, popV, hx], h⟩
    · exact h.elim
  · unfold optP at h
    split at h
    · rename_i x hx; exact ⟨0, x.1, x.2, by simp [opV, isLoad, callV, popV, hx], h⟩
    · exact h.elim
  · unfold optP at h
    split at h
    · rename_i x hx; exact ⟨0, x.1, x.2, by simp [opV, isLoad, callV, popV, hx], h⟩
    · exact h.elim
  · unfold optP at h
    split at h
    · rename_i x hx; exact ⟨0, x.1, x.2, by simp [opV, isLoad, callV, popV, hx], h⟩
    · exact h.elim
  · unfold optP at h
    split at h
    · rename_i x hx; exact ⟨0, x.1, x.2, by simp [opV, isLoad, callV, popV, hx], h⟩
    · exact h.elim
  · unfold optP at h
    split at h
    · rename_i x hx; exact ⟨0, x.1, x.2, by simp [opV, isLoad, callV, popV, hx], h⟩
    · exact h.elim
  · rename_i h1 h2 h3 h4 h5 h6 h7 h8 h9 h10
    unfold optP at h
    split at h
    · rename_i x hx
      refine ⟨0, x, H, ?_, h⟩
      have e1 : isLoad o = none := by unfold isLoad; split <;> first | rfl | (exact absurd rfl (h1 _ _))
      have e2 : callV o (evO e) = none := by
        unfold callV
        split
        · exact absurd rfl (h4 _ _ _)
        · rfl
      simp [opV, e1, e2, hx]
    · exact h.elim

theorem runOps_of_Rp {lim : Nat} {ops : Array Oper} : ∀ (l : List Oper) (e : Env) (H : Heap) (K : Env → Heap → Prop), Rp S lim ops l e H K → ∃ n e' H', runOps S.P (acall S n) lim ops l e H = some (e', H') ∧ K e' H'
  | [], e, H, K, h => ⟨0, e, H, rfl, h⟩
  | o :: l, e, H, K, h => by
    simp only [Rp, guardP] at h
    split at h
    · rename_i hw
      obtain ⟨n, x, H', ho, hr⟩ := opV_of_opP h
      obtain ⟨m, e', H'', hm, hk⟩ := runOps_of_Rp l _ _ _ hr
      refine ⟨max n m, e', H'', ?_, hk⟩
      simp only [runOps, hw, opV_mono (acall_mono S n (max n m) (by omega)) ho]
      exact runOps_mono (acall_mono S m (max n m) (by omega)) _ _ _ _ hm
    · rename_i hw
      obtain ⟨m, e', H'', hm, hk⟩ := runOps_of_Rp l _ _ _ h
      exact ⟨m, e', H'', by simp only [runOps, hw]; exact hm, hk⟩
    · exact h.elim

theorem quietV_of_opQ {o : Op} {e : Env} {H : Heap} {K : AV → Prop} (h : opQ S o e H K) : ∃ n x, quietV S.P (acall S n) S.pure o e H = some x ∧ K x := by
  unfold opQ at h
  split at h
  · rename_i t a
    unfold optP at h
    split at h
    · rename_i x hx; exact ⟨0, x, by simp [quietV, isLoad, hx], h⟩
    · exact h.elim
  · exact ⟨0, _, by simp [quietV, isLoad, callV, popV], h⟩
  · exact ⟨0, _, by simp [quietV, isLoad, callV, popV], h⟩
  · rename_i f args _
    split at h
    · rename_i g l hf
      obtain ⟨hp, n, r, H', hc, hk, hk'⟩ := h
      exact ⟨n, r, by simp [quietV, isLoad, callV, hf, hp, hc, hk], hk'⟩
    · exact h.elim
  · rename_i h1 h2 h3 h4
    unfold optP at h
    split at h
    · rename_i x hx
      refine ⟨0, x, ?_, h⟩
      have e1 : isLoad o = none := by unfold isLoad; split <;> first | rfl | (exact absurd rfl (h1 _ _))
      have e2 : callV o (evO e) = none := by
        unfold callV
        split
        · exact absurd rfl (h4 _ _ _)
        · rfl
      simp [quietV, e1, e2, hx]
    · exact h.elim

theorem runQuiet_of_Qp {ops : Array Oper} : ∀ (l : List Oper) (e : Env) (H : Heap) (K : Env → Prop), Qp S ops l e H K → ∃ n e', runQuiet S.P (acall S n) S.pure ops l e H = some e' ∧ K e'
  | [], e, H, K, h => ⟨0, e, rfl, h⟩
  | o :: l, e, H, K, h => by
    simp only [Qp, guardP] at h
    split at h
    · rename_i hw
      obtain ⟨n, x, ho, hr⟩ := quietV_of_opQ h
      obtain ⟨m, e', hm, hk⟩ := runQuiet_of_Qp l _ _ _ hr
      refine ⟨max n m, e', ?_, hk⟩
      simp only [runQuiet, hw, quietV_mono (acall_mono S n (max n m) (by omega)) ho]
      exact runQuiet_mono (acall_mono S m (max n m) (by omega)) _ _ _ _ hm
    · rename_i hw
      obtain ⟨m, e', hm, hk⟩ := runQuiet_of_Qp l _ _ _ h
      exact ⟨m, e', by simp only [runQuiet, hw]; exact hm, hk⟩
    · exact h.elim

variable {lim : Nat} {dr : List (Nat × Draw)} {s : St} {Q : Ex → St → Prop}

theorem W_mono {c : Code} {Q' : Ex → St → Prop} (h : W S lim dr c s Q) (hq : ∀ e s, Q e s → Q' e s) : W S lim dr c s Q' :=
  let ⟨n, e, s', h1, h2⟩ := h
  ⟨n, e, s', h1, hq _ _ h2⟩

theorem W_skip (h : Q .normal s) : W S lim dr .skip s Q := ⟨1, .normal, s, rfl, h⟩
theorem W_ret (h : Q .ret s) : W S lim dr .ret s Q := ⟨1, .ret, s, rfl, h⟩
theorem W_exit {id : Nat} (h : Q (.exit id) s) : W S lim dr (.exit id) s Q := ⟨1, .exit id, s, rfl, h⟩

def thenQ (N : St → Prop) (Q : Ex → St → Prop) : Ex → St → Prop
  | .normal, s => N s
  | e, s => Q e s

theorem W_seq {a b : Code} (h : W S lim dr a s (thenQ (fun s' => W S lim dr b s' Q) Q)) : W S lim dr (.seq a b) s Q := by
  obtain ⟨n, e, s', h1, h2⟩ := h
  cases e with
  | normal =>
    obtain ⟨m, e', s'', h3, h4⟩ := h2
    refine ⟨max n m + 1, e', s'', ?_, h4⟩
    simp only [exec]
    rw [exec_mono (acall_mono S n (max n m + 1) (by omega)) n (max n m) (by omega) _ _ _ h1]
    exact exec_mono (acall_mono S m (max n m + 1) (by omega)) m (max n m) (by omega) _ _ _ h3
  | exit id =>
    refine ⟨n + 1, _, s', ?_, h2⟩
    simp only [exec]
    rw [exec_mono (acall_mono S n (n + 1) (by omega)) n n (by omega) _ _ _ h1]
  | ret =>
    refine ⟨n + 1, _, s', ?_, h2⟩
    simp only [exec]
    rw [exec_mono (acall_mono S n (n + 1) (by omega)) n n (by omega) _ _ _ h1]

theorem W_cond {c : Operand} {x y : Code} {t : Bool} (hc : evO s.loc c = .v (.bool t)) (h1 : t = true → W S lim dr x s Q) (h2 : t = false → W S lim dr y s Q) : W S lim dr (.cond c x y) s Q := by
  cases t with
  | true =>
    obtain ⟨n, e, s', h3, h4⟩ := h1 rfl
    refine ⟨n + 1, e, s', ?_, h4⟩
    simp only [exec, hc, if_true]
    exact exec_mono (acall_mono S n (n + 1) (by omega)) n n (by omega) _ _ _ h3
  | false =>
    obtain ⟨n, e, s', h3, h4⟩ := h2 rfl
    refine ⟨n + 1, e, s', ?_, h4⟩
    simp only [exec, hc, Bool.false_eq_true, if_false]
    exact exec_mono (acall_mono S n (n + 1) (by omega)) n n (by omega) _ _ _ h3

def blockQ (id : Nat) (Q : Ex → St → Prop) : Ex → St → Prop
  | .exit j, s => if j = id then Q .normal s else Q (.exit j) s
  | e, s => Q e s

theorem W_block {id : Nat} {b : Code} (h : W S lim dr b s (blockQ id Q)) : W S lim dr (.block id b) s Q := by
  obtain ⟨n, e, s', h1, h2⟩ := h
  have h3 := exec_mono (acall_mono S n (n + 1) (by omega)) n n (by omega) _ _ _ h1
  cases e with
  | normal => exact ⟨n + 1, .normal, s', by simp only [exec]; rw [h3], h2⟩
  | ret => exact ⟨n + 1, .ret, s', by simp only [exec]; rw [h3], h2⟩
  | exit j =>
    by_cases hj : j = id
    · simp only [blockQ, hj, if_true] at h2
      exact ⟨n + 1, .normal, s', by simp only [exec]; rw [h3]; simp [hj], h2⟩
    · simp only [blockQ, hj, if_false] at h2
      exact ⟨n + 1, .exit j, s', by simp only [exec]; rw [h3]; simp [hj], h2⟩

theorem W_loop {b : Code} (h : W S lim dr b s (thenQ (fun s' => W S lim dr (.loop b) s' Q) Q)) : W S lim dr (.loop b) s Q := by
  obtain ⟨n, e, s', h1, h2⟩ := h
  cases e with
  | normal =>
    obtain ⟨m, e', s'', h3, h4⟩ := h2
    refine ⟨max n m + 1, e', s'', ?_, h4⟩
    simp only [exec]
    rw [exec_mono (acall_mono S n (max n m + 1) (by omega)) n (max n m) (by omega) _ _ _ h1]
    exact exec_mono (acall_mono S m (max n m + 1) (by omega)) m (max n m) (by omega) _ _ _ h3
  | exit id =>
    refine ⟨n + 1, _, s', ?_, h2⟩
    simp only [exec]
    rw [exec_mono (acall_mono S n (n + 1) (by omega)) n n (by omega) _ _ _ h1]
  | ret =>
    refine ⟨n + 1, _, s', ?_, h2⟩
    simp only [exec]
    rw [exec_mono (acall_mono S n (n + 1) (by omega)) n n (by omega) _ _ _ h1]

/-- A loop by what holds at every round's head, and a number that every round lowers. -/
theorem W_loop_inv {b : Code} (I : St → Prop) (μ : St → Nat) (h0 : I s) (round : ∀ s, I s → W S lim dr b s (thenQ (fun s' => I s' ∧ μ s' < μ s) Q)) : W S lim dr (.loop b) s Q := by
  have key : ∀ n s, μ s = n → I s → W S lim dr (.loop b) s Q := by
    intro n
    induction n using Nat.strongRecOn with
    | _ n ih =>
      intro s hn hI
      refine W_loop (W_mono (round s hI) fun e s' h => ?_)
      cases e with
      | normal => exact ih (μ s') (hn ▸ h.2) s' rfl h.1
      | exit id => exact h
      | ret => exact h
  exact key _ s rfl h0

theorem W_region {id : Nat} {ops : Array Oper} (h : Rp S lim ops ops.toList s.loc s.H fun e H => Q .normal ⟨trim e s.loc, H⟩) : W S lim dr (.region id ops false) s Q := by
  obtain ⟨n, e, H, h1, h2⟩ := runOps_of_Rp _ _ _ _ h
  refine ⟨n + 1, .normal, _, ?_, h2⟩
  simp only [exec, region, Bool.false_eq_true, if_false]
  rw [runOps_mono (acall_mono S n (n + 1) (by omega)) _ _ _ _ h1]
  rfl

theorem W_region_draw {id n : Nat} {ops : Array Oper} (hd : dr.lookup id = some (.quiet n))
    (h : Qp S ops (ops.toList.take n) s.loc s.H fun e => Rp S lim ops (ops.toList.drop n) e s.H fun e H => Q .normal ⟨trim e s.loc, H⟩) : W S lim dr (.region id ops true) s Q := by
  obtain ⟨k, e, h1, h2⟩ := runQuiet_of_Qp _ _ _ _ h
  obtain ⟨m, e', H, h3, h4⟩ := runOps_of_Rp _ _ _ _ h2
  refine ⟨max k m + 1, .normal, _, ?_, h4⟩
  simp only [exec, region, if_true, hd]
  rw [runQuiet_mono (acall_mono S k (max k m + 1) (by omega)) _ _ _ _ h1]
  simp only
  rw [runOps_mono (acall_mono S m (max k m + 1) (by omega)) _ _ _ _ h3]
  rfl

/-! ### Calls -/
theorem ACall_mono {f : FuncId} {args : List AV} {H : Heap} {K K' : AV → Heap → Prop} (h : ACall S lim f args H K) (hk : ∀ r H', K r H' → K' r H') : ACall S lim f args H K' :=
  let ⟨n, r, H', h1, h2⟩ := h
  ⟨n, r, H', h1, hk _ _ h2⟩

def retP (S : Sig) (own : Bool) (fa : FnA) (H0 : Heap) (K : AV → Heap → Prop) : Ex → St → Prop
  | .exit _, _ => False
  | _, s => optP (resAll S.P s.loc s.H fa.fn.results.toList) fun l => if own then K (oneOr l) s.H else K (frz s.H H0.length 8 (oneOr l)) H0

theorem ACall_fn {f : FuncId} {fa : FnA} {c : Code} {args : List AV} {H : Heap} {K : AV → Heap → Prop} (hp : S.prim f = none) (hf : S.fns f = some fa) (hb : fa.fn.body = some c) (hz : S.fz f = false)
    (h : W S (if S.own f then lim else H.length) fa.draws c ⟨env0 fa.keep args, H⟩ (retP S (S.own f) fa H K)) : ACall S lim f args H K := by
  obtain ⟨n, e, s', h1, h2⟩ := h
  have fin : ∀ e', e' ≠ Ex.exit 0 → True := fun _ _ => trivial
  have go : ∀ (hh : optP (resAll S.P s'.loc s'.H fa.fn.results.toList) fun l => if S.own f then K (oneOr l) s'.H else K (frz s'.H H.length 8 (oneOr l)) H) (hne : ∀ id, e ≠ .exit id),
      ∃ n r H', acall S n lim f args H = some (r, H') ∧ K r H' := by
    intro hh hne
    unfold optP at hh
    split at hh
    · rename_i l hl
      by_cases ho : S.own f = true
      · simp only [ho, if_true] at hh
        refine ⟨n + 1, _, _, ?_, hh⟩
        simp only [acall, hp, hf, hb, hz, Bool.false_eq_true, if_false]
        rw [h1]
        cases e <;> first | exact absurd rfl (hne _) | simp [finish, hl, ho]
      · simp only [ho] at hh
        refine ⟨n + 1, _, _, ?_, hh⟩
        simp only [acall, hp, hf, hb, hz, Bool.false_eq_true, if_false]
        rw [h1]
        cases e <;> first | exact absurd rfl (hne _) | simp [finish, hl, ho]
    · exact hh.elim
  cases e with
  | normal => exact go h2 (by simp)
  | ret => exact go h2 (by simp)
  | exit id => exact h2.elim

def bodyOf (fa : FnA) : Code := fa.fn.body.getD .skip
theorem ACall_at {f : FuncId} {fa : FnA} {args : List AV} {H : Heap} {K : AV → Heap → Prop} (hp : S.prim f = none) (hf : S.fns f = some fa) (hb : fa.fn.body.isSome = true) {own : Bool} (ho : S.own f = own) (hz : S.fz f = false)
    (h : W S (if own then lim else H.length) fa.draws (bodyOf fa) ⟨env0 fa.keep args, H⟩ (retP S own fa H K)) : ACall S lim f args H K := by
  subst ho
  exact ACall_fn hp hf (c := bodyOf fa) (by unfold bodyOf; cases hh : fa.fn.body with | none => rw [hh] at hb; cases hb | some c => rfl) hz h
/-- A function of plain answers: what the caller's memory holds is taken as data. -/
theorem ACall_fz {f : FuncId} {fa : FnA} {args : List AV} {H : Heap} {K : AV → Heap → Prop} (hp : S.prim f = none) (hf : S.fns f = some fa) (hb : fa.fn.body.isSome = true) (hz : S.fz f = true) {args' : List AV} (ha : args.map (frz H 0 8) = args')
    (h : W S 0 fa.draws (bodyOf fa) ⟨env0 fa.keep args', []⟩ (retP S false fa [] fun r _ => exacts r = true ∧ K r H)) : ACall S lim f args H K := by
  subst ha
  have hb' : fa.fn.body = some (bodyOf fa) := by unfold bodyOf; cases hh : fa.fn.body with | none => rw [hh] at hb; cases hb | some c => rfl
  obtain ⟨n, e, s', h1, h2⟩ := h
  have go : ∀ (hh : optP (resAll S.P s'.loc s'.H fa.fn.results.toList) fun l => exacts (frz s'.H 0 8 (oneOr l)) = true ∧ K (frz s'.H 0 8 (oneOr l)) H) (hne : ∀ id, e ≠ .exit id),
      ∃ n r H', acall S n lim f args H = some (r, H') ∧ K r H' := by
    intro hh hne
    unfold optP at hh
    split at hh
    · rename_i l hl
      refine ⟨n + 1, _, H, ?_, hh.2⟩
      simp only [acall, hp, hf, hb', hz, if_true]
      rw [h1]
      cases e <;> first | exact absurd rfl (hne _) | simp [finish, hl, hh.1]
    · exact hh.elim
  cases e with
  | normal => exact go (by simpa [retP] using h2) (by simp)
  | ret => exact go (by simpa [retP] using h2) (by simp)
  | exit id => exact h2.elim

theorem ACall_prim {f : FuncId} {p : List AV → Heap → Option AV} {args : List AV} {H : Heap} {K : AV → Heap → Prop} {r : AV} (hp : S.prim f = some p) (hr : p args H = some r) (hk : K r H) : ACall S lim f args H K :=
  ⟨1, r, H, by simp [acall, hp, hr], hk⟩

/-- A closed call, by evaluation. -/
theorem ACall_eval {f : FuncId} {args : List AV} {H : Heap} {K : AV → Heap → Prop} (n : Nat) {r : AV} {H' : Heap} (h : acall S n lim f args H = some (r, H')) (hk : K r H') : ACall S lim f args H K := ⟨n, r, H', h, hk⟩

/-! ### Code by its place: 0 the left part (a body, the way 'yes'), 1 the right part (the way 'no') -/
def Cl : Code → Code
  | .seq a _ => a
  | .cond _ a _ => a
  | .block _ b => b
  | .loop b => b
  | _ => .skip
def Cr : Code → Code
  | .seq _ b => b
  | .cond _ _ b => b
  | _ => .skip
def at' (c : Code) : List Nat → Code
  | [] => c
  | 0 :: p => Cl (at' c p)
  | _ :: p => Cr (at' c p)

theorem at_seq {c : Code} {p : List Nat} (h : at' c p = .seq (at' c (0 :: p)) (at' c (1 :: p))) (hw : W S lim dr (at' c (0 :: p)) s (thenQ (fun s' => W S lim dr (at' c (1 :: p)) s' Q) Q)) : W S lim dr (at' c p) s Q := by
  rw [h]; exact W_seq hw
theorem at_cond {c : Code} {p : List Nat} {o : Operand} {t : Bool} (h : at' c p = .cond o (at' c (0 :: p)) (at' c (1 :: p))) (hc : evO s.loc o = .v (.bool t)) (h1 : t = true → W S lim dr (at' c (0 :: p)) s Q) (h2 : t = false → W S lim dr (at' c (1 :: p)) s Q) : W S lim dr (at' c p) s Q := by
  rw [h]; exact W_cond hc h1 h2
theorem at_block {c : Code} {p : List Nat} {id : Nat} (h : at' c p = .block id (at' c (0 :: p))) (hw : W S lim dr (at' c (0 :: p)) s (blockQ id Q)) : W S lim dr (at' c p) s Q := by
  rw [h]; exact W_block hw
theorem at_loop {c : Code} {p : List Nat} (h : at' c p = .loop (at' c (0 :: p))) (I : St → Prop) (μ : St → Nat) (h0 : I s) (round : ∀ s, I s → W S lim dr (at' c (0 :: p)) s (thenQ (fun s' => I s' ∧ μ s' < μ s) Q)) : W S lim dr (at' c p) s Q := by
  rw [h]; exact W_loop_inv I μ h0 round
theorem at_region {c : Code} {p : List Nat} {id : Nat} {ops : Array Oper} (h : at' c p = .region id ops false) (hw : Rp S lim ops ops.toList s.loc s.H fun e H => Q .normal ⟨trim e s.loc, H⟩) : W S lim dr (at' c p) s Q := by
  rw [h]; exact W_region hw
theorem at_draw {c : Code} {p : List Nat} {id n : Nat} {ops : Array Oper} (h : at' c p = .region id ops true) (hd : dr.lookup id = some (.quiet n))
    (hw : Qp S ops (ops.toList.take n) s.loc s.H fun e => Rp S lim ops (ops.toList.drop n) e s.H fun e H => Q .normal ⟨trim e s.loc, H⟩) : W S lim dr (at' c p) s Q := by
  rw [h]; exact W_region_draw hd hw
theorem at_skip {c : Code} {p : List Nat} (h : at' c p = .skip) (hw : Q .normal s) : W S lim dr (at' c p) s Q := by
  rw [h]; exact W_skip hw
theorem at_ret {c : Code} {p : List Nat} (h : at' c p = .ret) (hw : Q .ret s) : W S lim dr (at' c p) s Q := by
  rw [h]; exact W_ret hw
theorem at_exit {c : Code} {p : List Nat} {id : Nat} (h : at' c p = .exit id) (hw : Q (.exit id) s) : W S lim dr (at' c p) s Q := by
  rw [h]; exact W_exit hw
theorem ACall_pure {f : FuncId} {fa : FnA} {args : List AV} {H : Heap} {K : AV → Heap → Prop} (hp : S.prim f = none) (hf : S.fns f = some fa) (hb : fa.fn.body.isSome = true) (ho : S.own f = false)
    (h : W S H.length fa.draws (at' (bodyOf fa) []) ⟨env0 fa.keep args, H⟩ (retP S false fa H K)) (hz : S.fz f = false := by rfl) : ACall S lim f args H K := ACall_at hp hf hb ho hz h
theorem ACall_data {f : FuncId} {fa : FnA} {args : List AV} {H : Heap} {K : AV → Heap → Prop} (hp : S.prim f = none) (hf : S.fns f = some fa) (hb : fa.fn.body.isSome = true) (hz : S.fz f = true) {args' : List AV} (ha : args.map (frz H 0 8) = args')
    (h : W S 0 fa.draws (at' (bodyOf fa) []) ⟨env0 fa.keep args', []⟩ (retP S false fa [] fun r _ => exacts r = true ∧ K r H)) : ACall S lim f args H K := ACall_fz hp hf hb hz ha h
theorem ACall_own {f : FuncId} {fa : FnA} {args : List AV} {H : Heap} {K : AV → Heap → Prop} (hp : S.prim f = none) (hf : S.fns f = some fa) (hb : fa.fn.body.isSome = true) (ho : S.own f = true)
    (h : W S lim fa.draws (at' (bodyOf fa) []) ⟨env0 fa.keep args, H⟩ (retP S true fa H K)) (hz : S.fz f = false := by rfl) : ACall S lim f args H K := ACall_at hp hf hb ho hz h

/-! ### A region whose order is drawn, by a checked order -/
/-- Those that are taken first. -/
def Lp (S : Sig) (ops : Array Oper) (H : Heap) (K : Env → List Nat → Prop) : List Oper → Env → List Nat → Prop
  | [], e, R => K e R
  | o :: l, e, R => guardP ops e o (optP (takeV S.P o.op e H) fun x => Lp S ops H K l (e.put o.dst x) (rdV o.op e ++ R)) (Lp S ops H K l (e.put o.dst (.v undef)) R)
theorem runLead_of_Lp {S : Sig} {ops : Array Oper} {H : Heap} {K : Env → List Nat → Prop} : ∀ (l : List Oper) (e : Env) (R : List Nat), Lp S ops H K l e R → ∃ e' R', runLead S.P ops l e H R = some (e', R') ∧ K e' R'
  | [], e, R, h => ⟨e, R, rfl, h⟩
  | o :: l, e, R, h => by
    simp only [Lp, guardP] at h
    split at h
    · rename_i hw
      unfold optP at h
      split at h
      · rename_i x hx
        obtain ⟨e', R', h1, h2⟩ := runLead_of_Lp l _ _ h
        exact ⟨e', R', by simp only [runLead, hw, hx]; exact h1, h2⟩
      · exact h.elim
    · rename_i hw
      obtain ⟨e', R', h1, h2⟩ := runLead_of_Lp l _ _ h
      exact ⟨e', R', by simp only [runLead, hw]; exact h1, h2⟩
    · exact h.elim
/-- Those in the middle, one by one. -/
def Mp (S : Sig) (lim : Nat) (ops : Array Oper) (R : List Nat) (K : Env → Heap → Prop) : List Oper → Env → Heap → Prop
  | [], e, H => K e H
  | o :: l, e, H => wrC R o e = true ∧ Rp S lim ops [o] e H fun e' H' => Mp S lim ops R K l e' H'
theorem runMid_of_Mp {S : Sig} {lim : Nat} {ops : Array Oper} {R : List Nat} {K : Env → Heap → Prop} : ∀ (l : List Oper) (e : Env) (H : Heap), Mp S lim ops R K l e H → ∃ n e' H', runMid S.P (acall S n) lim ops R l e H = some (e', H') ∧ K e' H'
  | [], e, H, h => ⟨0, e, H, rfl, h⟩
  | o :: l, e, H, h => by
    obtain ⟨hc, h⟩ := h
    simp only [Rp, guardP] at h
    split at h
    · rename_i hw
      obtain ⟨n, x, H', ho, hr⟩ := opV_of_opP h
      obtain ⟨m, e', H'', hm, hk⟩ := runMid_of_Mp l _ _ hr
      refine ⟨max n m, e', H'', ?_, hk⟩
      simp only [runMid, hc, if_true, hw, opV_mono (acall_mono S n (max n m) (by omega)) ho]
      exact runMid_mono (acall_mono S m (max n m) (by omega)) _ _ _ _ hm
    · rename_i hw
      obtain ⟨m, e', H'', hm, hk⟩ := runMid_of_Mp l _ _ h
      exact ⟨m, e', H'', by simp only [runMid, hc, if_true, hw]; exact hm, hk⟩
    · exact h.elim
theorem at_led {S : Sig} {lim : Nat} {dr : List (Nat × Draw)} {s : St} {Q : Ex → St → Prop} {c : Code} {p : List Nat} {id : Nat} {ops : Array Oper} {lead m fin live keep : List Nat} (h : at' c p = .region id ops true) (hd : dr.lookup id = some (.led lead [m] fin live keep))
    (hw : Lp S ops s.H (fun e R => Mp S lim ops R (fun e1 H1 => Rp S lim ops (pick ops fin) e1 H1 fun e' H' => Q .normal ⟨trim e' s.loc, H'⟩) (pick ops m) e s.H) (pick ops lead) s.loc []) : W S lim dr (at' c p) s Q := by
  rw [h]
  obtain ⟨e, R, h1, hw⟩ := runLead_of_Lp _ _ _ hw
  obtain ⟨n1, e1, H1, h2, hw⟩ := runMid_of_Mp _ _ _ hw
  obtain ⟨n2, e2, H2, h3, hw⟩ := runOps_of_Rp _ _ _ _ hw
  refine ⟨max n1 n2 + 1, .normal, ⟨trim e2 s.loc, H2⟩, ?_, hw⟩
  simp only [exec, region, if_true, hd, led, h1, runMid_mono (acall_mono S n1 (max n1 n2 + 1) (by omega)) _ _ _ _ h2, runOps_mono (acall_mono S n2 (max n1 n2 + 1) (by omega)) _ _ _ _ h3, Option.map_some]
/-- The other orders, symbolically. -/
def Alts (S : Sig) (ops : Array Oper) (live keep : List Nat) (n0 : Nat) (e : Env) (H : Heap) (e0 : Env) (H0 : Heap) : List (List Nat) → Prop
  | [] => True
  | m :: ms => Rp S n0 ops (pick ops m) e H (fun e1 H1 => SameUp n0 live keep e0 H0 e1 H1) ∧ Alts S ops live keep n0 e H e0 H0 ms
theorem altsOK_of {S : Sig} {ops : Array Oper} {live keep : List Nat} {n0 : Nat} {e : Env} {H : Heap} {e0 : Env} {H0 : Heap} : ∀ (ms : List (List Nat)), Alts S ops live keep n0 e H e0 H0 ms → ∃ n, altsOK S.P (acall S n) ops live keep n0 e H e0 H0 ms = true
  | [], _ => ⟨0, rfl⟩
  | m :: ms, h => by
    obtain ⟨n1, e1, H1, h1, h2⟩ := runOps_of_Rp _ _ _ _ h.1
    obtain ⟨n2, h3⟩ := altsOK_of ms h.2
    refine ⟨max n1 n2, ?_⟩
    simp only [altsOK, runOps_mono (acall_mono S n1 (max n1 n2) (by omega)) _ _ _ _ h1, altsOK_mono (acall_mono S n2 (max n1 n2) (by omega)) _ h3, Bool.and_true, Bool.or_eq_true, decide_eq_true_eq]
    exact .inr h2
theorem at_leds {S : Sig} {lim : Nat} {dr : List (Nat × Draw)} {s : St} {Q : Ex → St → Prop} {c : Code} {p : List Nat} {id : Nat} {ops : Array Oper} {lead m m2 fin live keep : List Nat} {ms : List (List Nat)} (h : at' c p = .region id ops true) (hd : dr.lookup id = some (.led lead (m :: m2 :: ms) fin live keep))
    (hw : Lp S ops s.H (fun e _ => ∃ e1 H1, Rp S s.H.length ops (pick ops m) e s.H (fun e' H' => e' = e1 ∧ H' = H1) ∧ Alts S ops live keep s.H.length e s.H e1 H1 (m2 :: ms) ∧
      Rp S lim ops (pick ops fin) (cutE ops live s.loc e1) (keepOnly keep s.H.length H1) fun e' H' => Q .normal ⟨trim e' s.loc, H'⟩) (pick ops lead) s.loc []) : W S lim dr (at' c p) s Q := by
  rw [h]
  obtain ⟨e, R, h1, e1, H1, hw, ha, hf⟩ := runLead_of_Lp _ _ _ hw
  obtain ⟨n1, e1', H1', h2, rfl, rfl⟩ := runOps_of_Rp _ _ _ _ hw
  obtain ⟨n2, h3⟩ := altsOK_of _ ha
  obtain ⟨n3, e3, H3, h4, hw⟩ := runOps_of_Rp _ _ _ _ hf
  refine ⟨max n1 (max n2 n3) + 1, .normal, ⟨trim e3 s.loc, H3⟩, ?_, hw⟩
  simp only [exec, region, if_true, hd, led, h1, runOps_mono (acall_mono S n1 (max n1 (max n2 n3) + 1) (by omega)) _ _ _ _ h2, altsOK_mono (acall_mono S n2 (max n1 (max n2 n3) + 1) (by omega)) _ h3, runOps_mono (acall_mono S n3 (max n1 (max n2 n3) + 1) (by omega)) _ _ _ _ h4, Option.map_some]

/-! ### Forms for simp -/
theorem guardP_free (ops : Array Oper) (e : Env) (d : Option Tmp) (op : Op) (ty : TypeId) (pos : String) (af : Array Edge) (Y N : Prop) : guardP ops e ⟨d, op, ty, pos, af, none⟩ Y N = Y := rfl
def guardB (x : AV) (want : Bool) (Y N : Prop) : Prop :=
  match x with
  | .v (.bool b) => (b = want → Y) ∧ (b = !want → N)
  | .v _ => N
  | _ => False
theorem guardP_on (ops : Array Oper) (e : Env) (d : Option Tmp) (op : Op) (ty : TypeId) (pos : String) (af : Array Edge) (j : Nat) (want : Bool) (Y N : Prop) {t : Nat} (h : (ops[j]?).bind (·.dst) = some t) :
    guardP ops e ⟨d, op, ty, pos, af, some (j, want)⟩ Y N ↔ guardB (e.get t) want Y N := by
  unfold guardP wantedA guardB
  simp only [h]
  cases hx : e.get t with
  | v x =>
    cases x with
    | bool b => cases b <;> cases want <;> simp
    | _ => simp
  | _ => simp
theorem optP_some {α : Type} (x : α) (K : α → Prop) : optP (some x) K = K x := rfl
theorem optP_none {α : Type} (K : α → Prop) : optP none K = False := rfl
theorem optP_ite {α : Type} (c : Prop) [Decidable c] (x : Option α) (K : α → Prop) : optP (if c then x else none) K ↔ c ∧ optP x K := by
  by_cases h : c <;> simp [h, optP]
theorem optP_ite' {α : Type} (c : Prop) [Decidable c] (x : Option α) (K : α → Prop) : optP (if c then none else x) K ↔ ¬ c ∧ optP x K := by
  by_cases h : c <;> simp [h, optP]

/-! ### What simp looks into, and what not -/
@[congr] theorem optP_congr {α : Type} {x x' : Option α} (K : α → Prop) (h : x = x') : optP x K = optP x' K := by rw [h]
@[congr] theorem Rp_congr (lim : Nat) (ops : Array Oper) (l : List Oper) {e e' : Env} {H H' : Heap} (K : Env → Heap → Prop) (h : e = e') (h' : H = H') : Rp S lim ops l e H K = Rp S lim ops l e' H' K := by rw [h, h']
@[congr] theorem Qp_congr (ops : Array Oper) (l : List Oper) {e e' : Env} (H : Heap) (K : Env → Prop) (h : e = e') : Qp S ops l e H K = Qp S ops l e' H K := by rw [h]
@[congr] theorem opP_congr (lim : Nat) (o : Op) (e : Env) (H : Heap) (K : AV → Heap → Prop) : opP S lim o e H K = opP S lim o e H K := rfl
@[congr] theorem opQ_congr (o : Op) (e : Env) (H : Heap) (K : AV → Prop) : opQ S o e H K = opQ S o e H K := rfl
@[congr] theorem guardP_congr (ops : Array Oper) (e : Env) (o : Oper) (Y N : Prop) : guardP ops e o Y N = guardP ops e o Y N := rfl
@[congr] theorem guardB_congr {x x' : AV} (want : Bool) (Y N : Prop) (h : x = x') : guardB x want Y N = guardB x' want Y N := by rw [h]
@[congr] theorem W_congr (lim : Nat) (dr : List (Nat × Draw)) (c : Code) {s s' : St} (Q : Ex → St → Prop) (h : s = s') : W S lim dr c s Q = W S lim dr c s' Q := by rw [h]
@[congr] theorem ACall_congr (lim : Nat) (f : FuncId) {args args' : List AV} (H : Heap) (K : AV → Heap → Prop) (h : args = args') : ACall S lim f args H K = ACall S lim f args' H K := by rw [h]
@[congr] theorem thenQ_congr (N : St → Prop) (Q : Ex → St → Prop) (x : Ex) (s : St) : thenQ N Q x s = thenQ N Q x s := rfl
@[congr] theorem blockQ_congr (id : Nat) (Q : Ex → St → Prop) (x : Ex) (s : St) : blockQ id Q x s = blockQ id Q x s := rfl

theorem Rp_nil (lim : Nat) (ops : Array Oper) (e : Env) (H : Heap) (K : Env → Heap → Prop) : Rp S lim ops [] e H K = K e H := rfl
theorem Rp_cons (lim : Nat) (ops : Array Oper) (o : Oper) (l : List Oper) (e : Env) (H : Heap) (K : Env → Heap → Prop) :
    Rp S lim ops (o :: l) e H K = guardP ops e o (opP S lim o.op e H fun x H' => Rp S lim ops l (e.put o.dst x) H' K) (Rp S lim ops l (e.put o.dst (.v undef)) H K) := rfl
theorem thenQ_normal (N : St → Prop) (Q : Ex → St → Prop) (s : St) : thenQ N Q .normal s = N s := rfl
theorem thenQ_ret (N : St → Prop) (Q : Ex → St → Prop) (s : St) : thenQ N Q .ret s = Q .ret s := rfl
theorem thenQ_exit (N : St → Prop) (Q : Ex → St → Prop) (id : Nat) (s : St) : thenQ N Q (.exit id) s = Q (.exit id) s := rfl
theorem blockQ_normal (id : Nat) (Q : Ex → St → Prop) (s : St) : blockQ id Q .normal s = Q .normal s := rfl
theorem blockQ_ret (id : Nat) (Q : Ex → St → Prop) (s : St) : blockQ id Q .ret s = Q .ret s := rfl
theorem blockQ_exit (id j : Nat) (Q : Ex → St → Prop) (s : St) : blockQ id Q (.exit j) s = if j = id then Q .normal s else Q (.exit j) s := rfl
end
end Go.Am
end
