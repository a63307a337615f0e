/-
  The abstract machine over this seat: its table of functions, facts on its types, and that the table is sound. Written by program (seat.py).
-/
import Derived.Test.YtfnapmdedmbdbaaDoorProg
import Derived.Test.YtfnapmdedmbdbaaDoorPr
import Derived.KernelRfl
set_option linter.unusedSimpArgs false
set_option linter.unusedVariables false
namespace Go.Proofs.YtfnapmdedmbdbaaDoor
open Go Go.Am

theorem ty1 : tyOf Tryd.prog 1 = some { size := 1, bytes := 8, agg := false, k := .other, zero := some [.nilFunc] } := by kernel_rfl
theorem tk1 : tk Tryd.prog 1 = some (.other) := by kernel_rfl
theorem ty2 : tyOf Tryd.prog 2 = some { size := 1, bytes := 8, agg := false, k := .int .i64, zero := some [.int .i64 0] } := by kernel_rfl
theorem tk2 : tk Tryd.prog 2 = some (.int .i64) := by kernel_rfl
theorem ty3 : tyOf Tryd.prog 3 = some { size := 1, bytes := 8, agg := false, k := .int .i64, zero := some [.int .i64 0] } := by kernel_rfl
theorem tk3 : tk Tryd.prog 3 = some (.int .i64) := by kernel_rfl
theorem ty4 : tyOf Tryd.prog 4 = some { size := 1, bytes := 1, agg := false, k := .bool, zero := some [.bool false] } := by kernel_rfl
theorem tk4 : tk Tryd.prog 4 = some (.bool) := by kernel_rfl
theorem ty5 : tyOf Tryd.prog 5 = some { size := 1, bytes := 1, agg := false, k := .int .u8, zero := some [.int .u8 0] } := by kernel_rfl
theorem tk5 : tk Tryd.prog 5 = some (.int .u8) := by kernel_rfl
theorem ty6 : tyOf Tryd.prog 6 = some { size := 1, bytes := 1, agg := false, k := .int .u8, zero := some [.int .u8 0] } := by kernel_rfl
theorem tk6 : tk Tryd.prog 6 = some (.int .u8) := by kernel_rfl
theorem ty7 : tyOf Tryd.prog 7 = some { size := 4, bytes := 24, agg := true, k := .struct [(0, 2), (1, 3), (2, 4), (3, 6)], zero := some [.int .i64 0, .int .i64 0, .bool false, .int .u8 0] } := by kernel_rfl
theorem tk7 : tk Tryd.prog 7 = some (.struct [(0, 2), (1, 3), (2, 4), (3, 6)]) := by kernel_rfl
theorem eqOk7 : eqOk Tryd.prog 7 = true := by kernel_rfl
theorem ty8 : tyOf Tryd.prog 8 = some { size := 4, bytes := 24, agg := true, k := .struct [(0, 2), (1, 3), (2, 4), (3, 6)], zero := some [.int .i64 0, .int .i64 0, .bool false, .int .u8 0] } := by kernel_rfl
theorem tk8 : tk Tryd.prog 8 = some (.struct [(0, 2), (1, 3), (2, 4), (3, 6)]) := by kernel_rfl
theorem eqOk8 : eqOk Tryd.prog 8 = true := by kernel_rfl
theorem ty9 : tyOf Tryd.prog 9 = some { size := 1, bytes := 16, agg := false, k := .string, zero := some [.string ⟨#[]⟩] } := by kernel_rfl
theorem tk9 : tk Tryd.prog 9 = some (.string) := by kernel_rfl
theorem ty23 : tyOf Tryd.prog 23 = some { size := 10, bytes := 80, agg := true, k := .struct [(0, 3), (1, 3), (2, 3), (3, 3), (4, 3), (5, 3), (6, 3), (7, 3), (8, 3), (9, 3)], zero := some [.int .i64 0, .int .i64 0, .int .i64 0, .int .i64 0, .int .i64 0, .int .i64 0, .int .i64 0, .int .i64 0, .int .i64 0, .int .i64 0] } := by kernel_rfl
theorem tk23 : tk Tryd.prog 23 = some (.struct [(0, 3), (1, 3), (2, 3), (3, 3), (4, 3), (5, 3), (6, 3), (7, 3), (8, 3), (9, 3)]) := by kernel_rfl
theorem eqOk23 : eqOk Tryd.prog 23 = true := by kernel_rfl
theorem ty25 : tyOf Tryd.prog 25 = some { size := 1, bytes := 8, agg := false, k := .other, zero := some [.nilFunc] } := by kernel_rfl
theorem tk25 : tk Tryd.prog 25 = some (.other) := by kernel_rfl
theorem ty27 : tyOf Tryd.prog 27 = some { size := 1, bytes := 24, agg := false, k := .slice 23, zero := some [.slice none 0 0] } := by kernel_rfl
theorem tk27 : tk Tryd.prog 27 = some (.slice 23) := by kernel_rfl
theorem ty28 : tyOf Tryd.prog 28 = some { size := 1, bytes := 8, agg := false, k := .int .i64, zero := some [.int .i64 0] } := by kernel_rfl
theorem tk28 : tk Tryd.prog 28 = some (.int .i64) := by kernel_rfl
theorem ty32 : tyOf Tryd.prog 32 = some { size := 1, bytes := 24, agg := false, k := .slice 34, zero := some [.slice none 0 0] } := by kernel_rfl
theorem tk32 : tk Tryd.prog 32 = some (.slice 34) := by kernel_rfl
theorem ty34 : tyOf Tryd.prog 34 = some { size := 8, bytes := 64, agg := true, k := .struct [(0, 3), (1, 3), (2, 3), (3, 3), (4, 3), (5, 3), (6, 3), (7, 4)], zero := some [.int .i64 0, .int .i64 0, .int .i64 0, .int .i64 0, .int .i64 0, .int .i64 0, .int .i64 0, .bool false] } := by kernel_rfl
theorem tk34 : tk Tryd.prog 34 = some (.struct [(0, 3), (1, 3), (2, 3), (3, 3), (4, 3), (5, 3), (6, 3), (7, 4)]) := by kernel_rfl
theorem eqOk34 : eqOk Tryd.prog 34 = true := by kernel_rfl
theorem ty43 : tyOf Tryd.prog 43 = some { size := 1, bytes := 24, agg := false, k := .slice 9, zero := some [.slice none 0 0] } := by kernel_rfl
theorem tk43 : tk Tryd.prog 43 = some (.slice 9) := by kernel_rfl
theorem ty49 : tyOf Tryd.prog 49 = some { size := 1, bytes := 8, agg := false, k := .int .u64, zero := some [.int .u64 0] } := by kernel_rfl
theorem tk49 : tk Tryd.prog 49 = some (.int .u64) := by kernel_rfl
theorem ty51 : tyOf Tryd.prog 51 = some { size := 2, bytes := 16, agg := true, k := .struct [(0, 2), (1, 49)], zero := some [.int .i64 0, .int .u64 0] } := by kernel_rfl
theorem tk51 : tk Tryd.prog 51 = some (.struct [(0, 2), (1, 49)]) := by kernel_rfl
theorem eqOk51 : eqOk Tryd.prog 51 = true := by kernel_rfl
theorem ty53 : tyOf Tryd.prog 53 = some { size := 1, bytes := 8, agg := false, k := .other, zero := some [.nilFunc] } := by kernel_rfl
theorem tk53 : tk Tryd.prog 53 = some (.other) := by kernel_rfl
theorem ty60 : tyOf Tryd.prog 60 = some { size := 1, bytes := 8, agg := false, k := .other, zero := some [.pointer none] } := by kernel_rfl
theorem tk60 : tk Tryd.prog 60 = some (.other) := by kernel_rfl
theorem ty65 : tyOf Tryd.prog 65 = some { size := 1, bytes := 8, agg := false, k := .other, zero := some [.pointer none] } := by kernel_rfl
theorem tk65 : tk Tryd.prog 65 = some (.other) := by kernel_rfl
theorem ty66 : tyOf Tryd.prog 66 = some { size := 1, bytes := 24, agg := false, k := .slice 5, zero := some [.slice none 0 0] } := by kernel_rfl
theorem tk66 : tk Tryd.prog 66 = some (.slice 5) := by kernel_rfl
theorem ty68 : tyOf Tryd.prog 68 = some { size := 2, bytes := 32, agg := true, k := .struct [(0, 65), (1, 66)], zero := some [.pointer none, .slice none 0 0] } := by kernel_rfl
theorem tk68 : tk Tryd.prog 68 = some (.struct [(0, 65), (1, 66)]) := by kernel_rfl
theorem eqOk68 : eqOk Tryd.prog 68 = true := by kernel_rfl
theorem ty71 : tyOf Tryd.prog 71 = some { size := 1, bytes := 16, agg := false, k := .other, zero := some [.nilIface] } := by kernel_rfl
theorem tk71 : tk Tryd.prog 71 = some (.other) := by kernel_rfl
theorem ty74 : tyOf Tryd.prog 74 = some { size := 5, bytes := 40, agg := true, k := .array 5 3, zero := some [.int .i64 0, .int .i64 0, .int .i64 0, .int .i64 0, .int .i64 0] } := by kernel_rfl
theorem tk74 : tk Tryd.prog 74 = some (.array 5 3) := by kernel_rfl
theorem eqOk74 : eqOk Tryd.prog 74 = true := by kernel_rfl
theorem ty76 : tyOf Tryd.prog 76 = some { size := 1, bytes := 24, agg := false, k := .slice 3, zero := some [.slice none 0 0] } := by kernel_rfl
theorem tk76 : tk Tryd.prog 76 = some (.slice 3) := by kernel_rfl
theorem ty77 : tyOf Tryd.prog 77 = some { size := 4, bytes := 32, agg := true, k := .array 4 3, zero := some [.int .i64 0, .int .i64 0, .int .i64 0, .int .i64 0] } := by kernel_rfl
theorem tk77 : tk Tryd.prog 77 = some (.array 4 3) := by kernel_rfl
theorem eqOk77 : eqOk Tryd.prog 77 = true := by kernel_rfl
theorem ty92 : tyOf Tryd.prog 92 = some { size := 1, bytes := 8, agg := false, k := .int .u64, zero := some [.int .u64 0] } := by kernel_rfl
theorem tk92 : tk Tryd.prog 92 = some (.int .u64) := by kernel_rfl
theorem ty93 : tyOf Tryd.prog 93 = some { size := 1, bytes := 8, agg := false, k := .other, zero := some [.pointer none] } := by kernel_rfl
theorem tk93 : tk Tryd.prog 93 = some (.other) := by kernel_rfl
theorem ty95 : tyOf Tryd.prog 95 = some { size := 4, bytes := 32, agg := true, k := .array 4 49, zero := some [.int .u64 0, .int .u64 0, .int .u64 0, .int .u64 0] } := by kernel_rfl
theorem tk95 : tk Tryd.prog 95 = some (.array 4 49) := by kernel_rfl
theorem eqOk95 : eqOk Tryd.prog 95 = true := by kernel_rfl
theorem ty106 : tyOf Tryd.prog 106 = some { size := 1, bytes := 8, agg := false, k := .int .i64, zero := some [.int .i64 0] } := by kernel_rfl
theorem tk106 : tk Tryd.prog 106 = some (.int .i64) := by kernel_rfl
theorem ty114 : tyOf Tryd.prog 114 = some { size := 1, bytes := 4, agg := false, k := .int .u32, zero := some [.int .u32 0] } := by kernel_rfl
theorem tk114 : tk Tryd.prog 114 = some (.int .u32) := by kernel_rfl
theorem ty118 : tyOf Tryd.prog 118 = some { size := 8, bytes := 64, agg := true, k := .array 8 49, zero := some [.int .u64 0, .int .u64 0, .int .u64 0, .int .u64 0, .int .u64 0, .int .u64 0, .int .u64 0, .int .u64 0] } := by kernel_rfl
theorem tk118 : tk Tryd.prog 118 = some (.array 8 49) := by kernel_rfl
theorem eqOk118 : eqOk Tryd.prog 118 = true := by kernel_rfl

noncomputable def fa3 : FnA := ⟨Tryd.f3, [0, 1, 2, 3, 4, 6], [(3, .quiet 37)]⟩
noncomputable def fa4 : FnA := ⟨Tryd.f4, [0, 1, 2, 3, 4, 5, 6, 8, 10, 12, 16, 17, 18, 19, 28, 45], []⟩
noncomputable def fa5 : FnA := ⟨Tryd.f5, [0, 1, 2, 6, 7, 8, 9, 10, 11, 12, 13, 14, 16, 19, 21, 22, 23, 49], [(14, .led [0, 1, 2, 3, 4, 5, 6, 7, 8, 9, 10, 11, 12] [[13]] [14, 15] [] [])]⟩
noncomputable def fa6 : FnA := ⟨Tryd.f6, [0, 1, 2, 4, 5, 6, 7, 8, 10], []⟩
noncomputable def fa7 : FnA := ⟨Tryd.f7, [0, 1, 4, 5, 6, 7, 8, 9, 11, 14, 28, 37], []⟩
noncomputable def fa8 : FnA := ⟨Tryd.f8, [0, 1, 4, 5, 6, 7, 8, 9, 10, 11, 13, 15, 18, 26, 33, 34, 35, 36, 37, 85, 135, 136, 137, 138], [(14, .quiet 45)]⟩
noncomputable def fa9 : FnA := ⟨Tryd.f9, [0, 1, 4, 5, 6, 7, 8, 10, 18], []⟩
noncomputable def fa10 : FnA := ⟨Tryd.f10, [0, 1, 2, 3, 4, 5, 6, 7, 8, 42], []⟩
noncomputable def fa11 : FnA := ⟨Tryd.f11, [0, 1, 2, 3, 4, 5, 6, 7, 8, 9, 10, 28], []⟩
noncomputable def fa12 : FnA := ⟨Tryd.f12, [0, 1, 2, 3, 4, 5, 6, 7, 8, 16], []⟩
noncomputable def fa13 : FnA := ⟨Tryd.f13, [0, 1, 2, 3, 4, 5, 6, 18, 34, 41], []⟩
noncomputable def fa14 : FnA := ⟨Tryd.f14, [0, 1, 2, 3, 4, 5, 9, 21, 33, 39], []⟩
noncomputable def fa15 : FnA := ⟨Tryd.f15, [0, 1, 2, 4, 5, 6, 7, 8, 9, 10, 26, 46], []⟩
noncomputable def fa16 : FnA := ⟨Tryd.f16, [0, 1, 4, 5, 6, 7, 8, 10, 15, 20, 21, 22, 30, 31, 32, 33], [(13, .quiet 13), (14, .quiet 13)]⟩
noncomputable def fa17 : FnA := ⟨Tryd.f17, [0, 1, 4, 5, 10, 12, 13, 14, 24], [(6, .quiet 9)]⟩
noncomputable def fa18 : FnA := ⟨Tryd.f18, [0, 1, 2, 4, 5, 6, 7, 8, 9, 20, 27, 40], []⟩
noncomputable def fa19 : FnA := ⟨Tryd.f19, [0, 1, 4, 5, 6, 7, 8, 9, 10, 11, 16, 18, 19, 20, 38], [(10, .quiet 12), (13, .led [0, 1, 2, 3, 5, 8, 9, 10] [[4, 6, 7], [6, 4, 7]] [11, 12] [48, 51] [0, 1, 2])]⟩
noncomputable def fa20 : FnA := ⟨Tryd.f20, [0, 1, 3, 4], []⟩
noncomputable def fa21 : FnA := ⟨Tryd.f21, [0, 1, 4, 5, 6, 7, 8, 9, 10, 17], []⟩
noncomputable def fa22 : FnA := ⟨Tryd.f22, [0, 1, 4, 6, 7, 14, 18, 19, 20, 21, 24, 46, 69, 74], []⟩
noncomputable def fa23 : FnA := ⟨Tryd.f23, [0, 1, 4, 6, 12, 15, 16, 17, 18, 19, 22, 50, 89, 98], []⟩
noncomputable def fa24 : FnA := ⟨Tryd.f24, [0, 1, 4, 5, 6, 7, 8, 9, 10, 12, 15, 16, 17, 18, 19, 32, 39, 46, 69, 70, 71], [(14, .led [0, 1, 4, 5, 6, 7, 8] [[2, 3]] [9, 10] [] [])]⟩
noncomputable def fa25 : FnA := ⟨Tryd.f25, [0, 1, 4, 5, 6, 7, 8, 9, 10, 12, 15, 16, 17, 18, 19, 32, 39, 46, 70, 71, 72, 73], [(14, .quiet 13)]⟩
noncomputable def fa26 : FnA := ⟨Tryd.f26, [0, 1, 2, 3, 4, 6, 7, 8, 9, 10, 19, 20, 21, 25, 36, 38], [(7, .quiet 12)]⟩
noncomputable def fa27 : FnA := ⟨Tryd.f27, [0, 1, 2, 3, 4, 5, 25], []⟩
noncomputable def fa28 : FnA := ⟨Tryd.f28, [0, 1, 4, 5, 6, 7, 8, 9, 10, 11], []⟩
noncomputable def fa29 : FnA := ⟨Tryd.f29, [0, 1, 2], []⟩
noncomputable def fa30 : FnA := ⟨Tryd.f30, [0, 1, 2, 3, 4, 5, 6, 7, 17, 19], [(1, .quiet 12)]⟩
noncomputable def fa31 : FnA := ⟨Tryd.f31, [0, 1, 2, 3, 4, 7, 26], []⟩
noncomputable def fa32 : FnA := ⟨Tryd.f32, [0, 1, 4, 5], []⟩
noncomputable def fa33 : FnA := ⟨Tryd.f33, [0, 2, 3], []⟩
noncomputable def fa34 : FnA := ⟨Tryd.f34, [0, 2, 3], []⟩
noncomputable def fa35 : FnA := ⟨Tryd.f35, [0, 2], []⟩
noncomputable def fa36 : FnA := ⟨Tryd.f36, [0, 1, 4, 5, 6, 23], []⟩
noncomputable def fa37 : FnA := ⟨Tryd.f37, [0, 1, 2, 3, 4, 5, 6, 8, 54, 62, 78], []⟩
noncomputable def fa38 : FnA := ⟨Tryd.f38, [0, 1, 4], []⟩
noncomputable def fa39 : FnA := ⟨Tryd.f39, [0, 2], []⟩
noncomputable def fa40 : FnA := ⟨Tryd.f40, [0, 1, 4, 5, 6, 7, 8, 12, 24], []⟩
noncomputable def fa41 : FnA := ⟨Tryd.f41, [0, 1, 4, 5, 7, 10, 11, 12, 13, 19, 40, 48, 54, 59, 65], []⟩
noncomputable def fa42 : FnA := ⟨Tryd.f42, [0, 1, 4, 5, 7, 8, 9, 16], []⟩
noncomputable def fa43 : FnA := ⟨Tryd.f43, [0, 1, 2, 3], []⟩
noncomputable def fa44 : FnA := ⟨Tryd.f44, [0, 1, 4], []⟩
noncomputable def fa45 : FnA := ⟨Tryd.f45, [0, 2, 3, 4, 5, 7, 8, 9, 10, 41], []⟩
noncomputable def fa46 : FnA := ⟨Tryd.f46, [0, 1, 4, 5], []⟩
noncomputable def fa47 : FnA := ⟨Tryd.f47, [0, 2], [(1, .quiet 12)]⟩
noncomputable def fa48 : FnA := ⟨Tryd.f48, [0, 2, 3, 4, 11, 15, 26, 44], []⟩
noncomputable def fa49 : FnA := ⟨Tryd.f49, [0, 2, 3, 5], []⟩
noncomputable def fa51 : FnA := ⟨Tryd.f51, [0, 1, 2, 6, 7, 8, 10, 12, 27], []⟩
noncomputable def fa52 : FnA := ⟨Tryd.f52, [0, 2], []⟩
noncomputable def fa53 : FnA := ⟨Tryd.f53, [0, 1, 2, 4, 5, 6, 7, 18], []⟩
noncomputable def fa54 : FnA := ⟨Tryd.f54, [0, 2, 3, 8], []⟩
noncomputable def fa58 : FnA := ⟨Tryd.f58, [0, 1, 2, 3, 4, 10, 11, 12, 13, 14, 15, 16, 17, 18, 19, 20, 25, 32, 39, 56, 75, 80, 97, 125], [(17, .quiet 13)]⟩
noncomputable def fa59 : FnA := ⟨Tryd.f59, [0, 2], []⟩
noncomputable def fa62 : FnA := ⟨Tryd.f62, [0, 1, 2, 3, 4, 5, 6, 7, 8, 9, 10, 12, 16], [(9, .quiet 16), (12, .led [0, 1, 2, 3, 4, 5, 6, 7, 8, 9, 10, 11, 12, 13, 14, 15, 16, 17, 18, 19, 20, 21, 22, 23, 24, 25, 26] [[27]] [28] [] [])]⟩
noncomputable def fa63 : FnA := ⟨Tryd.f63, [0, 1, 2, 3, 4, 12, 19], [(1, .quiet 7)]⟩
noncomputable def fa64 : FnA := ⟨Tryd.f64, [0, 1, 2, 4, 5, 6, 23, 24, 35], []⟩
noncomputable def fa71 : FnA := ⟨Tryd.f71, [0, 1, 2, 3, 8, 9, 14, 34], [(4, .quiet 14), (6, .led [0, 1, 2, 3, 4, 5, 6, 7, 8, 9, 10, 11, 12, 13, 14] [[15]] [16, 17] [] [])]⟩
noncomputable def fa80 : FnA := ⟨Tryd.f80, [0, 2, 4, 8, 14], []⟩
noncomputable def fa82 : FnA := ⟨Tryd.f82, [0, 1, 2, 3], []⟩
noncomputable def fa95 : FnA := ⟨Tryd.f95, [0, 1, 2, 3, 4, 5, 6, 7, 19, 45], []⟩

noncomputable def fns : FuncId → Option FnA
  | 3 => some fa3
  | 4 => some fa4
  | 5 => some fa5
  | 6 => some fa6
  | 7 => some fa7
  | 8 => some fa8
  | 9 => some fa9
  | 10 => some fa10
  | 11 => some fa11
  | 12 => some fa12
  | 13 => some fa13
  | 14 => some fa14
  | 15 => some fa15
  | 16 => some fa16
  | 17 => some fa17
  | 18 => some fa18
  | 19 => some fa19
  | 20 => some fa20
  | 21 => some fa21
  | 22 => some fa22
  | 23 => some fa23
  | 24 => some fa24
  | 25 => some fa25
  | 26 => some fa26
  | 27 => some fa27
  | 28 => some fa28
  | 29 => some fa29
  | 30 => some fa30
  | 31 => some fa31
  | 32 => some fa32
  | 33 => some fa33
  | 34 => some fa34
  | 35 => some fa35
  | 36 => some fa36
  | 37 => some fa37
  | 38 => some fa38
  | 39 => some fa39
  | 40 => some fa40
  | 41 => some fa41
  | 42 => some fa42
  | 43 => some fa43
  | 44 => some fa44
  | 45 => some fa45
  | 46 => some fa46
  | 47 => some fa47
  | 48 => some fa48
  | 49 => some fa49
  | 51 => some fa51
  | 52 => some fa52
  | 53 => some fa53
  | 54 => some fa54
  | 58 => some fa58
  | 59 => some fa59
  | 62 => some fa62
  | 63 => some fa63
  | 64 => some fa64
  | 71 => some fa71
  | 80 => some fa80
  | 82 => some fa82
  | 95 => some fa95
  | _ => none

noncomputable def sig : Sig := { P := Tryd.prog, fns := fns, prim := primF, own := fun f => f == 37 || f == 38 || f == 58 || f == 71, fz := fun f => f == 10 }

theorem fnOK3 : FnOK Tryd.prog sig.pure 3 fa3 := ⟨Tryd.func3, by kernel_rfl, fun c hc => by cases hc; kernel_rfl⟩
theorem fnOK4 : FnOK Tryd.prog sig.pure 4 fa4 := ⟨Tryd.func4, by kernel_rfl, fun c hc => by cases hc; kernel_rfl⟩
theorem fnOK5 : FnOK Tryd.prog sig.pure 5 fa5 := ⟨Tryd.func5, by kernel_rfl, fun c hc => by cases hc; kernel_rfl⟩
theorem fnOK6 : FnOK Tryd.prog sig.pure 6 fa6 := ⟨Tryd.func6, by kernel_rfl, fun c hc => by cases hc; kernel_rfl⟩
theorem fnOK7 : FnOK Tryd.prog sig.pure 7 fa7 := ⟨Tryd.func7, by kernel_rfl, fun c hc => by cases hc; kernel_rfl⟩
theorem fnOK8 : FnOK Tryd.prog sig.pure 8 fa8 := ⟨Tryd.func8, by kernel_rfl, fun c hc => by cases hc; kernel_rfl⟩
theorem fnOK9 : FnOK Tryd.prog sig.pure 9 fa9 := ⟨Tryd.func9, by kernel_rfl, fun c hc => by cases hc; kernel_rfl⟩
theorem fnOK10 : FnOK Tryd.prog sig.pure 10 fa10 := ⟨Tryd.func10, by kernel_rfl, fun c hc => by cases hc; kernel_rfl⟩
theorem fnOK11 : FnOK Tryd.prog sig.pure 11 fa11 := ⟨Tryd.func11, by kernel_rfl, fun c hc => by cases hc; kernel_rfl⟩
theorem fnOK12 : FnOK Tryd.prog sig.pure 12 fa12 := ⟨Tryd.func12, by kernel_rfl, fun c hc => by cases hc; kernel_rfl⟩
theorem fnOK13 : FnOK Tryd.prog sig.pure 13 fa13 := ⟨Tryd.func13, by kernel_rfl, fun c hc => by cases hc; kernel_rfl⟩
theorem fnOK14 : FnOK Tryd.prog sig.pure 14 fa14 := ⟨Tryd.func14, by kernel_rfl, fun c hc => by cases hc; kernel_rfl⟩
theorem fnOK15 : FnOK Tryd.prog sig.pure 15 fa15 := ⟨Tryd.func15, by kernel_rfl, fun c hc => by cases hc; kernel_rfl⟩
theorem fnOK16 : FnOK Tryd.prog sig.pure 16 fa16 := ⟨Tryd.func16, by kernel_rfl, fun c hc => by cases hc; kernel_rfl⟩
theorem fnOK17 : FnOK Tryd.prog sig.pure 17 fa17 := ⟨Tryd.func17, by kernel_rfl, fun c hc => by cases hc; kernel_rfl⟩
theorem fnOK18 : FnOK Tryd.prog sig.pure 18 fa18 := ⟨Tryd.func18, by kernel_rfl, fun c hc => by cases hc; kernel_rfl⟩
theorem fnOK19 : FnOK Tryd.prog sig.pure 19 fa19 := ⟨Tryd.func19, by kernel_rfl, fun c hc => by cases hc; kernel_rfl⟩
theorem fnOK20 : FnOK Tryd.prog sig.pure 20 fa20 := ⟨Tryd.func20, by kernel_rfl, fun c hc => by cases hc; kernel_rfl⟩
theorem fnOK21 : FnOK Tryd.prog sig.pure 21 fa21 := ⟨Tryd.func21, by kernel_rfl, fun c hc => by cases hc; kernel_rfl⟩
theorem fnOK22 : FnOK Tryd.prog sig.pure 22 fa22 := ⟨Tryd.func22, by kernel_rfl, fun c hc => by cases hc; kernel_rfl⟩
theorem fnOK23 : FnOK Tryd.prog sig.pure 23 fa23 := ⟨Tryd.func23, by kernel_rfl, fun c hc => by cases hc; kernel_rfl⟩
theorem fnOK24 : FnOK Tryd.prog sig.pure 24 fa24 := ⟨Tryd.func24, by kernel_rfl, fun c hc => by cases hc; kernel_rfl⟩
theorem fnOK25 : FnOK Tryd.prog sig.pure 25 fa25 := ⟨Tryd.func25, by kernel_rfl, fun c hc => by cases hc; kernel_rfl⟩
theorem fnOK26 : FnOK Tryd.prog sig.pure 26 fa26 := ⟨Tryd.func26, by kernel_rfl, fun c hc => by cases hc; kernel_rfl⟩
theorem fnOK27 : FnOK Tryd.prog sig.pure 27 fa27 := ⟨Tryd.func27, by kernel_rfl, fun c hc => by cases hc; kernel_rfl⟩
theorem fnOK28 : FnOK Tryd.prog sig.pure 28 fa28 := ⟨Tryd.func28, by kernel_rfl, fun c hc => by cases hc; kernel_rfl⟩
theorem fnOK29 : FnOK Tryd.prog sig.pure 29 fa29 := ⟨Tryd.func29, by kernel_rfl, fun c hc => by cases hc; kernel_rfl⟩
theorem fnOK30 : FnOK Tryd.prog sig.pure 30 fa30 := ⟨Tryd.func30, by kernel_rfl, fun c hc => by cases hc; kernel_rfl⟩
theorem fnOK31 : FnOK Tryd.prog sig.pure 31 fa31 := ⟨Tryd.func31, by kernel_rfl, fun c hc => by cases hc; kernel_rfl⟩
theorem fnOK32 : FnOK Tryd.prog sig.pure 32 fa32 := ⟨Tryd.func32, by kernel_rfl, fun c hc => by cases hc; kernel_rfl⟩
theorem fnOK33 : FnOK Tryd.prog sig.pure 33 fa33 := ⟨Tryd.func33, by kernel_rfl, fun c hc => by cases hc; kernel_rfl⟩
theorem fnOK34 : FnOK Tryd.prog sig.pure 34 fa34 := ⟨Tryd.func34, by kernel_rfl, fun c hc => by cases hc; kernel_rfl⟩
theorem fnOK35 : FnOK Tryd.prog sig.pure 35 fa35 := ⟨Tryd.func35, by kernel_rfl, fun c hc => by cases hc; kernel_rfl⟩
theorem fnOK36 : FnOK Tryd.prog sig.pure 36 fa36 := ⟨Tryd.func36, by kernel_rfl, fun c hc => by cases hc; kernel_rfl⟩
theorem fnOK37 : FnOK Tryd.prog sig.pure 37 fa37 := ⟨Tryd.func37, by kernel_rfl, fun c hc => by cases hc; kernel_rfl⟩
theorem fnOK38 : FnOK Tryd.prog sig.pure 38 fa38 := ⟨Tryd.func38, by kernel_rfl, fun c hc => by cases hc; kernel_rfl⟩
theorem fnOK39 : FnOK Tryd.prog sig.pure 39 fa39 := ⟨Tryd.func39, by kernel_rfl, fun c hc => by cases hc; kernel_rfl⟩
theorem fnOK40 : FnOK Tryd.prog sig.pure 40 fa40 := ⟨Tryd.func40, by kernel_rfl, fun c hc => by cases hc; kernel_rfl⟩
theorem fnOK41 : FnOK Tryd.prog sig.pure 41 fa41 := ⟨Tryd.func41, by kernel_rfl, fun c hc => by cases hc; kernel_rfl⟩
theorem fnOK42 : FnOK Tryd.prog sig.pure 42 fa42 := ⟨Tryd.func42, by kernel_rfl, fun c hc => by cases hc; kernel_rfl⟩
theorem fnOK43 : FnOK Tryd.prog sig.pure 43 fa43 := ⟨Tryd.func43, by kernel_rfl, fun c hc => by cases hc; kernel_rfl⟩
theorem fnOK44 : FnOK Tryd.prog sig.pure 44 fa44 := ⟨Tryd.func44, by kernel_rfl, fun c hc => by cases hc; kernel_rfl⟩
theorem fnOK45 : FnOK Tryd.prog sig.pure 45 fa45 := ⟨Tryd.func45, by kernel_rfl, fun c hc => by cases hc; kernel_rfl⟩
theorem fnOK46 : FnOK Tryd.prog sig.pure 46 fa46 := ⟨Tryd.func46, by kernel_rfl, fun c hc => by cases hc; kernel_rfl⟩
theorem fnOK47 : FnOK Tryd.prog sig.pure 47 fa47 := ⟨Tryd.func47, by kernel_rfl, fun c hc => by cases hc; kernel_rfl⟩
theorem fnOK48 : FnOK Tryd.prog sig.pure 48 fa48 := ⟨Tryd.func48, by kernel_rfl, fun c hc => by cases hc; kernel_rfl⟩
theorem fnOK49 : FnOK Tryd.prog sig.pure 49 fa49 := ⟨Tryd.func49, by kernel_rfl, fun c hc => by cases hc; kernel_rfl⟩
theorem fnOK51 : FnOK Tryd.prog sig.pure 51 fa51 := ⟨Tryd.func51, by kernel_rfl, fun c hc => by cases hc; kernel_rfl⟩
theorem fnOK52 : FnOK Tryd.prog sig.pure 52 fa52 := ⟨Tryd.func52, by kernel_rfl, fun c hc => by cases hc; kernel_rfl⟩
theorem fnOK53 : FnOK Tryd.prog sig.pure 53 fa53 := ⟨Tryd.func53, by kernel_rfl, fun c hc => by cases hc; kernel_rfl⟩
theorem fnOK54 : FnOK Tryd.prog sig.pure 54 fa54 := ⟨Tryd.func54, by kernel_rfl, fun c hc => by cases hc; kernel_rfl⟩
theorem fnOK58 : FnOK Tryd.prog sig.pure 58 fa58 := ⟨Tryd.func58, by kernel_rfl, fun c hc => by cases hc; kernel_rfl⟩
theorem fnOK59 : FnOK Tryd.prog sig.pure 59 fa59 := ⟨Tryd.func59, by kernel_rfl, fun c hc => by cases hc; kernel_rfl⟩
theorem fnOK62 : FnOK Tryd.prog sig.pure 62 fa62 := ⟨Tryd.func62, by kernel_rfl, fun c hc => by cases hc; kernel_rfl⟩
theorem fnOK63 : FnOK Tryd.prog sig.pure 63 fa63 := ⟨Tryd.func63, by kernel_rfl, fun c hc => by cases hc; kernel_rfl⟩
theorem fnOK64 : FnOK Tryd.prog sig.pure 64 fa64 := ⟨Tryd.func64, by kernel_rfl, fun c hc => by cases hc; kernel_rfl⟩
theorem fnOK71 : FnOK Tryd.prog sig.pure 71 fa71 := ⟨Tryd.func71, by kernel_rfl, fun c hc => by cases hc; kernel_rfl⟩
theorem fnOK80 : FnOK Tryd.prog sig.pure 80 fa80 := ⟨Tryd.func80, by kernel_rfl, fun c hc => by cases hc; kernel_rfl⟩
theorem fnOK82 : FnOK Tryd.prog sig.pure 82 fa82 := ⟨Tryd.func82, by kernel_rfl, fun c hc => by cases hc; kernel_rfl⟩
theorem fnOK95 : FnOK Tryd.prog sig.pure 95 fa95 := ⟨Tryd.func95, by kernel_rfl, fun c hc => by cases hc; kernel_rfl⟩

theorem fns_ok : ∀ f fa, fns f = some fa → FnOK Tryd.prog sig.pure f fa := by
  intro f fa h
  unfold fns at h
  split at h <;> first | (cases h; done) | skip
  · cases h; exact fnOK3
  · cases h; exact fnOK4
  · cases h; exact fnOK5
  · cases h; exact fnOK6
  · cases h; exact fnOK7
  · cases h; exact fnOK8
  · cases h; exact fnOK9
  · cases h; exact fnOK10
  · cases h; exact fnOK11
  · cases h; exact fnOK12
  · cases h; exact fnOK13
  · cases h; exact fnOK14
  · cases h; exact fnOK15
  · cases h; exact fnOK16
  · cases h; exact fnOK17
  · cases h; exact fnOK18
  · cases h; exact fnOK19
  · cases h; exact fnOK20
  · cases h; exact fnOK21
  · cases h; exact fnOK22
  · cases h; exact fnOK23
  · cases h; exact fnOK24
  · cases h; exact fnOK25
  · cases h; exact fnOK26
  · cases h; exact fnOK27
  · cases h; exact fnOK28
  · cases h; exact fnOK29
  · cases h; exact fnOK30
  · cases h; exact fnOK31
  · cases h; exact fnOK32
  · cases h; exact fnOK33
  · cases h; exact fnOK34
  · cases h; exact fnOK35
  · cases h; exact fnOK36
  · cases h; exact fnOK37
  · cases h; exact fnOK38
  · cases h; exact fnOK39
  · cases h; exact fnOK40
  · cases h; exact fnOK41
  · cases h; exact fnOK42
  · cases h; exact fnOK43
  · cases h; exact fnOK44
  · cases h; exact fnOK45
  · cases h; exact fnOK46
  · cases h; exact fnOK47
  · cases h; exact fnOK48
  · cases h; exact fnOK49
  · cases h; exact fnOK51
  · cases h; exact fnOK52
  · cases h; exact fnOK53
  · cases h; exact fnOK54
  · cases h; exact fnOK58
  · cases h; exact fnOK59
  · cases h; exact fnOK62
  · cases h; exact fnOK63
  · cases h; exact fnOK64
  · cases h; exact fnOK71
  · cases h; exact fnOK80
  · cases h; exact fnOK82
  · cases h; exact fnOK95

theorem prim_own : ∀ f p, primF f = some p → sig.own f = false := by
  intro f p h
  unfold primF at h
  split at h <;> first | rfl | cases h
theorem sig_ok : SigOK sig := ⟨by kernel_rfl, fns_ok, fun f h => by
  have h := (show (f == 10) = true from h)
  simp only [Bool.or_eq_true, beq_iff_eq] at h
  rcases h with rfl <;> rfl, fun f p h => ⟨prim_own f p h, prim_ok f p h⟩, fun f p h => by cases h⟩
end Go.Proofs.YtfnapmdedmbdbaaDoor
