/-
  The abstract machine over this seat: its table of functions, facts on its types, and that the table is sound. Written by program (seat.py).
-/
import Derived.Test.YtkjgmpjnhfmecaaProg
import Derived.Test.YtkjgmpjnhfmecaaAmY
import Derived.KernelRfl
set_option linter.unusedSimpArgs false
set_option linter.unusedVariables false
namespace Go.Proofs.Ytkjgmpjnhfmecaa
open Go Go.Am

theorem ty1 : tyOf Try.prog 1 = some { size := 1, bytes := 8, agg := false, k := .other, zero := some [.nilFunc] } := by kernel_rfl
theorem tk1 : tk Try.prog 1 = some (.other) := by kernel_rfl
theorem ty2 : tyOf Try.prog 2 = some { size := 1, bytes := 8, agg := false, k := .int .i64, zero := some [.int .i64 0] } := by kernel_rfl
theorem tk2 : tk Try.prog 2 = some (.int .i64) := by kernel_rfl
theorem ty3 : tyOf Try.prog 3 = some { size := 1, bytes := 8, agg := false, k := .int .i64, zero := some [.int .i64 0] } := by kernel_rfl
theorem tk3 : tk Try.prog 3 = some (.int .i64) := by kernel_rfl
theorem ty4 : tyOf Try.prog 4 = some { size := 1, bytes := 1, agg := false, k := .bool, zero := some [.bool false] } := by kernel_rfl
theorem tk4 : tk Try.prog 4 = some (.bool) := by kernel_rfl
theorem ty5 : tyOf Try.prog 5 = some { size := 1, bytes := 1, agg := false, k := .int .u8, zero := some [.int .u8 0] } := by kernel_rfl
theorem tk5 : tk Try.prog 5 = some (.int .u8) := by kernel_rfl
theorem ty22 : tyOf Try.prog 22 = some { size := 1, bytes := 24, agg := false, k := .slice 3, zero := some [.slice none 0 0] } := by kernel_rfl
theorem tk22 : tk Try.prog 22 = some (.slice 3) := by kernel_rfl
theorem ty24 : tyOf Try.prog 24 = some { size := 3, bytes := 40, agg := true, k := .struct [(0, 2), (1, 2), (2, 22)], zero := some [.int .i64 0, .int .i64 0, .slice none 0 0] } := by kernel_rfl
theorem tk24 : tk Try.prog 24 = some (.struct [(0, 2), (1, 2), (2, 22)]) := by kernel_rfl
theorem eqOk24 : eqOk Try.prog 24 = true := by kernel_rfl
theorem ty25 : tyOf Try.prog 25 = some { size := 4, bytes := 4, agg := true, k := .array 4 5, zero := some [.int .u8 0, .int .u8 0, .int .u8 0, .int .u8 0] } := by kernel_rfl
theorem tk25 : tk Try.prog 25 = some (.array 4 5) := by kernel_rfl
theorem eqOk25 : eqOk Try.prog 25 = true := by kernel_rfl
theorem ty29 : tyOf Try.prog 29 = some { size := 1, bytes := 24, agg := false, k := .slice 37, zero := some [.slice none 0 0] } := by kernel_rfl
theorem tk29 : tk Try.prog 29 = some (.slice 37) := by kernel_rfl
theorem ty30 : tyOf Try.prog 30 = some { size := 1, bytes := 8, agg := false, k := .int .i64, zero := some [.int .i64 0] } := by kernel_rfl
theorem tk30 : tk Try.prog 30 = some (.int .i64) := by kernel_rfl
theorem ty33 : tyOf Try.prog 33 = some { size := 1, bytes := 24, agg := false, k := .slice 39, zero := some [.slice none 0 0] } := by kernel_rfl
theorem tk33 : tk Try.prog 33 = some (.slice 39) := by kernel_rfl
theorem ty37 : tyOf Try.prog 37 = some { size := 3, bytes := 24, agg := true, k := .struct [(0, 3), (1, 3), (2, 3)], zero := some [.int .i64 0, .int .i64 0, .int .i64 0] } := by kernel_rfl
theorem tk37 : tk Try.prog 37 = some (.struct [(0, 3), (1, 3), (2, 3)]) := by kernel_rfl
theorem eqOk37 : eqOk Try.prog 37 = true := by kernel_rfl
theorem ty39 : tyOf Try.prog 39 = some { size := 5, bytes := 40, agg := true, k := .struct [(0, 37), (3, 2), (4, 3)], zero := some [.int .i64 0, .int .i64 0, .int .i64 0, .int .i64 0, .int .i64 0] } := by kernel_rfl
theorem tk39 : tk Try.prog 39 = some (.struct [(0, 37), (3, 2), (4, 3)]) := by kernel_rfl
theorem eqOk39 : eqOk Try.prog 39 = true := by kernel_rfl
theorem ty40 : tyOf Try.prog 40 = some { size := 1, bytes := 24, agg := false, k := .slice 43, zero := some [.slice none 0 0] } := by kernel_rfl
theorem tk40 : tk Try.prog 40 = some (.slice 43) := by kernel_rfl
theorem ty41 : tyOf Try.prog 41 = some { size := 1, bytes := 8, agg := false, k := .int .u64, zero := some [.int .u64 0] } := by kernel_rfl
theorem tk41 : tk Try.prog 41 = some (.int .u64) := by kernel_rfl
theorem ty43 : tyOf Try.prog 43 = some { size := 2, bytes := 16, agg := true, k := .struct [(0, 2), (1, 2)], zero := some [.int .i64 0, .int .i64 0] } := by kernel_rfl
theorem tk43 : tk Try.prog 43 = some (.struct [(0, 2), (1, 2)]) := by kernel_rfl
theorem eqOk43 : eqOk Try.prog 43 = true := by kernel_rfl
theorem ty44 : tyOf Try.prog 44 = some { size := 1, bytes := 24, agg := false, k := .slice 2, zero := some [.slice none 0 0] } := by kernel_rfl
theorem tk44 : tk Try.prog 44 = some (.slice 2) := by kernel_rfl
theorem ty45 : tyOf Try.prog 45 = some { size := 2, bytes := 16, agg := true, k := .struct [(0, 2), (1, 2)], zero := some [.int .i64 0, .int .i64 0] } := by kernel_rfl
theorem tk45 : tk Try.prog 45 = some (.struct [(0, 2), (1, 2)]) := by kernel_rfl
theorem eqOk45 : eqOk Try.prog 45 = true := by kernel_rfl

noncomputable def fa3 : FnA := ⟨Try.f3, [0, 1, 2, 4, 5, 6, 7, 8, 9, 10, 11, 12, 13, 14, 15, 16, 17, 18, 19, 20, 21, 22, 23, 24, 25, 26, 27, 28, 30, 31, 32, 33, 35, 63, 81, 82, 83, 96, 97, 98, 99, 135, 154, 158, 159, 160, 161, 186, 200, 201, 202, 212, 219, 220, 221, 222, 236, 240, 241, 242, 243, 259], [(8, .quiet 12), (29, .quiet 22), (36, .quiet 9)]⟩
noncomputable def fa4 : FnA := ⟨Try.f4, [0, 1, 2, 3, 4], []⟩
noncomputable def fa5 : FnA := ⟨Try.f5, [0, 1, 3, 4, 5, 6, 7, 8, 16, 17, 18, 28], [(10, .quiet 12)]⟩
noncomputable def fa6 : FnA := ⟨Try.f6, [0, 1, 2, 4, 5, 6, 7, 8, 9, 10, 11, 12, 14, 20, 27, 28, 29, 33, 49, 69, 81, 87, 88, 89, 90], [(15, .quiet 17)]⟩
noncomputable def fa7 : FnA := ⟨Try.f7, [0, 1, 3, 4, 5, 6, 7, 9, 10, 12, 18, 20, 21, 22, 23, 29, 32, 33, 34, 35, 49, 67, 71], [(21, .led [0, 1, 2, 3, 4, 5, 6, 7, 8, 9] [[10]] [11, 12] [] [])]⟩
noncomputable def fa8 : FnA := ⟨Try.f8, [0, 1, 2, 6, 7, 8, 9, 10, 11, 12, 13, 14, 15, 16, 17, 23, 30, 31, 32, 38, 39, 40, 41, 48, 49, 50, 56, 63, 64, 65, 66, 83], [(24, .quiet 14)]⟩
noncomputable def fa9 : FnA := ⟨Try.f9, [0, 1, 2, 6, 7, 8, 9, 10, 35, 40, 49], []⟩
noncomputable def fa10 : FnA := ⟨Try.f10, [0, 1, 2, 3, 4, 15], []⟩
noncomputable def fa11 : FnA := ⟨Try.f11, [0, 1, 3, 4, 6, 7, 16, 36, 37, 38, 39, 47], []⟩
noncomputable def fa12 : FnA := ⟨Try.f12, [0, 1, 2, 3, 4, 5], []⟩
noncomputable def fa13 : FnA := ⟨Try.f13, [0, 1, 2, 4], []⟩
noncomputable def fa14 : FnA := ⟨Try.f14, [0, 1, 2, 6, 8, 9, 10, 11, 12, 24], []⟩
noncomputable def fa15 : FnA := ⟨Try.f15, [0, 1, 2, 6, 8, 10, 11, 20, 27, 28, 29, 30, 38, 40, 41, 42, 43, 46, 52], []⟩
noncomputable def fa16 : FnA := ⟨Try.f16, [0, 1, 2, 6, 7, 8, 9, 10, 11, 12, 13, 41], [(5, .quiet 25)]⟩
noncomputable def fa17 : FnA := ⟨Try.f17, [0, 1, 2, 6, 7, 8, 10, 12, 14, 15, 16, 17, 18, 19, 38, 39, 40, 41, 45, 46, 47, 48, 66], [(5, .ledL [0, 1, 2, 5, 6, 7] [[3, 4, 8], [3, 8, 4], [8, 3, 4]] [9, 10, 11] [26, 27, 30] [0, 1, 2]), (16, .quiet 13)]⟩
noncomputable def fa18 : FnA := ⟨Try.f18, [0, 1, 4, 5, 6, 11, 14], []⟩
noncomputable def fa19 : FnA := ⟨Try.f19, [0, 2, 4], []⟩
noncomputable def fa22 : FnA := ⟨Try.f22, [0, 1, 3, 4, 5, 7, 8, 9, 10, 11, 25], []⟩
noncomputable def fa23 : FnA := ⟨Try.f23, [0, 1, 2, 3, 6, 7, 8, 9, 10, 16, 17, 18, 19, 20, 36], []⟩
noncomputable def fa24 : FnA := ⟨Try.f24, [0, 2], []⟩

end Go.Proofs.Ytkjgmpjnhfmecaa
