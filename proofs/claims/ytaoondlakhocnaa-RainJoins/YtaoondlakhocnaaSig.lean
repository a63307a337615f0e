/-
  The abstract machine over this seat: its table of functions, facts on its types, and that the table is sound. Written by program (seat.py).
-/
import Derived.Test.YtaoondlakhocnaaProg
import Derived.Test.YtaoondlakhocnaaAmY
import Derived.KernelRfl
namespace Go.Proofs.Ytaoondlakhocnaa
open Go Go.Am

theorem ty1 : tyOf Try.prog 1 = some { size := 1, bytes := 8, agg := false, k := .other, zero := some [.nilFunc] } := by kernel_rfl
theorem tk1 : tk Try.prog 1 = some (.other) := by kernel_rfl
theorem ty2 : tyOf Try.prog 2 = some { size := 1, bytes := 8, agg := false, k := .int .i64, zero := some [.int .i64 0] } := by kernel_rfl
theorem tk2 : tk Try.prog 2 = some (.int .i64) := by kernel_rfl
theorem ty3 : tyOf Try.prog 3 = some { size := 1, bytes := 8, agg := false, k := .int .i64, zero := some [.int .i64 0] } := by kernel_rfl
theorem tk3 : tk Try.prog 3 = some (.int .i64) := by kernel_rfl
theorem ty4 : tyOf Try.prog 4 = some { size := 1, bytes := 1, agg := false, k := .bool, zero := some [.bool false] } := by kernel_rfl
theorem tk4 : tk Try.prog 4 = some (.bool) := by kernel_rfl
theorem ty5 : tyOf Try.prog 5 = some { size := 1, bytes := 1, agg := false, k := .int .u8, zero := some [.int .u8 0] } := by kernel_rfl
theorem tk5 : tk Try.prog 5 = some (.int .u8) := by kernel_rfl
theorem ty6 : tyOf Try.prog 6 = some { size := 1, bytes := 1, agg := false, k := .int .u8, zero := some [.int .u8 0] } := by kernel_rfl
theorem tk6 : tk Try.prog 6 = some (.int .u8) := by kernel_rfl
theorem ty22 : tyOf Try.prog 22 = some { size := 1, bytes := 24, agg := false, k := .slice 28, zero := some [.slice none 0 0] } := by kernel_rfl
theorem tk22 : tk Try.prog 22 = some (.slice 28) := by kernel_rfl
theorem ty24 : tyOf Try.prog 24 = some { size := 1, bytes := 24, agg := true, k := .struct [(0, 22)], zero := some [.slice none 0 0] } := by kernel_rfl
theorem tk24 : tk Try.prog 24 = some (.struct [(0, 22)]) := by kernel_rfl
theorem eqOk24 : eqOk Try.prog 24 = true := by kernel_rfl
theorem ty25 : tyOf Try.prog 25 = some { size := 1, bytes := 24, agg := false, k := .slice 56, zero := some [.slice none 0 0] } := by kernel_rfl
theorem tk25 : tk Try.prog 25 = some (.slice 56) := by kernel_rfl
theorem ty27 : tyOf Try.prog 27 = some { size := 7, bytes := 104, agg := true, k := .struct [(0, 24), (1, 3), (2, 3), (3, 3), (4, 2), (5, 25), (6, 25)], zero := some [.slice none 0 0, .int .i64 0, .int .i64 0, .int .i64 0, .int .i64 0, .slice none 0 0, .slice none 0 0] } := by kernel_rfl
theorem tk27 : tk Try.prog 27 = some (.struct [(0, 24), (1, 3), (2, 3), (3, 3), (4, 2), (5, 25), (6, 25)]) := by kernel_rfl
theorem eqOk27 : eqOk Try.prog 27 = true := by kernel_rfl
theorem ty28 : tyOf Try.prog 28 = some { size := 1, bytes := 24, agg := false, k := .slice 2, zero := some [.slice none 0 0] } := by kernel_rfl
theorem tk28 : tk Try.prog 28 = some (.slice 2) := by kernel_rfl
theorem ty30 : tyOf Try.prog 30 = some { size := 2, bytes := 48, agg := true, k := .struct [(0, 28), (1, 28)], zero := some [.slice none 0 0, .slice none 0 0] } := by kernel_rfl
theorem tk30 : tk Try.prog 30 = some (.struct [(0, 28), (1, 28)]) := by kernel_rfl
theorem eqOk30 : eqOk Try.prog 30 = true := by kernel_rfl
theorem ty31 : tyOf Try.prog 31 = some { size := 3, bytes := 24, agg := true, k := .array 3 2, zero := some [.int .i64 0, .int .i64 0, .int .i64 0] } := by kernel_rfl
theorem tk31 : tk Try.prog 31 = some (.array 3 2) := by kernel_rfl
theorem eqOk31 : eqOk Try.prog 31 = true := by kernel_rfl
theorem ty34 : tyOf Try.prog 34 = some { size := 7, bytes := 104, agg := true, k := .struct [(0, 24), (1, 3), (2, 3), (3, 3), (4, 2), (5, 25), (6, 25)], zero := some [.slice none 0 0, .int .i64 0, .int .i64 0, .int .i64 0, .int .i64 0, .slice none 0 0, .slice none 0 0] } := by kernel_rfl
theorem tk34 : tk Try.prog 34 = some (.struct [(0, 24), (1, 3), (2, 3), (3, 3), (4, 2), (5, 25), (6, 25)]) := by kernel_rfl
theorem eqOk34 : eqOk Try.prog 34 = true := by kernel_rfl
theorem ty36 : tyOf Try.prog 36 = some { size := 1, bytes := 8, agg := false, k := .int .i64, zero := some [.int .i64 0] } := by kernel_rfl
theorem tk36 : tk Try.prog 36 = some (.int .i64) := by kernel_rfl
theorem ty43 : tyOf Try.prog 43 = some { size := 1, bytes := 24, agg := false, k := .slice 34, zero := some [.slice none 0 0] } := by kernel_rfl
theorem tk43 : tk Try.prog 43 = some (.slice 34) := by kernel_rfl
theorem ty46 : tyOf Try.prog 46 = some { size := 5, bytes := 40, agg := true, k := .struct [(0, 3), (1, 2), (2, 2), (3, 2), (4, 3)], zero := some [.int .i64 0, .int .i64 0, .int .i64 0, .int .i64 0, .int .i64 0] } := by kernel_rfl
theorem tk46 : tk Try.prog 46 = some (.struct [(0, 3), (1, 2), (2, 2), (3, 2), (4, 3)]) := by kernel_rfl
theorem eqOk46 : eqOk Try.prog 46 = true := by kernel_rfl
theorem ty50 : tyOf Try.prog 50 = some { size := 1, bytes := 2, agg := false, k := .int .u16, zero := some [.int .u16 0] } := by kernel_rfl
theorem tk50 : tk Try.prog 50 = some (.int .u16) := by kernel_rfl
theorem ty51 : tyOf Try.prog 51 = some { size := 3, bytes := 6, agg := true, k := .array 3 50, zero := some [.int .u16 0, .int .u16 0, .int .u16 0] } := by kernel_rfl
theorem tk51 : tk Try.prog 51 = some (.array 3 50) := by kernel_rfl
theorem eqOk51 : eqOk Try.prog 51 = true := by kernel_rfl
theorem ty53 : tyOf Try.prog 53 = some { size := 2, bytes := 16, agg := true, k := .array 2 2, zero := some [.int .i64 0, .int .i64 0] } := by kernel_rfl
theorem tk53 : tk Try.prog 53 = some (.array 2 2) := by kernel_rfl
theorem eqOk53 : eqOk Try.prog 53 = true := by kernel_rfl
theorem ty56 : tyOf Try.prog 56 = some { size := 3, bytes := 24, agg := true, k := .struct [(0, 2), (1, 2), (2, 3)], zero := some [.int .i64 0, .int .i64 0, .int .i64 0] } := by kernel_rfl
theorem tk56 : tk Try.prog 56 = some (.struct [(0, 2), (1, 2), (2, 3)]) := by kernel_rfl
theorem eqOk56 : eqOk Try.prog 56 = true := by kernel_rfl
theorem ty58 : tyOf Try.prog 58 = some { size := 2, bytes := 16, agg := true, k := .array 2 3, zero := some [.int .i64 0, .int .i64 0] } := by kernel_rfl
theorem tk58 : tk Try.prog 58 = some (.array 2 3) := by kernel_rfl
theorem eqOk58 : eqOk Try.prog 58 = true := by kernel_rfl
theorem ty64 : tyOf Try.prog 64 = some { size := 4, bytes := 64, agg := true, k := .struct [(0, 24), (1, 3), (2, 2), (3, 25)], zero := some [.slice none 0 0, .int .i64 0, .int .i64 0, .slice none 0 0] } := by kernel_rfl
theorem tk64 : tk Try.prog 64 = some (.struct [(0, 24), (1, 3), (2, 2), (3, 25)]) := by kernel_rfl
theorem eqOk64 : eqOk Try.prog 64 = true := by kernel_rfl

noncomputable def fa3 : FnA := ⟨Try.f3, [0, 1, 2, 3, 4, 5, 6, 7, 9, 10, 11, 12, 13, 14, 15, 16, 17, 19, 20, 21, 22, 23, 24, 25, 27, 42, 51, 101, 102, 103, 104, 159], [(10, .led [0, 1, 2, 3, 5, 6, 7, 8] [[4, 9, 10], [4, 10, 9]] [11, 12, 13] [57, 62, 63] []), (12, .led [0, 1, 3, 4] [[2, 5, 6], [2, 6, 5]] [7, 8, 9] [68, 71, 72] [])]⟩
noncomputable def fa4 : FnA := ⟨Try.f4, [0, 1, 2, 4, 5, 6, 7, 8, 9, 10, 11, 12, 14], []⟩
noncomputable def fa5 : FnA := ⟨Try.f5, [0, 1, 2, 3, 4, 5, 6, 7, 8, 9, 10, 11, 12, 13, 15, 31, 58, 83, 108], []⟩
noncomputable def fa6 : FnA := ⟨Try.f6, [0, 1, 2, 3, 4, 5, 6, 7, 8, 9, 10, 11, 12, 13, 14, 16, 32, 78], []⟩
noncomputable def fa7 : FnA := ⟨Try.f7, [0, 1, 2, 3, 4, 5, 6, 7, 8, 9, 10, 11, 12, 14, 17, 25], [(8, .led [0, 1] [[2, 3, 4], [3, 2, 4]] [5] [29, 7, 8] [0, 1]), (9, .led [1, 2, 4] [[0, 3, 5], [0, 5, 3], [5, 0, 3]] [6, 7, 8] [33, 35] [0, 1, 2]), (10, .led [1, 2, 4] [[0, 3, 5], [0, 5, 3], [5, 0, 3]] [6, 7, 8] [41, 43] [0, 1, 2])]⟩
noncomputable def fa8 : FnA := ⟨Try.f8, [0, 1, 2, 3, 5, 6, 7, 8, 9, 10, 11, 12, 13, 14, 15, 16, 17, 18, 20, 23], [(7, .led [0, 2, 3, 4] [[1, 5, 6, 7, 8, 9], [1, 5, 6, 7, 9, 8], [1, 5, 6, 8, 7, 9]] [10] [43, 11] []), (9, .led [0, 2, 3, 4, 5, 6] [[1, 7, 8, 9, 10, 11], [1, 7, 8, 9, 11, 10], [1, 7, 8, 10, 9, 11]] [12] [62, 15] [])]⟩
noncomputable def fa9 : FnA := ⟨Try.f9, [0, 1, 2, 3, 4, 5, 6, 8, 14], [(7, .quiet 30)]⟩
noncomputable def fa10 : FnA := ⟨Try.f10, [0, 1, 2, 3, 5, 6, 7, 8, 9, 10, 12, 15], []⟩
noncomputable def fa11 : FnA := ⟨Try.f11, [0, 1, 2, 3, 4, 5, 7, 8, 9, 11, 17, 31, 67, 69, 70, 71, 72, 89], []⟩
noncomputable def fa12 : FnA := ⟨Try.f12, [0, 1, 2, 3, 6, 7, 8, 9, 10, 11, 12, 13, 14, 16, 22, 47, 49, 82], [(13, .quiet 10)]⟩
noncomputable def fa13 : FnA := ⟨Try.f13, [0, 1, 2, 3, 4, 5, 6, 7, 8, 10, 16], [(6, .led [0, 1, 2, 3, 4, 5, 7, 8, 10] [[6, 9, 11, 12, 13, 14, 15, 16, 17], [6, 9, 11, 12, 13, 14, 15, 17, 16], [6, 9, 11, 12, 13, 14, 16, 15, 17], [6, 11, 9, 12, 13, 14, 15, 16, 17], [6, 11, 9, 12, 13, 14, 15, 17, 16], [6, 11, 9, 12, 13, 14, 16, 15, 17], [11, 6, 9, 12, 13, 14, 15, 16, 17], [11, 6, 9, 12, 13, 14, 15, 17, 16], [11, 6, 9, 12, 13, 14, 16, 15, 17]] [18] [45, 7] [0, 1, 2, 3])]⟩
noncomputable def fa14 : FnA := ⟨Try.f14, [0, 1, 2, 3, 4, 5, 6, 7, 9, 15, 37], [(6, .led2 [0, 1, 2] [3, 4, 5, 6] [7, 8, 9, 10, 12, 13, 14, 15] [[11, 16], [16, 11]] [17, 18] [25, 30, 35] []), (10, .quiet 24)]⟩
noncomputable def fa15 : FnA := ⟨Try.f15, [0, 1, 2, 3, 4, 6, 7, 8, 9, 10, 11, 12, 13, 14, 15, 16, 17, 18, 19, 20, 22, 25, 29, 42, 43, 61, 66], [(5, .led [0, 1, 2] [[3, 4]] [5] [] []), (22, .led [0, 2, 3, 4] [[1, 5, 6, 7, 8, 9], [1, 5, 6, 7, 9, 8], [1, 5, 6, 8, 7, 9]] [10] [82, 17] []), (23, .led [0, 2, 3, 4] [[1, 5, 6, 7, 8, 9], [1, 5, 6, 7, 9, 8], [1, 5, 6, 8, 7, 9]] [10] [91, 19] [])]⟩
noncomputable def fa16 : FnA := ⟨Try.f16, [0, 1, 2, 3, 4], []⟩
noncomputable def fa17 : FnA := ⟨Try.f17, [0, 1, 2], []⟩
noncomputable def fa18 : FnA := ⟨Try.f18, [0, 1, 2], []⟩
noncomputable def fa19 : FnA := ⟨Try.f19, [0, 1, 2, 3, 4, 5, 6, 7, 16], []⟩
noncomputable def fa20 : FnA := ⟨Try.f20, [0, 1, 4, 6, 7, 8, 9, 10, 11, 12, 13, 17, 18, 19, 29], []⟩
noncomputable def fa21 : FnA := ⟨Try.f21, [0, 2, 3, 5, 6, 7, 8, 9, 10, 38], [(6, .quiet 24)]⟩
noncomputable def fa22 : FnA := ⟨Try.f22, [0, 1, 2, 3, 4, 8, 9, 10, 11, 20, 22, 26, 30], []⟩
noncomputable def fa23 : FnA := ⟨Try.f23, [0, 1, 2, 3, 6, 7, 9, 10, 11, 12, 13, 14, 15, 16, 17, 25, 38, 46, 68], [(10, .quiet 16)]⟩
noncomputable def fa24 : FnA := ⟨Try.f24, [0, 1, 2, 3, 4, 5, 6, 7, 8], []⟩
noncomputable def fa25 : FnA := ⟨Try.f25, [0, 1, 2, 3, 4, 10, 11, 45, 48], []⟩
noncomputable def fa26 : FnA := ⟨Try.f26, [0, 1, 2, 3, 4, 10, 11, 36, 39], []⟩
noncomputable def fa27 : FnA := ⟨Try.f27, [0, 1, 2, 3, 4, 5, 12, 13, 15, 16, 17, 28, 36, 49], []⟩
noncomputable def fa28 : FnA := ⟨Try.f28, [0, 1, 2, 3, 4, 5, 12, 13, 15, 16, 17, 28, 33], []⟩
noncomputable def fa29 : FnA := ⟨Try.f29, [0, 1, 2, 4, 21, 24, 25, 26, 27, 32], []⟩
noncomputable def fa30 : FnA := ⟨Try.f30, [0, 1, 2], []⟩
noncomputable def fa31 : FnA := ⟨Try.f31, [0, 1, 2, 3, 4, 5, 6, 14], []⟩
noncomputable def fa32 : FnA := ⟨Try.f32, [0, 1, 2, 3, 6, 7, 9, 10, 11, 12, 13, 14, 15, 16, 24, 37, 45, 67], [(10, .quiet 16)]⟩
noncomputable def fa33 : FnA := ⟨Try.f33, [0, 1, 2, 3, 4, 8, 9, 10, 11, 20, 24, 27, 30], []⟩
noncomputable def fa34 : FnA := ⟨Try.f34, [0, 1, 2, 3, 4, 5, 6, 7], []⟩
noncomputable def fa35 : FnA := ⟨Try.f35, [0, 1, 2, 4, 6, 15, 17, 18, 19, 20, 25], []⟩
noncomputable def fa36 : FnA := ⟨Try.f36, [0, 1, 2, 3, 4, 8, 9, 10, 11, 12, 14, 15, 16, 23, 33, 35, 36, 37, 38, 49], []⟩
noncomputable def fa37 : FnA := ⟨Try.f37, [0, 1, 2, 3, 4, 8, 9, 10, 11, 14, 15, 23, 32, 33, 34, 35], []⟩
noncomputable def fa38 : FnA := ⟨Try.f38, [0, 1, 2, 3, 4, 8, 9, 10, 11, 15, 34, 37, 38, 39, 40, 41, 45, 67, 73], [(11, .quiet 22), (15, .quiet 25)]⟩
noncomputable def fa39 : FnA := ⟨Try.f39, [0, 1, 2, 3, 4, 8, 9, 10, 11, 15, 34, 37, 38, 39, 40, 41, 65, 70, 94], [(11, .quiet 21), (15, .quiet 24)]⟩
noncomputable def fa40 : FnA := ⟨Try.f40, [0, 1, 2, 3, 5, 6, 7, 8, 9, 10, 22, 35, 41], []⟩
noncomputable def fa41 : FnA := ⟨Try.f41, [0, 1, 2, 3, 5, 6, 7, 8, 9, 10, 22, 35, 41], []⟩
noncomputable def fa42 : FnA := ⟨Try.f42, [0, 1, 2, 3, 4, 8, 9, 10, 11, 12, 13, 17, 46, 50, 70], [(8, .quiet 8)]⟩
noncomputable def fa43 : FnA := ⟨Try.f43, [0, 1, 2, 6, 7, 8, 9, 17, 31, 34], []⟩
noncomputable def fa44 : FnA := ⟨Try.f44, [0, 1, 2, 6, 7, 8, 9, 17, 31, 34], []⟩
noncomputable def fa45 : FnA := ⟨Try.f45, [0, 1, 4, 5, 10, 12, 13, 14, 24], [(6, .quiet 9)]⟩
noncomputable def fa46 : FnA := ⟨Try.f46, [0, 1, 4, 5, 7, 15, 16, 17, 18, 19, 31], []⟩
noncomputable def fa47 : FnA := ⟨Try.f47, [0, 2, 3, 5, 6, 7, 8, 9, 10, 38], [(6, .quiet 24)]⟩
noncomputable def fa48 : FnA := ⟨Try.f48, [0, 1, 4, 6, 14, 15, 16, 17, 18, 30], []⟩
noncomputable def fa49 : FnA := ⟨Try.f49, [0, 1, 4, 5, 6, 7, 8, 9, 10, 24, 30, 37, 38, 39, 41, 42, 43], []⟩
noncomputable def fa50 : FnA := ⟨Try.f50, [0, 1, 2, 3, 4, 5, 19, 34], [(7, .quiet 9)]⟩
noncomputable def fa51 : FnA := ⟨Try.f51, [0, 2], []⟩
noncomputable def fa52 : FnA := ⟨Try.f52, [0, 1, 2, 6], []⟩
noncomputable def fa53 : FnA := ⟨Try.f53, [0, 1, 2, 3, 4, 18, 33], []⟩
noncomputable def fa54 : FnA := ⟨Try.f54, [0, 1, 2, 3, 4, 8, 9, 10, 11, 12, 13, 14, 18, 48, 52, 72], [(9, .quiet 8)]⟩
noncomputable def fa55 : FnA := ⟨Try.f55, [0, 1, 2, 3, 4, 5, 6, 7, 8, 9, 10, 11, 15, 20, 23, 24, 25, 26, 30, 31, 32, 33, 67, 74, 81, 82, 83, 84, 118], [(23, .quiet 31)]⟩
noncomputable def fa56 : FnA := ⟨Try.f56, [0, 1, 2], []⟩
noncomputable def fa57 : FnA := ⟨Try.f57, [0, 1, 2, 6], []⟩
noncomputable def fa58 : FnA := ⟨Try.f58, [0, 1, 2, 3, 4, 5, 6, 7, 8, 9, 10, 14, 17, 18, 19, 20, 24, 25, 26, 27, 61, 68, 75, 76, 77, 78, 112], [(20, .quiet 31)]⟩
noncomputable def fa59 : FnA := ⟨Try.f59, [0, 1, 2], []⟩
noncomputable def fa60 : FnA := ⟨Try.f60, [0, 1, 2, 6], []⟩
noncomputable def fa61 : FnA := ⟨Try.f61, [0, 2, 4], []⟩
noncomputable def fa62 : FnA := ⟨Try.f62, [0, 1, 2, 6, 7, 8, 9, 16, 22, 31, 68], [(11, .quiet 8), (15, .quiet 8)]⟩
noncomputable def fa63 : FnA := ⟨Try.f63, [0, 2], []⟩
noncomputable def fa64 : FnA := ⟨Try.f64, [0, 2], []⟩
noncomputable def fa65 : FnA := ⟨Try.f65, [0, 1, 2, 4, 6, 8, 9, 22, 36, 37, 38, 39, 49, 52, 53, 54, 55, 58, 59, 60, 61, 69], []⟩
noncomputable def fa66 : FnA := ⟨Try.f66, [0, 1, 2, 4, 8, 9, 10, 11, 15, 27], []⟩
noncomputable def fa67 : FnA := ⟨Try.f67, [0, 1, 2, 3, 5, 9, 14, 15, 16, 17, 21, 33], []⟩
noncomputable def fa69 : FnA := ⟨Try.f69, [0, 1], []⟩
noncomputable def fa70 : FnA := ⟨Try.f70, [0, 1, 2, 4, 6, 8, 20, 32, 34, 35, 36, 37, 47, 50, 51, 52, 53, 56, 57, 58, 59, 67], []⟩
noncomputable def fa71 : FnA := ⟨Try.f71, [0, 1], []⟩
noncomputable def fa72 : FnA := ⟨Try.f72, [0, 2, 3, 9], [(3, .led [0, 1, 2, 3, 4, 5, 6, 7, 8, 9, 10, 11, 12] [[13]] [14, 15] [] [])]⟩

noncomputable def fns : FuncId → Option FnA
  | 3 => some fa3
  | 4 => some fa4
  | 5 => some fa5
  | 6 => some fa6
  | 7 => some fa7
  | 8 => some fa8
  | 9 => some fa9
  | 10 => some fa10
  | 11 => some fa11
  | 12 => some fa12
  | 13 => some fa13
  | 14 => some fa14
  | 15 => some fa15
  | 16 => some fa16
  | 17 => some fa17
  | 18 => some fa18
  | 19 => some fa19
  | 20 => some fa20
  | 21 => some fa21
  | 22 => some fa22
  | 23 => some fa23
  | 24 => some fa24
  | 25 => some fa25
  | 26 => some fa26
  | 27 => some fa27
  | 28 => some fa28
  | 29 => some fa29
  | 30 => some fa30
  | 31 => some fa31
  | 32 => some fa32
  | 33 => some fa33
  | 34 => some fa34
  | 35 => some fa35
  | 36 => some fa36
  | 37 => some fa37
  | 38 => some fa38
  | 39 => some fa39
  | 40 => some fa40
  | 41 => some fa41
  | 42 => some fa42
  | 43 => some fa43
  | 44 => some fa44
  | 45 => some fa45
  | 46 => some fa46
  | 47 => some fa47
  | 48 => some fa48
  | 49 => some fa49
  | 50 => some fa50
  | 51 => some fa51
  | 52 => some fa52
  | 53 => some fa53
  | 54 => some fa54
  | 55 => some fa55
  | 56 => some fa56
  | 57 => some fa57
  | 58 => some fa58
  | 59 => some fa59
  | 60 => some fa60
  | 61 => some fa61
  | 62 => some fa62
  | 63 => some fa63
  | 64 => some fa64
  | 65 => some fa65
  | 66 => some fa66
  | 67 => some fa67
  | 69 => some fa69
  | 70 => some fa70
  | 71 => some fa71
  | 72 => some fa72
  | _ => none

noncomputable def sig : Sig := { P := Try.prog, fns := fns, prim := fun _ => none, own := fun f => f == 61 || f == 62, fz := fun f => f == 19 || f == 24 || f == 34 || f == 36 }

theorem fnOK3 : FnOK Try.prog sig.pure 3 fa3 := ⟨Try.func3, by kernel_rfl, fun c hc => by cases hc; kernel_rfl⟩
theorem fnOK4 : FnOK Try.prog sig.pure 4 fa4 := ⟨Try.func4, by kernel_rfl, fun c hc => by cases hc; kernel_rfl⟩
theorem fnOK5 : FnOK Try.prog sig.pure 5 fa5 := ⟨Try.func5, by kernel_rfl, fun c hc => by cases hc; kernel_rfl⟩
theorem fnOK6 : FnOK Try.prog sig.pure 6 fa6 := ⟨Try.func6, by kernel_rfl, fun c hc => by cases hc; kernel_rfl⟩
theorem fnOK7 : FnOK Try.prog sig.pure 7 fa7 := ⟨Try.func7, by kernel_rfl, fun c hc => by cases hc; kernel_rfl⟩
theorem fnOK8 : FnOK Try.prog sig.pure 8 fa8 := ⟨Try.func8, by kernel_rfl, fun c hc => by cases hc; kernel_rfl⟩
theorem fnOK9 : FnOK Try.prog sig.pure 9 fa9 := ⟨Try.func9, by kernel_rfl, fun c hc => by cases hc; kernel_rfl⟩
theorem fnOK10 : FnOK Try.prog sig.pure 10 fa10 := ⟨Try.func10, by kernel_rfl, fun c hc => by cases hc; kernel_rfl⟩
theorem fnOK11 : FnOK Try.prog sig.pure 11 fa11 := ⟨Try.func11, by kernel_rfl, fun c hc => by cases hc; kernel_rfl⟩
theorem fnOK12 : FnOK Try.prog sig.pure 12 fa12 := ⟨Try.func12, by kernel_rfl, fun c hc => by cases hc; kernel_rfl⟩
theorem fnOK13 : FnOK Try.prog sig.pure 13 fa13 := ⟨Try.func13, by kernel_rfl, fun c hc => by cases hc; kernel_rfl⟩
theorem fnOK14 : FnOK Try.prog sig.pure 14 fa14 := ⟨Try.func14, by kernel_rfl, fun c hc => by cases hc; kernel_rfl⟩
theorem fnOK15 : FnOK Try.prog sig.pure 15 fa15 := ⟨Try.func15, by kernel_rfl, fun c hc => by cases hc; kernel_rfl⟩
theorem fnOK16 : FnOK Try.prog sig.pure 16 fa16 := ⟨Try.func16, by kernel_rfl, fun c hc => by cases hc; kernel_rfl⟩
theorem fnOK17 : FnOK Try.prog sig.pure 17 fa17 := ⟨Try.func17, by kernel_rfl, fun c hc => by cases hc; kernel_rfl⟩
theorem fnOK18 : FnOK Try.prog sig.pure 18 fa18 := ⟨Try.func18, by kernel_rfl, fun c hc => by cases hc; kernel_rfl⟩
theorem fnOK19 : FnOK Try.prog sig.pure 19 fa19 := ⟨Try.func19, by kernel_rfl, fun c hc => by cases hc; kernel_rfl⟩
theorem fnOK20 : FnOK Try.prog sig.pure 20 fa20 := ⟨Try.func20, by kernel_rfl, fun c hc => by cases hc; kernel_rfl⟩
theorem fnOK21 : FnOK Try.prog sig.pure 21 fa21 := ⟨Try.func21, by kernel_rfl, fun c hc => by cases hc; kernel_rfl⟩
theorem fnOK22 : FnOK Try.prog sig.pure 22 fa22 := ⟨Try.func22, by kernel_rfl, fun c hc => by cases hc; kernel_rfl⟩
theorem fnOK23 : FnOK Try.prog sig.pure 23 fa23 := ⟨Try.func23, by kernel_rfl, fun c hc => by cases hc; kernel_rfl⟩
theorem fnOK24 : FnOK Try.prog sig.pure 24 fa24 := ⟨Try.func24, by kernel_rfl, fun c hc => by cases hc; kernel_rfl⟩
theorem fnOK25 : FnOK Try.prog sig.pure 25 fa25 := ⟨Try.func25, by kernel_rfl, fun c hc => by cases hc; kernel_rfl⟩
theorem fnOK26 : FnOK Try.prog sig.pure 26 fa26 := ⟨Try.func26, by kernel_rfl, fun c hc => by cases hc; kernel_rfl⟩
theorem fnOK27 : FnOK Try.prog sig.pure 27 fa27 := ⟨Try.func27, by kernel_rfl, fun c hc => by cases hc; kernel_rfl⟩
theorem fnOK28 : FnOK Try.prog sig.pure 28 fa28 := ⟨Try.func28, by kernel_rfl, fun c hc => by cases hc; kernel_rfl⟩
theorem fnOK29 : FnOK Try.prog sig.pure 29 fa29 := ⟨Try.func29, by kernel_rfl, fun c hc => by cases hc; kernel_rfl⟩
theorem fnOK30 : FnOK Try.prog sig.pure 30 fa30 := ⟨Try.func30, by kernel_rfl, fun c hc => by cases hc; kernel_rfl⟩
theorem fnOK31 : FnOK Try.prog sig.pure 31 fa31 := ⟨Try.func31, by kernel_rfl, fun c hc => by cases hc; kernel_rfl⟩
theorem fnOK32 : FnOK Try.prog sig.pure 32 fa32 := ⟨Try.func32, by kernel_rfl, fun c hc => by cases hc; kernel_rfl⟩
theorem fnOK33 : FnOK Try.prog sig.pure 33 fa33 := ⟨Try.func33, by kernel_rfl, fun c hc => by cases hc; kernel_rfl⟩
theorem fnOK34 : FnOK Try.prog sig.pure 34 fa34 := ⟨Try.func34, by kernel_rfl, fun c hc => by cases hc; kernel_rfl⟩
theorem fnOK35 : FnOK Try.prog sig.pure 35 fa35 := ⟨Try.func35, by kernel_rfl, fun c hc => by cases hc; kernel_rfl⟩
theorem fnOK36 : FnOK Try.prog sig.pure 36 fa36 := ⟨Try.func36, by kernel_rfl, fun c hc => by cases hc; kernel_rfl⟩
theorem fnOK37 : FnOK Try.prog sig.pure 37 fa37 := ⟨Try.func37, by kernel_rfl, fun c hc => by cases hc; kernel_rfl⟩
theorem fnOK38 : FnOK Try.prog sig.pure 38 fa38 := ⟨Try.func38, by kernel_rfl, fun c hc => by cases hc; kernel_rfl⟩
theorem fnOK39 : FnOK Try.prog sig.pure 39 fa39 := ⟨Try.func39, by kernel_rfl, fun c hc => by cases hc; kernel_rfl⟩
theorem fnOK40 : FnOK Try.prog sig.pure 40 fa40 := ⟨Try.func40, by kernel_rfl, fun c hc => by cases hc; kernel_rfl⟩
theorem fnOK41 : FnOK Try.prog sig.pure 41 fa41 := ⟨Try.func41, by kernel_rfl, fun c hc => by cases hc; kernel_rfl⟩
theorem fnOK42 : FnOK Try.prog sig.pure 42 fa42 := ⟨Try.func42, by kernel_rfl, fun c hc => by cases hc; kernel_rfl⟩
theorem fnOK43 : FnOK Try.prog sig.pure 43 fa43 := ⟨Try.func43, by kernel_rfl, fun c hc => by cases hc; kernel_rfl⟩
theorem fnOK44 : FnOK Try.prog sig.pure 44 fa44 := ⟨Try.func44, by kernel_rfl, fun c hc => by cases hc; kernel_rfl⟩
theorem fnOK45 : FnOK Try.prog sig.pure 45 fa45 := ⟨Try.func45, by kernel_rfl, fun c hc => by cases hc; kernel_rfl⟩
theorem fnOK46 : FnOK Try.prog sig.pure 46 fa46 := ⟨Try.func46, by kernel_rfl, fun c hc => by cases hc; kernel_rfl⟩
theorem fnOK47 : FnOK Try.prog sig.pure 47 fa47 := ⟨Try.func47, by kernel_rfl, fun c hc => by cases hc; kernel_rfl⟩
theorem fnOK48 : FnOK Try.prog sig.pure 48 fa48 := ⟨Try.func48, by kernel_rfl, fun c hc => by cases hc; kernel_rfl⟩
theorem fnOK49 : FnOK Try.prog sig.pure 49 fa49 := ⟨Try.func49, by kernel_rfl, fun c hc => by cases hc; kernel_rfl⟩
theorem fnOK50 : FnOK Try.prog sig.pure 50 fa50 := ⟨Try.func50, by kernel_rfl, fun c hc => by cases hc; kernel_rfl⟩
theorem fnOK51 : FnOK Try.prog sig.pure 51 fa51 := ⟨Try.func51, by kernel_rfl, fun c hc => by cases hc; kernel_rfl⟩
theorem fnOK52 : FnOK Try.prog sig.pure 52 fa52 := ⟨Try.func52, by kernel_rfl, fun c hc => by cases hc; kernel_rfl⟩
theorem fnOK53 : FnOK Try.prog sig.pure 53 fa53 := ⟨Try.func53, by kernel_rfl, fun c hc => by cases hc; kernel_rfl⟩
theorem fnOK54 : FnOK Try.prog sig.pure 54 fa54 := ⟨Try.func54, by kernel_rfl, fun c hc => by cases hc; kernel_rfl⟩
theorem fnOK55 : FnOK Try.prog sig.pure 55 fa55 := ⟨Try.func55, by kernel_rfl, fun c hc => by cases hc; kernel_rfl⟩
theorem fnOK56 : FnOK Try.prog sig.pure 56 fa56 := ⟨Try.func56, by kernel_rfl, fun c hc => by cases hc; kernel_rfl⟩
theorem fnOK57 : FnOK Try.prog sig.pure 57 fa57 := ⟨Try.func57, by kernel_rfl, fun c hc => by cases hc; kernel_rfl⟩
theorem fnOK58 : FnOK Try.prog sig.pure 58 fa58 := ⟨Try.func58, by kernel_rfl, fun c hc => by cases hc; kernel_rfl⟩
theorem fnOK59 : FnOK Try.prog sig.pure 59 fa59 := ⟨Try.func59, by kernel_rfl, fun c hc => by cases hc; kernel_rfl⟩
theorem fnOK60 : FnOK Try.prog sig.pure 60 fa60 := ⟨Try.func60, by kernel_rfl, fun c hc => by cases hc; kernel_rfl⟩
theorem fnOK61 : FnOK Try.prog sig.pure 61 fa61 := ⟨Try.func61, by kernel_rfl, fun c hc => by cases hc; kernel_rfl⟩
theorem fnOK62 : FnOK Try.prog sig.pure 62 fa62 := ⟨Try.func62, by kernel_rfl, fun c hc => by cases hc; kernel_rfl⟩
theorem fnOK63 : FnOK Try.prog sig.pure 63 fa63 := ⟨Try.func63, by kernel_rfl, fun c hc => by cases hc; kernel_rfl⟩
theorem fnOK64 : FnOK Try.prog sig.pure 64 fa64 := ⟨Try.func64, by kernel_rfl, fun c hc => by cases hc; kernel_rfl⟩
theorem fnOK65 : FnOK Try.prog sig.pure 65 fa65 := ⟨Try.func65, by kernel_rfl, fun c hc => by cases hc; kernel_rfl⟩
theorem fnOK66 : FnOK Try.prog sig.pure 66 fa66 := ⟨Try.func66, by kernel_rfl, fun c hc => by cases hc; kernel_rfl⟩
theorem fnOK67 : FnOK Try.prog sig.pure 67 fa67 := ⟨Try.func67, by kernel_rfl, fun c hc => by cases hc; kernel_rfl⟩
theorem fnOK69 : FnOK Try.prog sig.pure 69 fa69 := ⟨Try.func69, by kernel_rfl, fun c hc => by cases hc; kernel_rfl⟩
theorem fnOK70 : FnOK Try.prog sig.pure 70 fa70 := ⟨Try.func70, by kernel_rfl, fun c hc => by cases hc; kernel_rfl⟩
theorem fnOK71 : FnOK Try.prog sig.pure 71 fa71 := ⟨Try.func71, by kernel_rfl, fun c hc => by cases hc; kernel_rfl⟩
theorem fnOK72 : FnOK Try.prog sig.pure 72 fa72 := ⟨Try.func72, by kernel_rfl, fun c hc => by cases hc; kernel_rfl⟩

theorem fns_ok : ∀ f fa, fns f = some fa → FnOK Try.prog sig.pure f fa := by
  intro f fa h
  unfold fns at h
  split at h <;> first | (cases h; done) | skip
  · cases h; exact fnOK3
  · cases h; exact fnOK4
  · cases h; exact fnOK5
  · cases h; exact fnOK6
  · cases h; exact fnOK7
  · cases h; exact fnOK8
  · cases h; exact fnOK9
  · cases h; exact fnOK10
  · cases h; exact fnOK11
  · cases h; exact fnOK12
  · cases h; exact fnOK13
  · cases h; exact fnOK14
  · cases h; exact fnOK15
  · cases h; exact fnOK16
  · cases h; exact fnOK17
  · cases h; exact fnOK18
  · cases h; exact fnOK19
  · cases h; exact fnOK20
  · cases h; exact fnOK21
  · cases h; exact fnOK22
  · cases h; exact fnOK23
  · cases h; exact fnOK24
  · cases h; exact fnOK25
  · cases h; exact fnOK26
  · cases h; exact fnOK27
  · cases h; exact fnOK28
  · cases h; exact fnOK29
  · cases h; exact fnOK30
  · cases h; exact fnOK31
  · cases h; exact fnOK32
  · cases h; exact fnOK33
  · cases h; exact fnOK34
  · cases h; exact fnOK35
  · cases h; exact fnOK36
  · cases h; exact fnOK37
  · cases h; exact fnOK38
  · cases h; exact fnOK39
  · cases h; exact fnOK40
  · cases h; exact fnOK41
  · cases h; exact fnOK42
  · cases h; exact fnOK43
  · cases h; exact fnOK44
  · cases h; exact fnOK45
  · cases h; exact fnOK46
  · cases h; exact fnOK47
  · cases h; exact fnOK48
  · cases h; exact fnOK49
  · cases h; exact fnOK50
  · cases h; exact fnOK51
  · cases h; exact fnOK52
  · cases h; exact fnOK53
  · cases h; exact fnOK54
  · cases h; exact fnOK55
  · cases h; exact fnOK56
  · cases h; exact fnOK57
  · cases h; exact fnOK58
  · cases h; exact fnOK59
  · cases h; exact fnOK60
  · cases h; exact fnOK61
  · cases h; exact fnOK62
  · cases h; exact fnOK63
  · cases h; exact fnOK64
  · cases h; exact fnOK65
  · cases h; exact fnOK66
  · cases h; exact fnOK67
  · cases h; exact fnOK69
  · cases h; exact fnOK70
  · cases h; exact fnOK71
  · cases h; exact fnOK72

theorem sig_ok : SigOK sig := ⟨by kernel_rfl, fns_ok, fun f h => by
  have h := (show (f == 19 || f == 24 || f == 34 || f == 36) = true from h)
  simp only [Bool.or_eq_true, beq_iff_eq] at h
  rcases h with (((rfl | rfl) | rfl) | rfl) <;> rfl, fun f p h => by cases h⟩
end Go.Proofs.Ytaoondlakhocnaa
