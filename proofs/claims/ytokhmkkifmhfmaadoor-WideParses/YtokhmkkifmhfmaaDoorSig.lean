/-
  The abstract machine over this seat: its table of functions, facts on its types, and that the table is sound. Written by program (seat.py).
-/
import Derived.Test.YtokhmkkifmhfmaaDoorProg
import Derived.Test.YtokhmkkifmhfmaaDoorPr
import Derived.KernelRfl
set_option linter.unusedSimpArgs false
set_option linter.unusedVariables false
namespace Go.Proofs.YtokhmkkifmhfmaaDoor
open Go Go.Am

theorem ty1 : tyOf Tryd.prog 1 = some { size := 1, bytes := 8, agg := false, k := .other, zero := some [.nilFunc] } := by kernel_rfl
theorem tk1 : tk Tryd.prog 1 = some (.other) := by kernel_rfl
theorem ty2 : tyOf Tryd.prog 2 = some { size := 1, bytes := 8, agg := false, k := .int .i64, zero := some [.int .i64 0] } := by kernel_rfl
theorem tk2 : tk Tryd.prog 2 = some (.int .i64) := by kernel_rfl
theorem ty3 : tyOf Tryd.prog 3 = some { size := 1, bytes := 8, agg := false, k := .int .i64, zero := some [.int .i64 0] } := by kernel_rfl
theorem tk3 : tk Tryd.prog 3 = some (.int .i64) := by kernel_rfl
theorem ty4 : tyOf Tryd.prog 4 = some { size := 1, bytes := 1, agg := false, k := .bool, zero := some [.bool false] } := by kernel_rfl
theorem tk4 : tk Tryd.prog 4 = some (.bool) := by kernel_rfl
theorem ty5 : tyOf Tryd.prog 5 = some { size := 1, bytes := 1, agg := false, k := .int .u8, zero := some [.int .u8 0] } := by kernel_rfl
theorem tk5 : tk Tryd.prog 5 = some (.int .u8) := by kernel_rfl
theorem ty9 : tyOf Tryd.prog 9 = some { size := 1, bytes := 16, agg := false, k := .string, zero := some [.string ⟨#[]⟩] } := by kernel_rfl
theorem tk9 : tk Tryd.prog 9 = some (.string) := by kernel_rfl
theorem ty22 : tyOf Tryd.prog 22 = some { size := 1, bytes := 8, agg := false, k := .int .u64, zero := some [.int .u64 0] } := by kernel_rfl
theorem tk22 : tk Tryd.prog 22 = some (.int .u64) := by kernel_rfl
theorem ty24 : tyOf Tryd.prog 24 = some { size := 2, bytes := 16, agg := true, k := .struct [(0, 2), (1, 22)], zero := some [.int .i64 0, .int .u64 0] } := by kernel_rfl
theorem tk24 : tk Tryd.prog 24 = some (.struct [(0, 2), (1, 22)]) := by kernel_rfl
theorem eqOk24 : eqOk Tryd.prog 24 = true := by kernel_rfl
theorem ty42 : tyOf Tryd.prog 42 = some { size := 2, bytes := 16, agg := true, k := .array 2 2, zero := some [.int .i64 0, .int .i64 0] } := by kernel_rfl
theorem tk42 : tk Tryd.prog 42 = some (.array 2 2) := by kernel_rfl
theorem eqOk42 : eqOk Tryd.prog 42 = true := by kernel_rfl
theorem ty45 : tyOf Tryd.prog 45 = some { size := 1, bytes := 8, agg := false, k := .int .i64, zero := some [.int .i64 0] } := by kernel_rfl
theorem tk45 : tk Tryd.prog 45 = some (.int .i64) := by kernel_rfl
theorem ty57 : tyOf Tryd.prog 57 = some { size := 4, bytes := 32, agg := true, k := .array 4 22, zero := some [.int .u64 0, .int .u64 0, .int .u64 0, .int .u64 0] } := by kernel_rfl
theorem tk57 : tk Tryd.prog 57 = some (.array 4 22) := by kernel_rfl
theorem eqOk57 : eqOk Tryd.prog 57 = true := by kernel_rfl
theorem ty59 : tyOf Tryd.prog 59 = some { size := 1, bytes := 8, agg := false, k := .int .u64, zero := some [.int .u64 0] } := by kernel_rfl
theorem tk59 : tk Tryd.prog 59 = some (.int .u64) := by kernel_rfl
theorem ty71 : tyOf Tryd.prog 71 = some { size := 1, bytes := 24, agg := false, k := .slice 5, zero := some [.slice none 0 0] } := by kernel_rfl
theorem tk71 : tk Tryd.prog 71 = some (.slice 5) := by kernel_rfl
theorem ty73 : tyOf Tryd.prog 73 = some { size := 1, bytes := 16, agg := false, k := .other, zero := some [.nilIface] } := by kernel_rfl
theorem tk73 : tk Tryd.prog 73 = some (.other) := by kernel_rfl
theorem ty75 : tyOf Tryd.prog 75 = some { size := 8, bytes := 64, agg := true, k := .array 8 22, zero := some [.int .u64 0, .int .u64 0, .int .u64 0, .int .u64 0, .int .u64 0, .int .u64 0, .int .u64 0, .int .u64 0] } := by kernel_rfl
theorem tk75 : tk Tryd.prog 75 = some (.array 8 22) := by kernel_rfl
theorem eqOk75 : eqOk Tryd.prog 75 = true := by kernel_rfl

noncomputable def fa3 : FnA := ⟨Tryd.f3, [0, 1, 2, 4, 5, 6, 7, 8, 9, 10, 12], []⟩
noncomputable def fa4 : FnA := ⟨Tryd.f4, [0, 1, 2, 3, 6, 7, 8, 9, 10, 12], []⟩
noncomputable def fa5 : FnA := ⟨Tryd.f5, [0, 1, 2, 3, 4, 6, 7, 8, 9, 10, 11, 12, 13, 14, 15, 16, 17, 18, 20], []⟩
noncomputable def fa6 : FnA := ⟨Tryd.f6, [0, 1, 2, 3, 4, 5, 6, 7, 8, 9, 10, 12, 37], [(6, .quiet 9), (8, .quiet 25)]⟩
noncomputable def fa7 : FnA := ⟨Tryd.f7, [0, 1, 2, 4, 5, 6, 7, 8, 9, 10, 11, 12, 13, 14, 15, 17, 26, 56, 60, 70], [(7, .led [0, 1, 2, 3] [[4]] [5, 6, 7, 8, 9, 10] [] [])]⟩
noncomputable def fa8 : FnA := ⟨Tryd.f8, [0, 1, 2, 3, 4, 5, 6, 7, 8, 9, 10, 11, 12, 13, 14, 16, 23, 36], [(9, .led [0, 1, 3, 4] [[2, 5, 6, 7, 8, 9, 10], [2, 5, 6, 7, 9, 8, 10], [2, 5, 6, 7, 9, 10, 8], [2, 5, 6, 8, 7, 9, 10], [2, 5, 6, 8, 9, 7, 10], [2, 5, 6, 9, 7, 8, 10], [2, 5, 6, 9, 7, 10, 8], [2, 5, 6, 9, 8, 7, 10], [2, 5, 9, 6, 7, 8, 10], [2, 5, 9, 6, 7, 10, 8], [2, 5, 9, 6, 8, 7, 10], [2, 9, 5, 6, 7, 8, 10], [2, 9, 5, 6, 7, 10, 8], [2, 9, 5, 6, 8, 7, 10], [9, 2, 5, 6, 7, 8, 10], [9, 2, 5, 6, 7, 10, 8], [9, 2, 5, 6, 8, 7, 10]] [11] [54, 13] [0]), (10, .led [0, 1, 2, 3, 4, 5, 6, 7, 8, 9, 10, 11, 12, 13, 14] [[15]] [16, 17, 18] [] [])]⟩
noncomputable def fa9 : FnA := ⟨Tryd.f9, [0, 1, 2, 3, 4, 5, 7], []⟩
noncomputable def fa10 : FnA := ⟨Tryd.f10, [0, 2, 3, 4, 5, 6, 8, 11], []⟩
noncomputable def fa11 : FnA := ⟨Tryd.f11, [0, 1, 2, 3, 4, 5, 6, 7, 8, 9], [(5, .led [0, 1, 2, 3, 4] [[5, 6, 7, 8, 9, 10, 11, 12, 13, 14, 15, 16, 17, 18, 19, 20, 21, 22, 23, 24, 25, 26, 27], [5, 6, 7, 8, 9, 10, 11, 12, 13, 14, 15, 16, 17, 18, 19, 20, 21, 22, 23, 24, 25, 27, 26]] [28, 29, 30, 31, 32, 33, 34] [53, 54, 55] [])]⟩
noncomputable def fa12 : FnA := ⟨Tryd.f12, [0, 1, 2, 4, 5, 6, 7, 8, 9, 10, 11, 12, 13, 14, 16, 45, 67], []⟩
noncomputable def fa13 : FnA := ⟨Tryd.f13, [0, 1, 2, 4, 5, 6, 7, 8, 9, 10, 11, 12, 14, 38, 56], []⟩
noncomputable def fa14 : FnA := ⟨Tryd.f14, [0, 1, 2, 4, 5, 6, 7, 8, 9, 10, 11, 12, 13, 14, 15, 50], []⟩
noncomputable def fa15 : FnA := ⟨Tryd.f15, [0, 1, 2, 4, 5, 6, 7, 18], []⟩
noncomputable def fa16 : FnA := ⟨Tryd.f16, [0, 1, 4, 5, 6, 7, 8, 9, 10, 11], []⟩
noncomputable def fa17 : FnA := ⟨Tryd.f17, [0, 1, 4, 5], []⟩
noncomputable def fa18 : FnA := ⟨Tryd.f18, [0, 1, 2, 3, 4, 5, 6, 7, 8, 10, 49], []⟩
noncomputable def fa19 : FnA := ⟨Tryd.f19, [0, 1, 2, 3, 4, 5, 6, 7, 8, 24, 46], []⟩
noncomputable def fa20 : FnA := ⟨Tryd.f20, [0, 1, 2, 3, 4, 5, 6, 7, 8, 10, 49], []⟩
noncomputable def fa21 : FnA := ⟨Tryd.f21, [0, 1, 2, 3, 4, 5, 6, 7, 19, 45], []⟩
noncomputable def fa22 : FnA := ⟨Tryd.f22, [0, 1, 2, 3], []⟩
noncomputable def fa23 : FnA := ⟨Tryd.f23, [0, 1, 2, 3], []⟩
noncomputable def fa24 : FnA := ⟨Tryd.f24, [0, 2], []⟩
noncomputable def fa25 : FnA := ⟨Tryd.f25, [0, 2, 3, 8], []⟩
noncomputable def fa26 : FnA := ⟨Tryd.f26, [0, 1, 2, 3, 4, 11], [(2, .led [0, 2] [[1]] [3] [] [])]⟩
noncomputable def fa27 : FnA := ⟨Tryd.f27, [0, 1, 2, 3, 4, 11], [(2, .led [0, 2] [[1]] [3] [] [])]⟩
noncomputable def fa28 : FnA := ⟨Tryd.f28, [0, 1, 2], []⟩
noncomputable def fa29 : FnA := ⟨Tryd.f29, [0, 1, 2, 3, 4, 5, 25], []⟩
noncomputable def fa30 : FnA := ⟨Tryd.f30, [0, 1, 2, 3, 4, 7, 26], []⟩
noncomputable def fa31 : FnA := ⟨Tryd.f31, [0, 1, 2], []⟩
noncomputable def fa32 : FnA := ⟨Tryd.f32, [0, 1, 2, 3, 4, 5, 6, 7, 8, 9, 17, 42], []⟩
noncomputable def fa33 : FnA := ⟨Tryd.f33, [0, 2, 3, 4, 5, 6, 7, 8, 9, 10, 11, 12, 13, 14, 15, 16, 17, 18, 30, 33, 34, 35, 45, 86, 105], []⟩
noncomputable def fa34 : FnA := ⟨Tryd.f34, [0, 1, 2, 3, 4, 5, 14, 29], []⟩
noncomputable def fa35 : FnA := ⟨Tryd.f35, [0, 2, 3, 4, 5, 6, 7, 16, 26, 35, 47, 54, 71, 84], [(14, .led2 [0, 1, 2, 3, 4, 5] [6, 7] [8, 9, 10] [[11]] [12] [] [])]⟩
noncomputable def fa36 : FnA := ⟨Tryd.f36, [0, 1, 2, 3, 4, 5, 13], [(1, .quiet 7)]⟩
noncomputable def fa37 : FnA := ⟨Tryd.f37, [0, 2, 3, 5], []⟩
noncomputable def fa38 : FnA := ⟨Tryd.f38, [0, 1, 2, 6, 7, 8, 9, 10, 11, 12, 13, 14, 15, 16, 17, 18, 20, 24, 27, 78, 85, 113, 120], [(6, .quiet 8)]⟩
noncomputable def fa40 : FnA := ⟨Tryd.f40, [0, 1, 2, 6, 7, 8, 10, 12, 27], []⟩
noncomputable def fa41 : FnA := ⟨Tryd.f41, [0, 1, 2, 3, 4, 12, 19], [(1, .quiet 7)]⟩
noncomputable def fa42 : FnA := ⟨Tryd.f42, [0, 1, 2, 4, 5, 6, 7, 8, 9, 11, 33], [(10, .quiet 9)]⟩
noncomputable def fa43 : FnA := ⟨Tryd.f43, [0, 1, 2, 3, 4, 5, 15], []⟩
noncomputable def fa44 : FnA := ⟨Tryd.f44, [0, 1, 2, 4, 5, 6, 23, 24, 35], []⟩
noncomputable def fa46 : FnA := ⟨Tryd.f46, [0, 1, 2, 3, 4, 5, 6, 7, 8, 9, 10, 12, 16], [(9, .quiet 16), (12, .led [0, 1, 2, 3, 4, 5, 6, 7, 8, 9, 10, 11, 12, 13, 14, 15, 16, 17, 18, 19, 20, 21, 22, 23, 24, 25, 26] [[27]] [28] [] [])]⟩

noncomputable def fns : FuncId → Option FnA
  | 3 => some fa3
  | 4 => some fa4
  | 5 => some fa5
  | 6 => some fa6
  | 7 => some fa7
  | 8 => some fa8
  | 9 => some fa9
  | 10 => some fa10
  | 11 => some fa11
  | 12 => some fa12
  | 13 => some fa13
  | 14 => some fa14
  | 15 => some fa15
  | 16 => some fa16
  | 17 => some fa17
  | 18 => some fa18
  | 19 => some fa19
  | 20 => some fa20
  | 21 => some fa21
  | 22 => some fa22
  | 23 => some fa23
  | 24 => some fa24
  | 25 => some fa25
  | 26 => some fa26
  | 27 => some fa27
  | 28 => some fa28
  | 29 => some fa29
  | 30 => some fa30
  | 31 => some fa31
  | 32 => some fa32
  | 33 => some fa33
  | 34 => some fa34
  | 35 => some fa35
  | 36 => some fa36
  | 37 => some fa37
  | 38 => some fa38
  | 40 => some fa40
  | 41 => some fa41
  | 42 => some fa42
  | 43 => some fa43
  | 44 => some fa44
  | 46 => some fa46
  | _ => none

noncomputable def sig : Sig := { P := Tryd.prog, fns := fns, prim := primF, own := fun f => false, fz := fun f => f == 11 }

theorem fnOK3 : FnOK Tryd.prog sig.pure 3 fa3 := ⟨Tryd.func3, by kernel_rfl, fun c hc => by cases hc; kernel_rfl⟩
theorem fnOK4 : FnOK Tryd.prog sig.pure 4 fa4 := ⟨Tryd.func4, by kernel_rfl, fun c hc => by cases hc; kernel_rfl⟩
theorem fnOK5 : FnOK Tryd.prog sig.pure 5 fa5 := ⟨Tryd.func5, by kernel_rfl, fun c hc => by cases hc; kernel_rfl⟩
theorem fnOK6 : FnOK Tryd.prog sig.pure 6 fa6 := ⟨Tryd.func6, by kernel_rfl, fun c hc => by cases hc; kernel_rfl⟩
theorem fnOK7 : FnOK Tryd.prog sig.pure 7 fa7 := ⟨Tryd.func7, by kernel_rfl, fun c hc => by cases hc; kernel_rfl⟩
theorem fnOK8 : FnOK Tryd.prog sig.pure 8 fa8 := ⟨Tryd.func8, by kernel_rfl, fun c hc => by cases hc; kernel_rfl⟩
theorem fnOK9 : FnOK Tryd.prog sig.pure 9 fa9 := ⟨Tryd.func9, by kernel_rfl, fun c hc => by cases hc; kernel_rfl⟩
theorem fnOK10 : FnOK Tryd.prog sig.pure 10 fa10 := ⟨Tryd.func10, by kernel_rfl, fun c hc => by cases hc; kernel_rfl⟩
theorem fnOK11 : FnOK Tryd.prog sig.pure 11 fa11 := ⟨Tryd.func11, by kernel_rfl, fun c hc => by cases hc; kernel_rfl⟩
theorem fnOK12 : FnOK Tryd.prog sig.pure 12 fa12 := ⟨Tryd.func12, by kernel_rfl, fun c hc => by cases hc; kernel_rfl⟩
theorem fnOK13 : FnOK Tryd.prog sig.pure 13 fa13 := ⟨Tryd.func13, by kernel_rfl, fun c hc => by cases hc; kernel_rfl⟩
theorem fnOK14 : FnOK Tryd.prog sig.pure 14 fa14 := ⟨Tryd.func14, by kernel_rfl, fun c hc => by cases hc; kernel_rfl⟩
theorem fnOK15 : FnOK Tryd.prog sig.pure 15 fa15 := ⟨Tryd.func15, by kernel_rfl, fun c hc => by cases hc; kernel_rfl⟩
theorem fnOK16 : FnOK Tryd.prog sig.pure 16 fa16 := ⟨Tryd.func16, by kernel_rfl, fun c hc => by cases hc; kernel_rfl⟩
theorem fnOK17 : FnOK Tryd.prog sig.pure 17 fa17 := ⟨Tryd.func17, by kernel_rfl, fun c hc => by cases hc; kernel_rfl⟩
theorem fnOK18 : FnOK Tryd.prog sig.pure 18 fa18 := ⟨Tryd.func18, by kernel_rfl, fun c hc => by cases hc; kernel_rfl⟩
theorem fnOK19 : FnOK Tryd.prog sig.pure 19 fa19 := ⟨Tryd.func19, by kernel_rfl, fun c hc => by cases hc; kernel_rfl⟩
theorem fnOK20 : FnOK Tryd.prog sig.pure 20 fa20 := ⟨Tryd.func20, by kernel_rfl, fun c hc => by cases hc; kernel_rfl⟩
theorem fnOK21 : FnOK Tryd.prog sig.pure 21 fa21 := ⟨Tryd.func21, by kernel_rfl, fun c hc => by cases hc; kernel_rfl⟩
theorem fnOK22 : FnOK Tryd.prog sig.pure 22 fa22 := ⟨Tryd.func22, by kernel_rfl, fun c hc => by cases hc; kernel_rfl⟩
theorem fnOK23 : FnOK Tryd.prog sig.pure 23 fa23 := ⟨Tryd.func23, by kernel_rfl, fun c hc => by cases hc; kernel_rfl⟩
theorem fnOK24 : FnOK Tryd.prog sig.pure 24 fa24 := ⟨Tryd.func24, by kernel_rfl, fun c hc => by cases hc; kernel_rfl⟩
theorem fnOK25 : FnOK Tryd.prog sig.pure 25 fa25 := ⟨Tryd.func25, by kernel_rfl, fun c hc => by cases hc; kernel_rfl⟩
theorem fnOK26 : FnOK Tryd.prog sig.pure 26 fa26 := ⟨Tryd.func26, by kernel_rfl, fun c hc => by cases hc; kernel_rfl⟩
theorem fnOK27 : FnOK Tryd.prog sig.pure 27 fa27 := ⟨Tryd.func27, by kernel_rfl, fun c hc => by cases hc; kernel_rfl⟩
theorem fnOK28 : FnOK Tryd.prog sig.pure 28 fa28 := ⟨Tryd.func28, by kernel_rfl, fun c hc => by cases hc; kernel_rfl⟩
theorem fnOK29 : FnOK Tryd.prog sig.pure 29 fa29 := ⟨Tryd.func29, by kernel_rfl, fun c hc => by cases hc; kernel_rfl⟩
theorem fnOK30 : FnOK Tryd.prog sig.pure 30 fa30 := ⟨Tryd.func30, by kernel_rfl, fun c hc => by cases hc; kernel_rfl⟩
theorem fnOK31 : FnOK Tryd.prog sig.pure 31 fa31 := ⟨Tryd.func31, by kernel_rfl, fun c hc => by cases hc; kernel_rfl⟩
theorem fnOK32 : FnOK Tryd.prog sig.pure 32 fa32 := ⟨Tryd.func32, by kernel_rfl, fun c hc => by cases hc; kernel_rfl⟩
theorem fnOK33 : FnOK Tryd.prog sig.pure 33 fa33 := ⟨Tryd.func33, by kernel_rfl, fun c hc => by cases hc; kernel_rfl⟩
theorem fnOK34 : FnOK Tryd.prog sig.pure 34 fa34 := ⟨Tryd.func34, by kernel_rfl, fun c hc => by cases hc; kernel_rfl⟩
theorem fnOK35 : FnOK Tryd.prog sig.pure 35 fa35 := ⟨Tryd.func35, by kernel_rfl, fun c hc => by cases hc; kernel_rfl⟩
theorem fnOK36 : FnOK Tryd.prog sig.pure 36 fa36 := ⟨Tryd.func36, by kernel_rfl, fun c hc => by cases hc; kernel_rfl⟩
theorem fnOK37 : FnOK Tryd.prog sig.pure 37 fa37 := ⟨Tryd.func37, by kernel_rfl, fun c hc => by cases hc; kernel_rfl⟩
theorem fnOK38 : FnOK Tryd.prog sig.pure 38 fa38 := ⟨Tryd.func38, by kernel_rfl, fun c hc => by cases hc; kernel_rfl⟩
theorem fnOK40 : FnOK Tryd.prog sig.pure 40 fa40 := ⟨Tryd.func40, by kernel_rfl, fun c hc => by cases hc; kernel_rfl⟩
theorem fnOK41 : FnOK Tryd.prog sig.pure 41 fa41 := ⟨Tryd.func41, by kernel_rfl, fun c hc => by cases hc; kernel_rfl⟩
theorem fnOK42 : FnOK Tryd.prog sig.pure 42 fa42 := ⟨Tryd.func42, by kernel_rfl, fun c hc => by cases hc; kernel_rfl⟩
theorem fnOK43 : FnOK Tryd.prog sig.pure 43 fa43 := ⟨Tryd.func43, by kernel_rfl, fun c hc => by cases hc; kernel_rfl⟩
theorem fnOK44 : FnOK Tryd.prog sig.pure 44 fa44 := ⟨Tryd.func44, by kernel_rfl, fun c hc => by cases hc; kernel_rfl⟩
theorem fnOK46 : FnOK Tryd.prog sig.pure 46 fa46 := ⟨Tryd.func46, by kernel_rfl, fun c hc => by cases hc; kernel_rfl⟩

theorem fns_ok : ∀ f fa, fns f = some fa → FnOK Tryd.prog sig.pure f fa := by
  intro f fa h
  unfold fns at h
  split at h <;> first | (cases h; done) | skip
  · cases h; exact fnOK3
  · cases h; exact fnOK4
  · cases h; exact fnOK5
  · cases h; exact fnOK6
  · cases h; exact fnOK7
  · cases h; exact fnOK8
  · cases h; exact fnOK9
  · cases h; exact fnOK10
  · cases h; exact fnOK11
  · cases h; exact fnOK12
  · cases h; exact fnOK13
  · cases h; exact fnOK14
  · cases h; exact fnOK15
  · cases h; exact fnOK16
  · cases h; exact fnOK17
  · cases h; exact fnOK18
  · cases h; exact fnOK19
  · cases h; exact fnOK20
  · cases h; exact fnOK21
  · cases h; exact fnOK22
  · cases h; exact fnOK23
  · cases h; exact fnOK24
  · cases h; exact fnOK25
  · cases h; exact fnOK26
  · cases h; exact fnOK27
  · cases h; exact fnOK28
  · cases h; exact fnOK29
  · cases h; exact fnOK30
  · cases h; exact fnOK31
  · cases h; exact fnOK32
  · cases h; exact fnOK33
  · cases h; exact fnOK34
  · cases h; exact fnOK35
  · cases h; exact fnOK36
  · cases h; exact fnOK37
  · cases h; exact fnOK38
  · cases h; exact fnOK40
  · cases h; exact fnOK41
  · cases h; exact fnOK42
  · cases h; exact fnOK43
  · cases h; exact fnOK44
  · cases h; exact fnOK46

theorem prim_own : ∀ f p, primF f = some p → sig.own f = false := by
  intro f p h
  unfold primF at h
  split at h <;> first | rfl | cases h
theorem sig_ok : SigOK sig := ⟨by kernel_rfl, fns_ok, fun f h => by
  have h := (show (f == 11) = true from h)
  simp only [Bool.or_eq_true, beq_iff_eq] at h
  rcases h with rfl <;> rfl, fun f p h => ⟨prim_own f p h, prim_ok f p h⟩⟩
end Go.Proofs.YtokhmkkifmhfmaaDoor
