/-
  The abstract machine over this seat: its table of functions, facts on its types, and that the table is sound. Written by program (seat.py).
-/
import Derived.Test.YtdkhgpdojjdadaaProg
import Derived.Test.YtdkhgpdojjdadaaAmY
import Derived.KernelRfl
namespace Go.Proofs.Ytdkhgpdojjdadaa
open Go Go.Am

theorem ty1 : tyOf Try.prog 1 = some { size := 1, bytes := 8, agg := false, k := .other, zero := some [.nilFunc] } := by kernel_rfl
theorem tk1 : tk Try.prog 1 = some (.other) := by kernel_rfl
theorem ty2 : tyOf Try.prog 2 = some { size := 1, bytes := 8, agg := false, k := .int .i64, zero := some [.int .i64 0] } := by kernel_rfl
theorem tk2 : tk Try.prog 2 = some (.int .i64) := by kernel_rfl
theorem ty3 : tyOf Try.prog 3 = some { size := 1, bytes := 8, agg := false, k := .int .i64, zero := some [.int .i64 0] } := by kernel_rfl
theorem tk3 : tk Try.prog 3 = some (.int .i64) := by kernel_rfl
theorem ty4 : tyOf Try.prog 4 = some { size := 1, bytes := 1, agg := false, k := .bool, zero := some [.bool false] } := by kernel_rfl
theorem tk4 : tk Try.prog 4 = some (.bool) := by kernel_rfl
theorem ty22 : tyOf Try.prog 22 = some { size := 1, bytes := 24, agg := false, k := .slice 37, zero := some [.slice none 0 0] } := by kernel_rfl
theorem tk22 : tk Try.prog 22 = some (.slice 37) := by kernel_rfl
theorem ty24 : tyOf Try.prog 24 = some { size := 1, bytes := 24, agg := true, k := .struct [(0, 22)], zero := some [.slice none 0 0] } := by kernel_rfl
theorem tk24 : tk Try.prog 24 = some (.struct [(0, 22)]) := by kernel_rfl
theorem eqOk24 : eqOk Try.prog 24 = true := by kernel_rfl
theorem ty27 : tyOf Try.prog 27 = some { size := 1, bytes := 8, agg := false, k := .int .i64, zero := some [.int .i64 0] } := by kernel_rfl
theorem tk27 : tk Try.prog 27 = some (.int .i64) := by kernel_rfl
theorem ty37 : tyOf Try.prog 37 = some { size := 1, bytes := 24, agg := false, k := .slice 2, zero := some [.slice none 0 0] } := by kernel_rfl
theorem tk37 : tk Try.prog 37 = some (.slice 2) := by kernel_rfl
theorem ty38 : tyOf Try.prog 38 = some { size := 1, bytes := 24, agg := false, k := .slice 24, zero := some [.slice none 0 0] } := by kernel_rfl
theorem tk38 : tk Try.prog 38 = some (.slice 24) := by kernel_rfl

noncomputable def fa3 : FnA := ⟨Try.f3, [0, 1, 2, 3, 4, 5, 6, 8, 12], []⟩
noncomputable def fa4 : FnA := ⟨Try.f4, [0, 1, 2, 3, 4, 5, 6, 8, 12, 30, 32], []⟩
noncomputable def fa5 : FnA := ⟨Try.f5, [0, 1, 2, 3, 4, 5, 6, 7, 8, 10, 12, 17, 42, 44], []⟩
noncomputable def fa6 : FnA := ⟨Try.f6, [0, 1, 2, 3, 4, 5, 6, 7, 8, 9, 10, 12, 17, 25], []⟩
noncomputable def fa7 : FnA := ⟨Try.f7, [0, 1, 2, 3, 4, 5, 6, 7, 8, 9, 10, 11, 12, 14, 19], [(9, 28)]⟩
noncomputable def fa8 : FnA := ⟨Try.f8, [0, 1, 2, 3, 4, 5, 6, 8, 13, 20, 33], []⟩
noncomputable def fa9 : FnA := ⟨Try.f9, [0, 1, 2, 3, 4, 5, 6, 8, 23], []⟩
noncomputable def fa10 : FnA := ⟨Try.f10, [0, 1, 2], []⟩
noncomputable def fa11 : FnA := ⟨Try.f11, [0, 2, 4, 6, 7, 8, 9, 10, 16, 18, 19, 20, 21, 26], []⟩
noncomputable def fa12 : FnA := ⟨Try.f12, [0, 1, 2, 3, 4, 5, 6, 7, 8, 9, 13, 20, 22, 23, 24, 37], []⟩
noncomputable def fa13 : FnA := ⟨Try.f13, [0, 1, 2, 3, 4, 5, 9, 15], []⟩
noncomputable def fa14 : FnA := ⟨Try.f14, [0, 1, 2, 3, 4, 5, 6, 7, 8, 15, 17, 18, 19, 20, 32, 33, 34, 35, 36, 49], []⟩
noncomputable def fa15 : FnA := ⟨Try.f15, [0, 1, 2, 3, 4, 5, 6, 7, 8, 9, 10, 11, 15, 20, 23, 24, 25, 26, 30, 31, 32, 33, 67, 74, 81, 82, 83, 84, 118], [(23, 31)]⟩
noncomputable def fa16 : FnA := ⟨Try.f16, [0, 1, 4, 5, 6, 7, 8, 9, 10, 15, 20, 21, 22, 23, 28, 29, 30, 43], [(13, 16)]⟩
noncomputable def fa17 : FnA := ⟨Try.f17, [0, 1, 4, 5, 6, 7, 8, 9, 10, 15, 19, 20, 21, 30, 31, 32, 45], [(13, 19)]⟩
noncomputable def fa18 : FnA := ⟨Try.f18, [0, 1, 2, 3, 4, 5, 6, 7, 8, 9, 10, 11, 15, 21, 27, 32, 33, 34, 35, 40, 41, 42], [(16, 16)]⟩
noncomputable def fa19 : FnA := ⟨Try.f19, [0, 1, 2, 3, 4, 5, 6, 7, 8, 12, 14, 15, 16, 17, 21, 22, 23, 24, 37], []⟩
noncomputable def fa20 : FnA := ⟨Try.f20, [0, 1, 2, 3, 4, 5, 6, 7, 8, 9, 10, 11, 12, 16, 22, 28, 33, 34, 35, 36, 40, 41, 42, 43], [(16, 17)]⟩
noncomputable def fa21 : FnA := ⟨Try.f21, [0, 1, 2, 3, 4, 5, 6, 7, 8, 9, 10, 11, 12, 16, 18, 19, 20, 21, 25, 26, 27, 28, 43], []⟩
noncomputable def fa22 : FnA := ⟨Try.f22, [0, 1, 2, 3, 4, 5, 6, 7, 8, 9, 10, 11, 12, 16, 18, 19, 20, 21, 25, 26, 27, 28, 54], [(10, 22)]⟩
noncomputable def fa23 : FnA := ⟨Try.f23, [0, 1, 2, 3, 4, 5, 6, 7, 8, 12, 14, 15, 16, 17, 21, 22, 23, 24, 37], []⟩
noncomputable def fa24 : FnA := ⟨Try.f24, [0, 1, 2, 3, 5, 9, 14, 15, 16, 17, 21, 33], []⟩
noncomputable def fa25 : FnA := ⟨Try.f25, [0, 2, 3, 5, 6, 7, 8, 9], []⟩
noncomputable def fa26 : FnA := ⟨Try.f26, [0, 1, 3, 4, 5, 6, 14, 29], []⟩
noncomputable def fa27 : FnA := ⟨Try.f27, [0, 1, 2, 6, 7, 22, 34, 53], [(7, 22)]⟩
noncomputable def fa28 : FnA := ⟨Try.f28, [0, 1, 2, 3, 5, 9, 14, 15, 16, 17, 21, 33], []⟩
noncomputable def fa29 : FnA := ⟨Try.f29, [0, 1, 2, 3, 5, 7, 8, 9, 10], []⟩
noncomputable def fa30 : FnA := ⟨Try.f30, [0, 1, 2, 3, 4, 5, 6, 7, 14, 22, 23, 24, 52, 66, 99], [(9, 19), (13, 24)]⟩
noncomputable def fa31 : FnA := ⟨Try.f31, [0, 1, 2, 4, 6, 8, 9, 22, 36, 37, 38, 39, 49, 52, 53, 54, 55, 58, 59, 60, 61, 69], []⟩
noncomputable def fa32 : FnA := ⟨Try.f32, [0, 1, 2, 4, 8, 9, 10, 11, 15, 27], []⟩
noncomputable def fa33 : FnA := ⟨Try.f33, [0, 1, 4, 5, 6, 7, 8, 19, 30, 37, 38, 39, 62, 65, 66, 67, 73, 74, 75, 94], [(10, 22)]⟩
noncomputable def fa34 : FnA := ⟨Try.f34, [0, 1, 4, 5, 6, 7, 17, 27, 32, 34, 35, 36, 59, 62, 63, 64, 70, 71, 72, 91], [(10, 22)]⟩
noncomputable def fa35 : FnA := ⟨Try.f35, [0, 1, 2, 3, 4], [(1, 23)]⟩
noncomputable def fa36 : FnA := ⟨Try.f36, [0, 1, 2, 4, 6, 8, 20, 32, 34, 35, 36, 37, 47, 50, 51, 52, 53, 56, 57, 58, 59, 67], []⟩
noncomputable def fa37 : FnA := ⟨Try.f37, [0, 1, 2, 3, 4], [(1, 23)]⟩
noncomputable def fa38 : FnA := ⟨Try.f38, [0, 1, 2], []⟩
noncomputable def fa39 : FnA := ⟨Try.f39, [0, 1, 2, 6], []⟩
noncomputable def fa40 : FnA := ⟨Try.f40, [0, 1, 2], []⟩
noncomputable def fa41 : FnA := ⟨Try.f41, [0, 1, 2, 6], []⟩

noncomputable def fns : FuncId → Option FnA
  | 3 => some fa3
  | 4 => some fa4
  | 5 => some fa5
  | 6 => some fa6
  | 7 => some fa7
  | 8 => some fa8
  | 9 => some fa9
  | 10 => some fa10
  | 11 => some fa11
  | 12 => some fa12
  | 13 => some fa13
  | 14 => some fa14
  | 15 => some fa15
  | 16 => some fa16
  | 17 => some fa17
  | 18 => some fa18
  | 19 => some fa19
  | 20 => some fa20
  | 21 => some fa21
  | 22 => some fa22
  | 23 => some fa23
  | 24 => some fa24
  | 25 => some fa25
  | 26 => some fa26
  | 27 => some fa27
  | 28 => some fa28
  | 29 => some fa29
  | 30 => some fa30
  | 31 => some fa31
  | 32 => some fa32
  | 33 => some fa33
  | 34 => some fa34
  | 35 => some fa35
  | 36 => some fa36
  | 37 => some fa37
  | 38 => some fa38
  | 39 => some fa39
  | 40 => some fa40
  | 41 => some fa41
  | _ => none

noncomputable def sig : Sig := { P := Try.prog, fns := fns, prim := fun _ => none, own := fun f => f == 25 || f == 26 || f == 29 || f == 30 }

theorem fnOK3 : FnOK Try.prog 3 fa3 := ⟨Try.func3, by kernel_rfl, fun c hc => by cases hc; kernel_rfl⟩
theorem fnOK4 : FnOK Try.prog 4 fa4 := ⟨Try.func4, by kernel_rfl, fun c hc => by cases hc; kernel_rfl⟩
theorem fnOK5 : FnOK Try.prog 5 fa5 := ⟨Try.func5, by kernel_rfl, fun c hc => by cases hc; kernel_rfl⟩
theorem fnOK6 : FnOK Try.prog 6 fa6 := ⟨Try.func6, by kernel_rfl, fun c hc => by cases hc; kernel_rfl⟩
theorem fnOK7 : FnOK Try.prog 7 fa7 := ⟨Try.func7, by kernel_rfl, fun c hc => by cases hc; kernel_rfl⟩
theorem fnOK8 : FnOK Try.prog 8 fa8 := ⟨Try.func8, by kernel_rfl, fun c hc => by cases hc; kernel_rfl⟩
theorem fnOK9 : FnOK Try.prog 9 fa9 := ⟨Try.func9, by kernel_rfl, fun c hc => by cases hc; kernel_rfl⟩
theorem fnOK10 : FnOK Try.prog 10 fa10 := ⟨Try.func10, by kernel_rfl, fun c hc => by cases hc; kernel_rfl⟩
theorem fnOK11 : FnOK Try.prog 11 fa11 := ⟨Try.func11, by kernel_rfl, fun c hc => by cases hc; kernel_rfl⟩
theorem fnOK12 : FnOK Try.prog 12 fa12 := ⟨Try.func12, by kernel_rfl, fun c hc => by cases hc; kernel_rfl⟩
theorem fnOK13 : FnOK Try.prog 13 fa13 := ⟨Try.func13, by kernel_rfl, fun c hc => by cases hc; kernel_rfl⟩
theorem fnOK14 : FnOK Try.prog 14 fa14 := ⟨Try.func14, by kernel_rfl, fun c hc => by cases hc; kernel_rfl⟩
theorem fnOK15 : FnOK Try.prog 15 fa15 := ⟨Try.func15, by kernel_rfl, fun c hc => by cases hc; kernel_rfl⟩
theorem fnOK16 : FnOK Try.prog 16 fa16 := ⟨Try.func16, by kernel_rfl, fun c hc => by cases hc; kernel_rfl⟩
theorem fnOK17 : FnOK Try.prog 17 fa17 := ⟨Try.func17, by kernel_rfl, fun c hc => by cases hc; kernel_rfl⟩
theorem fnOK18 : FnOK Try.prog 18 fa18 := ⟨Try.func18, by kernel_rfl, fun c hc => by cases hc; kernel_rfl⟩
theorem fnOK19 : FnOK Try.prog 19 fa19 := ⟨Try.func19, by kernel_rfl, fun c hc => by cases hc; kernel_rfl⟩
theorem fnOK20 : FnOK Try.prog 20 fa20 := ⟨Try.func20, by kernel_rfl, fun c hc => by cases hc; kernel_rfl⟩
theorem fnOK21 : FnOK Try.prog 21 fa21 := ⟨Try.func21, by kernel_rfl, fun c hc => by cases hc; kernel_rfl⟩
theorem fnOK22 : FnOK Try.prog 22 fa22 := ⟨Try.func22, by kernel_rfl, fun c hc => by cases hc; kernel_rfl⟩
theorem fnOK23 : FnOK Try.prog 23 fa23 := ⟨Try.func23, by kernel_rfl, fun c hc => by cases hc; kernel_rfl⟩
theorem fnOK24 : FnOK Try.prog 24 fa24 := ⟨Try.func24, by kernel_rfl, fun c hc => by cases hc; kernel_rfl⟩
theorem fnOK25 : FnOK Try.prog 25 fa25 := ⟨Try.func25, by kernel_rfl, fun c hc => by cases hc; kernel_rfl⟩
theorem fnOK26 : FnOK Try.prog 26 fa26 := ⟨Try.func26, by kernel_rfl, fun c hc => by cases hc; kernel_rfl⟩
theorem fnOK27 : FnOK Try.prog 27 fa27 := ⟨Try.func27, by kernel_rfl, fun c hc => by cases hc; kernel_rfl⟩
theorem fnOK28 : FnOK Try.prog 28 fa28 := ⟨Try.func28, by kernel_rfl, fun c hc => by cases hc; kernel_rfl⟩
theorem fnOK29 : FnOK Try.prog 29 fa29 := ⟨Try.func29, by kernel_rfl, fun c hc => by cases hc; kernel_rfl⟩
theorem fnOK30 : FnOK Try.prog 30 fa30 := ⟨Try.func30, by kernel_rfl, fun c hc => by cases hc; kernel_rfl⟩
theorem fnOK31 : FnOK Try.prog 31 fa31 := ⟨Try.func31, by kernel_rfl, fun c hc => by cases hc; kernel_rfl⟩
theorem fnOK32 : FnOK Try.prog 32 fa32 := ⟨Try.func32, by kernel_rfl, fun c hc => by cases hc; kernel_rfl⟩
theorem fnOK33 : FnOK Try.prog 33 fa33 := ⟨Try.func33, by kernel_rfl, fun c hc => by cases hc; kernel_rfl⟩
theorem fnOK34 : FnOK Try.prog 34 fa34 := ⟨Try.func34, by kernel_rfl, fun c hc => by cases hc; kernel_rfl⟩
theorem fnOK35 : FnOK Try.prog 35 fa35 := ⟨Try.func35, by kernel_rfl, fun c hc => by cases hc; kernel_rfl⟩
theorem fnOK36 : FnOK Try.prog 36 fa36 := ⟨Try.func36, by kernel_rfl, fun c hc => by cases hc; kernel_rfl⟩
theorem fnOK37 : FnOK Try.prog 37 fa37 := ⟨Try.func37, by kernel_rfl, fun c hc => by cases hc; kernel_rfl⟩
theorem fnOK38 : FnOK Try.prog 38 fa38 := ⟨Try.func38, by kernel_rfl, fun c hc => by cases hc; kernel_rfl⟩
theorem fnOK39 : FnOK Try.prog 39 fa39 := ⟨Try.func39, by kernel_rfl, fun c hc => by cases hc; kernel_rfl⟩
theorem fnOK40 : FnOK Try.prog 40 fa40 := ⟨Try.func40, by kernel_rfl, fun c hc => by cases hc; kernel_rfl⟩
theorem fnOK41 : FnOK Try.prog 41 fa41 := ⟨Try.func41, by kernel_rfl, fun c hc => by cases hc; kernel_rfl⟩

theorem fns_ok : ∀ f fa, fns f = some fa → FnOK Try.prog f fa := by
  intro f fa h
  unfold fns at h
  split at h <;> first | (cases h; done) | skip
  · cases h; exact fnOK3
  · cases h; exact fnOK4
  · cases h; exact fnOK5
  · cases h; exact fnOK6
  · cases h; exact fnOK7
  · cases h; exact fnOK8
  · cases h; exact fnOK9
  · cases h; exact fnOK10
  · cases h; exact fnOK11
  · cases h; exact fnOK12
  · cases h; exact fnOK13
  · cases h; exact fnOK14
  · cases h; exact fnOK15
  · cases h; exact fnOK16
  · cases h; exact fnOK17
  · cases h; exact fnOK18
  · cases h; exact fnOK19
  · cases h; exact fnOK20
  · cases h; exact fnOK21
  · cases h; exact fnOK22
  · cases h; exact fnOK23
  · cases h; exact fnOK24
  · cases h; exact fnOK25
  · cases h; exact fnOK26
  · cases h; exact fnOK27
  · cases h; exact fnOK28
  · cases h; exact fnOK29
  · cases h; exact fnOK30
  · cases h; exact fnOK31
  · cases h; exact fnOK32
  · cases h; exact fnOK33
  · cases h; exact fnOK34
  · cases h; exact fnOK35
  · cases h; exact fnOK36
  · cases h; exact fnOK37
  · cases h; exact fnOK38
  · cases h; exact fnOK39
  · cases h; exact fnOK40
  · cases h; exact fnOK41

theorem sig_ok : SigOK sig := ⟨by kernel_rfl, fns_ok, fun f p h => by cases h⟩
end Go.Proofs.Ytdkhgpdojjdadaa
