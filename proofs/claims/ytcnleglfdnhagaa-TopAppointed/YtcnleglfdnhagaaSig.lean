/-
  The abstract machine over this seat: its table of functions, facts on its types, and that the table is sound. Written by program (seat.py).
-/
import Derived.Test.YtcnleglfdnhagaaProg
import Derived.Test.YtcnleglfdnhagaaAmY
import Derived.KernelRfl
set_option linter.unusedSimpArgs false
set_option linter.unusedVariables false
namespace Go.Proofs.Ytcnleglfdnhagaa
open Go Go.Am
instance dnF : Dn := ⟨False⟩

theorem ty1 : tyOf Try.prog 1 = some { size := 1, bytes := 8, agg := false, k := .other, zero := some [.nilFunc] } := by kernel_rfl
theorem tk1 : tk Try.prog 1 = some (.other) := by kernel_rfl
theorem ty2 : tyOf Try.prog 2 = some { size := 1, bytes := 8, agg := false, k := .int .i64, zero := some [.int .i64 0] } := by kernel_rfl
theorem tk2 : tk Try.prog 2 = some (.int .i64) := by kernel_rfl
theorem ty3 : tyOf Try.prog 3 = some { size := 1, bytes := 8, agg := false, k := .int .i64, zero := some [.int .i64 0] } := by kernel_rfl
theorem tk3 : tk Try.prog 3 = some (.int .i64) := by kernel_rfl
theorem ty4 : tyOf Try.prog 4 = some { size := 1, bytes := 1, agg := false, k := .bool, zero := some [.bool false] } := by kernel_rfl
theorem tk4 : tk Try.prog 4 = some (.bool) := by kernel_rfl
theorem ty5 : tyOf Try.prog 5 = some { size := 1, bytes := 1, agg := false, k := .int .u8, zero := some [.int .u8 0] } := by kernel_rfl
theorem tk5 : tk Try.prog 5 = some (.int .u8) := by kernel_rfl
theorem ty9 : tyOf Try.prog 9 = some { size := 1, bytes := 16, agg := false, k := .string, zero := some [.string ⟨#[]⟩] } := by kernel_rfl
theorem tk9 : tk Try.prog 9 = some (.string) := by kernel_rfl
theorem ty22 : tyOf Try.prog 22 = some { size := 1, bytes := 24, agg := false, k := .slice 32, zero := some [.slice none 0 0] } := by kernel_rfl
theorem tk22 : tk Try.prog 22 = some (.slice 32) := by kernel_rfl
theorem ty23 : tyOf Try.prog 23 = some { size := 1, bytes := 24, agg := false, k := .slice 35, zero := some [.slice none 0 0] } := by kernel_rfl
theorem tk23 : tk Try.prog 23 = some (.slice 35) := by kernel_rfl
theorem ty25 : tyOf Try.prog 25 = some { size := 1, bytes := 24, agg := false, k := .slice 3, zero := some [.slice none 0 0] } := by kernel_rfl
theorem tk25 : tk Try.prog 25 = some (.slice 3) := by kernel_rfl
theorem ty26 : tyOf Try.prog 26 = some { size := 1, bytes := 8, agg := false, k := .int .i64, zero := some [.int .i64 0] } := by kernel_rfl
theorem tk26 : tk Try.prog 26 = some (.int .i64) := by kernel_rfl
theorem ty32 : tyOf Try.prog 32 = some { size := 4, bytes := 48, agg := true, k := .struct [(0, 3), (1, 2), (2, 9), (3, 9)], zero := some [.int .i64 0, .int .i64 0, .string ⟨#[]⟩, .string ⟨#[]⟩] } := by kernel_rfl
theorem tk32 : tk Try.prog 32 = some (.struct [(0, 3), (1, 2), (2, 9), (3, 9)]) := by kernel_rfl
theorem eqOk32 : eqOk Try.prog 32 = true := by kernel_rfl
theorem ty33 : tyOf Try.prog 33 = some { size := 1, bytes := 24, agg := false, k := .slice 2, zero := some [.slice none 0 0] } := by kernel_rfl
theorem tk33 : tk Try.prog 33 = some (.slice 2) := by kernel_rfl
theorem ty35 : tyOf Try.prog 35 = some { size := 3, bytes := 56, agg := true, k := .struct [(0, 9), (1, 9), (2, 33)], zero := some [.string ⟨#[]⟩, .string ⟨#[]⟩, .slice none 0 0] } := by kernel_rfl
theorem tk35 : tk Try.prog 35 = some (.struct [(0, 9), (1, 9), (2, 33)]) := by kernel_rfl
theorem eqOk35 : eqOk Try.prog 35 = true := by kernel_rfl
theorem ty44 : tyOf Try.prog 44 = some { size := 1, bytes := 8, agg := false, k := .other, zero := some [.pointer none] } := by kernel_rfl
theorem tk44 : tk Try.prog 44 = some (.other) := by kernel_rfl
theorem ty49 : tyOf Try.prog 49 = some { size := 2, bytes := 16, agg := true, k := .array 2 3, zero := some [.int .i64 0, .int .i64 0] } := by kernel_rfl
theorem tk49 : tk Try.prog 49 = some (.array 2 3) := by kernel_rfl
theorem eqOk49 : eqOk Try.prog 49 = true := by kernel_rfl
theorem ty59 : tyOf Try.prog 59 = some { size := 1, bytes := 24, agg := false, k := .slice 62, zero := some [.slice none 0 0] } := by kernel_rfl
theorem tk59 : tk Try.prog 59 = some (.slice 62) := by kernel_rfl
theorem ty61 : tyOf Try.prog 61 = some { size := 3, bytes := 72, agg := true, k := .struct [(0, 59), (1, 25), (2, 25)], zero := some [.slice none 0 0, .slice none 0 0, .slice none 0 0] } := by kernel_rfl
theorem tk61 : tk Try.prog 61 = some (.struct [(0, 59), (1, 25), (2, 25)]) := by kernel_rfl
theorem eqOk61 : eqOk Try.prog 61 = true := by kernel_rfl
theorem ty62 : tyOf Try.prog 62 = some { size := 1, bytes := 24, agg := false, k := .slice 4, zero := some [.slice none 0 0] } := by kernel_rfl
theorem tk62 : tk Try.prog 62 = some (.slice 4) := by kernel_rfl
theorem ty83 : tyOf Try.prog 83 = some { size := 1, bytes := 24, agg := false, k := .slice 5, zero := some [.slice none 0 0] } := by kernel_rfl
theorem tk83 : tk Try.prog 83 = some (.slice 5) := by kernel_rfl

noncomputable def fa5 : FnA := ⟨Try.f5, [0, 1, 4], []⟩
noncomputable def fa8 : FnA := ⟨Try.f8, [0, 1, 4], []⟩
noncomputable def fa9 : FnA := ⟨Try.f9, [0, 1, 4, 5, 13, 17], []⟩
noncomputable def fa11 : FnA := ⟨Try.f11, [0, 1, 4, 5, 7, 8, 9, 10, 11, 17, 18, 19, 20, 26, 27, 28, 29, 61, 62, 63], []⟩
noncomputable def fa12 : FnA := ⟨Try.f12, [0, 2, 3, 4, 5, 9, 10, 11, 12, 16, 17, 18, 28], []⟩
noncomputable def fa13 : FnA := ⟨Try.f13, [0, 1, 4, 5, 6, 8, 9, 10, 11, 12, 13, 14, 23, 24, 25, 26, 35, 47, 48, 49, 50, 72, 82, 83, 84, 89], []⟩
noncomputable def fa14 : FnA := ⟨Try.f14, [0, 1, 4, 5, 6, 7, 8, 9, 10, 11, 12, 22, 45, 52, 53, 54, 69], []⟩
noncomputable def fa15 : FnA := ⟨Try.f15, [0, 1, 4, 5, 7, 8, 9, 16], []⟩
noncomputable def fa17 : FnA := ⟨Try.f17, [0, 1, 4, 5, 7, 8, 9, 16], []⟩
noncomputable def fa18 : FnA := ⟨Try.f18, [0, 2, 3, 4, 5, 6, 7, 8, 12, 27, 38, 44], [(10, .quiet 14)]⟩
noncomputable def fa19 : FnA := ⟨Try.f19, [0, 2, 3, 4, 5, 6, 7, 8, 9, 10, 14, 30, 44, 50, 51, 52, 53, 57, 61], [(6, .quiet 14)]⟩
noncomputable def fa22 : FnA := ⟨Try.f22, [0, 1, 2, 3, 4], []⟩
noncomputable def fa23 : FnA := ⟨Try.f23, [0, 1, 2, 6, 7, 8, 15, 16, 17, 18, 39, 62], []⟩
noncomputable def fa24 : FnA := ⟨Try.f24, [0, 2, 4], []⟩
noncomputable def fa25 : FnA := ⟨Try.f25, [0, 2, 3, 5, 21, 22, 23, 24], [(1, .led [0, 1, 2, 3, 5, 6, 7, 8] [[4]] [9, 10, 11, 12] [] []), (5, .led [0, 1, 2, 3, 4, 5] [[6, 7, 8]] [9, 10, 11] [] [])]⟩
noncomputable def fa26 : FnA := ⟨Try.f26, [0, 1, 2], []⟩
noncomputable def fa27 : FnA := ⟨Try.f27, [0, 2], []⟩
noncomputable def fa28 : FnA := ⟨Try.f28, [0, 2, 3, 4, 5, 7, 8, 9, 10, 41], []⟩
noncomputable def fa40 : FnA := ⟨Try.f40, [0, 2, 4], []⟩

noncomputable def fns : FuncId → Option FnA
  | 5 => some fa5
  | 8 => some fa8
  | 9 => some fa9
  | 11 => some fa11
  | 12 => some fa12
  | 13 => some fa13
  | 14 => some fa14
  | 15 => some fa15
  | 17 => some fa17
  | 18 => some fa18
  | 19 => some fa19
  | 22 => some fa22
  | 23 => some fa23
  | 24 => some fa24
  | 25 => some fa25
  | 26 => some fa26
  | 27 => some fa27
  | 28 => some fa28
  | 40 => some fa40
  | _ => none

noncomputable def sig : Sig := { P := Try.prog, fns := fns, prim := fun _ => none, own := fun f => f == 11 || f == 12 || f == 13 || f == 14 || f == 23 || f == 24 || f == 25 || f == 26 || f == 40, fz := fun f => false }

theorem fnOK5 : FnOK Try.prog sig.pure 5 fa5 := ⟨Try.func5, by kernel_rfl, fun c hc => by cases hc; kernel_rfl⟩
theorem fnOK8 : FnOK Try.prog sig.pure 8 fa8 := ⟨Try.func8, by kernel_rfl, fun c hc => by cases hc; kernel_rfl⟩
theorem fnOK9 : FnOK Try.prog sig.pure 9 fa9 := ⟨Try.func9, by kernel_rfl, fun c hc => by cases hc; kernel_rfl⟩
theorem fnOK11 : FnOK Try.prog sig.pure 11 fa11 := ⟨Try.func11, by kernel_rfl, fun c hc => by cases hc; kernel_rfl⟩
theorem fnOK12 : FnOK Try.prog sig.pure 12 fa12 := ⟨Try.func12, by kernel_rfl, fun c hc => by cases hc; kernel_rfl⟩
theorem fnOK13 : FnOK Try.prog sig.pure 13 fa13 := ⟨Try.func13, by kernel_rfl, fun c hc => by cases hc; kernel_rfl⟩
theorem fnOK14 : FnOK Try.prog sig.pure 14 fa14 := ⟨Try.func14, by kernel_rfl, fun c hc => by cases hc; kernel_rfl⟩
theorem fnOK15 : FnOK Try.prog sig.pure 15 fa15 := ⟨Try.func15, by kernel_rfl, fun c hc => by cases hc; kernel_rfl⟩
theorem fnOK17 : FnOK Try.prog sig.pure 17 fa17 := ⟨Try.func17, by kernel_rfl, fun c hc => by cases hc; kernel_rfl⟩
theorem fnOK18 : FnOK Try.prog sig.pure 18 fa18 := ⟨Try.func18, by kernel_rfl, fun c hc => by cases hc; kernel_rfl⟩
theorem fnOK19 : FnOK Try.prog sig.pure 19 fa19 := ⟨Try.func19, by kernel_rfl, fun c hc => by cases hc; kernel_rfl⟩
theorem fnOK22 : FnOK Try.prog sig.pure 22 fa22 := ⟨Try.func22, by kernel_rfl, fun c hc => by cases hc; kernel_rfl⟩
theorem fnOK23 : FnOK Try.prog sig.pure 23 fa23 := ⟨Try.func23, by kernel_rfl, fun c hc => by cases hc; kernel_rfl⟩
theorem fnOK24 : FnOK Try.prog sig.pure 24 fa24 := ⟨Try.func24, by kernel_rfl, fun c hc => by cases hc; kernel_rfl⟩
theorem fnOK25 : FnOK Try.prog sig.pure 25 fa25 := ⟨Try.func25, by kernel_rfl, fun c hc => by cases hc; kernel_rfl⟩
theorem fnOK26 : FnOK Try.prog sig.pure 26 fa26 := ⟨Try.func26, by kernel_rfl, fun c hc => by cases hc; kernel_rfl⟩
theorem fnOK27 : FnOK Try.prog sig.pure 27 fa27 := ⟨Try.func27, by kernel_rfl, fun c hc => by cases hc; kernel_rfl⟩
theorem fnOK28 : FnOK Try.prog sig.pure 28 fa28 := ⟨Try.func28, by kernel_rfl, fun c hc => by cases hc; kernel_rfl⟩
theorem fnOK40 : FnOK Try.prog sig.pure 40 fa40 := ⟨Try.func40, by kernel_rfl, fun c hc => by cases hc; kernel_rfl⟩

theorem fns_ok : ∀ f fa, fns f = some fa → FnOK Try.prog sig.pure f fa := by
  intro f fa h
  unfold fns at h
  split at h <;> first | (cases h; done) | skip
  · cases h; exact fnOK5
  · cases h; exact fnOK8
  · cases h; exact fnOK9
  · cases h; exact fnOK11
  · cases h; exact fnOK12
  · cases h; exact fnOK13
  · cases h; exact fnOK14
  · cases h; exact fnOK15
  · cases h; exact fnOK17
  · cases h; exact fnOK18
  · cases h; exact fnOK19
  · cases h; exact fnOK22
  · cases h; exact fnOK23
  · cases h; exact fnOK24
  · cases h; exact fnOK25
  · cases h; exact fnOK26
  · cases h; exact fnOK27
  · cases h; exact fnOK28
  · cases h; exact fnOK40

theorem sig_ok : SigOK sig := ⟨by kernel_rfl, fns_ok, fun f h => (by simp [sig] at h), fun f p h => (by cases h), fun f p h => (by cases h)⟩
end Go.Proofs.Ytcnleglfdnhagaa
