/-
  The abstract machine over this seat: its table of functions, facts on its types, and that the table is sound. Written by program (seat.py).
-/
import Derived.Test.YtmkalakojfpfgaaProg
import Derived.Test.YtmkalakojfpfgaaAmY
import Derived.KernelRfl
namespace Go.Proofs.Ytmkalakojfpfgaa
open Go Go.Am

theorem ty1 : tyOf Try.prog 1 = some { size := 1, bytes := 8, agg := false, k := .other, zero := some [.nilFunc] } := by kernel_rfl
theorem tk1 : tk Try.prog 1 = some (.other) := by kernel_rfl
theorem ty2 : tyOf Try.prog 2 = some { size := 1, bytes := 8, agg := false, k := .int .i64, zero := some [.int .i64 0] } := by kernel_rfl
theorem tk2 : tk Try.prog 2 = some (.int .i64) := by kernel_rfl
theorem ty3 : tyOf Try.prog 3 = some { size := 1, bytes := 8, agg := false, k := .int .i64, zero := some [.int .i64 0] } := by kernel_rfl
theorem tk3 : tk Try.prog 3 = some (.int .i64) := by kernel_rfl
theorem ty4 : tyOf Try.prog 4 = some { size := 1, bytes := 1, agg := false, k := .bool, zero := some [.bool false] } := by kernel_rfl
theorem tk4 : tk Try.prog 4 = some (.bool) := by kernel_rfl
theorem ty22 : tyOf Try.prog 22 = some { size := 1, bytes := 24, agg := false, k := .slice 35, zero := some [.slice none 0 0] } := by kernel_rfl
theorem tk22 : tk Try.prog 22 = some (.slice 35) := by kernel_rfl
theorem ty24 : tyOf Try.prog 24 = some { size := 3, bytes := 40, agg := true, k := .struct [(0, 22), (1, 3), (2, 3)], zero := some [.slice none 0 0, .int .i64 0, .int .i64 0] } := by kernel_rfl
theorem tk24 : tk Try.prog 24 = some (.struct [(0, 22), (1, 3), (2, 3)]) := by kernel_rfl
theorem eqOk24 : eqOk Try.prog 24 = true := by kernel_rfl
theorem ty25 : tyOf Try.prog 25 = some { size := 1, bytes := 24, agg := false, k := .slice 3, zero := some [.slice none 0 0] } := by kernel_rfl
theorem tk25 : tk Try.prog 25 = some (.slice 3) := by kernel_rfl
theorem ty28 : tyOf Try.prog 28 = some { size := 1, bytes := 8, agg := false, k := .int .i64, zero := some [.int .i64 0] } := by kernel_rfl
theorem tk28 : tk Try.prog 28 = some (.int .i64) := by kernel_rfl
theorem ty35 : tyOf Try.prog 35 = some { size := 1, bytes := 24, agg := false, k := .slice 2, zero := some [.slice none 0 0] } := by kernel_rfl
theorem tk35 : tk Try.prog 35 = some (.slice 2) := by kernel_rfl
theorem ty37 : tyOf Try.prog 37 = some { size := 3, bytes := 56, agg := true, k := .struct [(0, 25), (1, 2), (2, 35)], zero := some [.slice none 0 0, .int .i64 0, .slice none 0 0] } := by kernel_rfl
theorem tk37 : tk Try.prog 37 = some (.struct [(0, 25), (1, 2), (2, 35)]) := by kernel_rfl
theorem eqOk37 : eqOk Try.prog 37 = true := by kernel_rfl
theorem ty42 : tyOf Try.prog 42 = some { size := 3, bytes := 24, agg := true, k := .array 3 2, zero := some [.int .i64 0, .int .i64 0, .int .i64 0] } := by kernel_rfl
theorem tk42 : tk Try.prog 42 = some (.array 3 2) := by kernel_rfl
theorem eqOk42 : eqOk Try.prog 42 = true := by kernel_rfl
theorem ty48 : tyOf Try.prog 48 = some { size := 2, bytes := 32, agg := true, k := .struct [(0, 25), (1, 3)], zero := some [.slice none 0 0, .int .i64 0] } := by kernel_rfl
theorem tk48 : tk Try.prog 48 = some (.struct [(0, 25), (1, 3)]) := by kernel_rfl
theorem eqOk48 : eqOk Try.prog 48 = true := by kernel_rfl
theorem ty55 : tyOf Try.prog 55 = some { size := 3, bytes := 40, agg := true, k := .struct [(0, 25), (1, 3), (2, 3)], zero := some [.slice none 0 0, .int .i64 0, .int .i64 0] } := by kernel_rfl
theorem tk55 : tk Try.prog 55 = some (.struct [(0, 25), (1, 3), (2, 3)]) := by kernel_rfl
theorem eqOk55 : eqOk Try.prog 55 = true := by kernel_rfl

noncomputable def fa3 : FnA := ⟨Try.f3, [0, 1, 2, 4, 5, 6, 7, 8, 9, 10, 11, 12, 14, 22], [(9, .quiet 26)]⟩
noncomputable def fa4 : FnA := ⟨Try.f4, [0, 1, 2, 3, 4, 5, 6, 8, 11], []⟩
noncomputable def fa5 : FnA := ⟨Try.f5, [0, 1, 2, 4, 5, 6, 7, 8, 9, 10, 12, 20, 33], []⟩
noncomputable def fa6 : FnA := ⟨Try.f6, [0, 1, 2, 3, 5, 6, 7, 8, 9, 10, 11, 13, 21, 28, 43, 58, 70], [(7, .quiet 10), (14, .quiet 9)]⟩
noncomputable def fa7 : FnA := ⟨Try.f7, [0, 1, 2, 3, 4, 5, 6, 7, 9], []⟩
noncomputable def fa8 : FnA := ⟨Try.f8, [0, 1, 2, 3, 5, 7, 8, 9, 10], []⟩
noncomputable def fa9 : FnA := ⟨Try.f9, [0, 1, 2, 3, 4, 8], [(4, .quiet 10)]⟩
noncomputable def fa10 : FnA := ⟨Try.f10, [0, 1, 2, 3, 4, 8], []⟩
noncomputable def fa11 : FnA := ⟨Try.f11, [0, 1, 2, 4, 5, 6, 7, 8, 9, 10, 11, 15, 22, 31, 32, 33, 34, 38, 47, 51], [(15, .quiet 8)]⟩
noncomputable def fa12 : FnA := ⟨Try.f12, [0, 1, 2, 4, 5, 6, 10], []⟩
noncomputable def fa13 : FnA := ⟨Try.f13, [0, 1, 2, 3, 5, 7, 8, 13, 28, 30, 31, 32, 33, 39, 40, 41, 42, 43, 51, 54, 74], []⟩
noncomputable def fa14 : FnA := ⟨Try.f14, [0, 1, 2, 4, 6, 10, 30, 32, 33, 34, 35, 45, 46, 47, 48, 49, 57, 82, 85], [(17, .quiet 23)]⟩
noncomputable def fa15 : FnA := ⟨Try.f15, [0, 1, 2, 4, 13, 15, 16, 17, 18, 23], []⟩
noncomputable def fa16 : FnA := ⟨Try.f16, [0, 1, 2, 3, 4, 5, 6, 7, 8, 9, 10, 11, 12, 13, 14, 21, 27, 28, 29, 36, 37, 38, 66, 70, 71, 72, 82, 83, 84, 90, 114], [(13, .led [0, 1, 2, 4] [[3]] [5] [] []), (15, .led [0, 1, 2, 3, 4, 6, 7] [[5, 8, 9], [5, 9, 8], [9, 5, 8]] [10] [55, 9] [0, 1]), (27, .led [0, 1, 2, 3] [[4, 5]] [6, 7, 8] [] [])]⟩
noncomputable def fa17 : FnA := ⟨Try.f17, [0, 1, 2, 3, 4, 5, 6, 7, 8, 9, 10, 14, 26, 36, 37, 38, 44, 45, 46, 52, 82], [(17, .quiet 26)]⟩
noncomputable def fa18 : FnA := ⟨Try.f18, [0, 1, 2, 3, 4, 5, 6, 29, 32, 33, 34, 46, 50, 51, 52, 64], [(6, .quiet 11), (12, .quiet 11)]⟩
noncomputable def fa19 : FnA := ⟨Try.f19, [0, 1, 2, 3, 4, 5, 6, 7, 15, 19, 24, 32, 33, 34, 41, 52], [(14, .quiet 10)]⟩
noncomputable def fa20 : FnA := ⟨Try.f20, [0, 1, 2, 3, 4, 5, 6, 7, 8, 9, 10, 11, 12, 13, 14, 18, 28, 33, 39, 41, 42, 43, 44, 63, 66, 67, 68, 69, 78, 79, 80, 86, 115, 127], [(9, .quiet 6), (14, .led [0, 1, 2, 3, 4, 5, 6, 7, 10, 11, 12] [[8, 9]] [13, 14, 15] [] []), (25, .quiet 9), (30, .quiet 10)]⟩
noncomputable def fa21 : FnA := ⟨Try.f21, [0, 1, 4, 5, 8, 9, 10, 16], []⟩
noncomputable def fa22 : FnA := ⟨Try.f22, [0, 1, 2, 3, 4, 12, 13, 14, 21], []⟩
noncomputable def fa23 : FnA := ⟨Try.f23, [0, 1, 2, 4, 5, 6, 7, 8, 9, 10, 12, 18, 21, 22, 23, 24, 39, 42, 45, 46, 47, 48, 53, 60], []⟩
noncomputable def fa24 : FnA := ⟨Try.f24, [0, 1, 2, 3, 4, 6, 7, 8, 9, 10, 11, 19, 30, 42, 49, 75], [(11, .led [0, 1, 2, 4] [[3]] [5, 6] [] [])]⟩
noncomputable def fa25 : FnA := ⟨Try.f25, [0, 1, 2, 4, 5, 6, 7, 27, 28, 29], [(2, .led [0, 2, 3, 4, 5, 6] [[1, 7, 8], [1, 8, 7], [8, 1, 7]] [9] [20, 6] [0, 1]), (7, .quiet 9)]⟩
noncomputable def fa26 : FnA := ⟨Try.f26, [0, 1, 2, 3, 4, 5, 6, 12], [(5, .quiet 12)]⟩
noncomputable def fa27 : FnA := ⟨Try.f27, [0, 1, 2, 3, 4, 6], [(1, .quiet 15)]⟩
noncomputable def fa28 : FnA := ⟨Try.f28, [0, 1, 2, 4, 5], []⟩
noncomputable def fa29 : FnA := ⟨Try.f29, [0, 1, 2, 3, 4, 5, 6, 7, 8, 16, 30, 36, 37, 38, 44, 53, 77], []⟩
noncomputable def fa30 : FnA := ⟨Try.f30, [0, 1, 2, 4, 5, 6, 7, 23, 24, 25], []⟩
noncomputable def fa31 : FnA := ⟨Try.f31, [0, 1, 2, 3, 4, 6], [(1, .quiet 23)]⟩
noncomputable def fa32 : FnA := ⟨Try.f32, [0, 1, 2, 3, 4, 6, 7, 8, 9, 15, 25], []⟩
noncomputable def fa33 : FnA := ⟨Try.f33, [0, 1, 2, 4, 5, 6, 17, 18, 19, 20, 21, 40], [(1, .quiet 11), (6, .led [0, 1, 2, 3, 4, 5, 6, 7, 10, 11, 12] [[8, 9]] [13, 14, 15] [] [])]⟩
noncomputable def fa34 : FnA := ⟨Try.f34, [0, 1, 2, 3, 6, 7, 8, 9, 10, 27, 34, 68], [(7, .led [0, 1, 2, 3] [[4, 5]] [6, 7, 8] [] []), (8, .quiet 26)]⟩
noncomputable def fa35 : FnA := ⟨Try.f35, [0, 1, 2, 3, 5, 7, 8, 9, 10], []⟩

noncomputable def fns : FuncId → Option FnA
  | 3 => some fa3
  | 4 => some fa4
  | 5 => some fa5
  | 6 => some fa6
  | 7 => some fa7
  | 8 => some fa8
  | 9 => some fa9
  | 10 => some fa10
  | 11 => some fa11
  | 12 => some fa12
  | 13 => some fa13
  | 14 => some fa14
  | 15 => some fa15
  | 16 => some fa16
  | 17 => some fa17
  | 18 => some fa18
  | 19 => some fa19
  | 20 => some fa20
  | 21 => some fa21
  | 22 => some fa22
  | 23 => some fa23
  | 24 => some fa24
  | 25 => some fa25
  | 26 => some fa26
  | 27 => some fa27
  | 28 => some fa28
  | 29 => some fa29
  | 30 => some fa30
  | 31 => some fa31
  | 32 => some fa32
  | 33 => some fa33
  | 34 => some fa34
  | 35 => some fa35
  | _ => none

noncomputable def sig : Sig := { P := Try.prog, fns := fns, prim := fun _ => none, own := fun f => f == 17 || f == 24 || f == 29, fz := fun f => f == 7 || f == 19 || f == 20 || f == 26 || f == 27 || f == 31 || f == 32 || f == 35 }

theorem fnOK3 : FnOK Try.prog sig.pure 3 fa3 := ⟨Try.func3, by kernel_rfl, fun c hc => by cases hc; kernel_rfl⟩
theorem fnOK4 : FnOK Try.prog sig.pure 4 fa4 := ⟨Try.func4, by kernel_rfl, fun c hc => by cases hc; kernel_rfl⟩
theorem fnOK5 : FnOK Try.prog sig.pure 5 fa5 := ⟨Try.func5, by kernel_rfl, fun c hc => by cases hc; kernel_rfl⟩
theorem fnOK6 : FnOK Try.prog sig.pure 6 fa6 := ⟨Try.func6, by kernel_rfl, fun c hc => by cases hc; kernel_rfl⟩
theorem fnOK7 : FnOK Try.prog sig.pure 7 fa7 := ⟨Try.func7, by kernel_rfl, fun c hc => by cases hc; kernel_rfl⟩
theorem fnOK8 : FnOK Try.prog sig.pure 8 fa8 := ⟨Try.func8, by kernel_rfl, fun c hc => by cases hc; kernel_rfl⟩
theorem fnOK9 : FnOK Try.prog sig.pure 9 fa9 := ⟨Try.func9, by kernel_rfl, fun c hc => by cases hc; kernel_rfl⟩
theorem fnOK10 : FnOK Try.prog sig.pure 10 fa10 := ⟨Try.func10, by kernel_rfl, fun c hc => by cases hc; kernel_rfl⟩
theorem fnOK11 : FnOK Try.prog sig.pure 11 fa11 := ⟨Try.func11, by kernel_rfl, fun c hc => by cases hc; kernel_rfl⟩
theorem fnOK12 : FnOK Try.prog sig.pure 12 fa12 := ⟨Try.func12, by kernel_rfl, fun c hc => by cases hc; kernel_rfl⟩
theorem fnOK13 : FnOK Try.prog sig.pure 13 fa13 := ⟨Try.func13, by kernel_rfl, fun c hc => by cases hc; kernel_rfl⟩
theorem fnOK14 : FnOK Try.prog sig.pure 14 fa14 := ⟨Try.func14, by kernel_rfl, fun c hc => by cases hc; kernel_rfl⟩
theorem fnOK15 : FnOK Try.prog sig.pure 15 fa15 := ⟨Try.func15, by kernel_rfl, fun c hc => by cases hc; kernel_rfl⟩
theorem fnOK16 : FnOK Try.prog sig.pure 16 fa16 := ⟨Try.func16, by kernel_rfl, fun c hc => by cases hc; kernel_rfl⟩
theorem fnOK17 : FnOK Try.prog sig.pure 17 fa17 := ⟨Try.func17, by kernel_rfl, fun c hc => by cases hc; kernel_rfl⟩
theorem fnOK18 : FnOK Try.prog sig.pure 18 fa18 := ⟨Try.func18, by kernel_rfl, fun c hc => by cases hc; kernel_rfl⟩
theorem fnOK19 : FnOK Try.prog sig.pure 19 fa19 := ⟨Try.func19, by kernel_rfl, fun c hc => by cases hc; kernel_rfl⟩
theorem fnOK20 : FnOK Try.prog sig.pure 20 fa20 := ⟨Try.func20, by kernel_rfl, fun c hc => by cases hc; kernel_rfl⟩
theorem fnOK21 : FnOK Try.prog sig.pure 21 fa21 := ⟨Try.func21, by kernel_rfl, fun c hc => by cases hc; kernel_rfl⟩
theorem fnOK22 : FnOK Try.prog sig.pure 22 fa22 := ⟨Try.func22, by kernel_rfl, fun c hc => by cases hc; kernel_rfl⟩
theorem fnOK23 : FnOK Try.prog sig.pure 23 fa23 := ⟨Try.func23, by kernel_rfl, fun c hc => by cases hc; kernel_rfl⟩
theorem fnOK24 : FnOK Try.prog sig.pure 24 fa24 := ⟨Try.func24, by kernel_rfl, fun c hc => by cases hc; kernel_rfl⟩
theorem fnOK25 : FnOK Try.prog sig.pure 25 fa25 := ⟨Try.func25, by kernel_rfl, fun c hc => by cases hc; kernel_rfl⟩
theorem fnOK26 : FnOK Try.prog sig.pure 26 fa26 := ⟨Try.func26, by kernel_rfl, fun c hc => by cases hc; kernel_rfl⟩
theorem fnOK27 : FnOK Try.prog sig.pure 27 fa27 := ⟨Try.func27, by kernel_rfl, fun c hc => by cases hc; kernel_rfl⟩
theorem fnOK28 : FnOK Try.prog sig.pure 28 fa28 := ⟨Try.func28, by kernel_rfl, fun c hc => by cases hc; kernel_rfl⟩
theorem fnOK29 : FnOK Try.prog sig.pure 29 fa29 := ⟨Try.func29, by kernel_rfl, fun c hc => by cases hc; kernel_rfl⟩
theorem fnOK30 : FnOK Try.prog sig.pure 30 fa30 := ⟨Try.func30, by kernel_rfl, fun c hc => by cases hc; kernel_rfl⟩
theorem fnOK31 : FnOK Try.prog sig.pure 31 fa31 := ⟨Try.func31, by kernel_rfl, fun c hc => by cases hc; kernel_rfl⟩
theorem fnOK32 : FnOK Try.prog sig.pure 32 fa32 := ⟨Try.func32, by kernel_rfl, fun c hc => by cases hc; kernel_rfl⟩
theorem fnOK33 : FnOK Try.prog sig.pure 33 fa33 := ⟨Try.func33, by kernel_rfl, fun c hc => by cases hc; kernel_rfl⟩
theorem fnOK34 : FnOK Try.prog sig.pure 34 fa34 := ⟨Try.func34, by kernel_rfl, fun c hc => by cases hc; kernel_rfl⟩
theorem fnOK35 : FnOK Try.prog sig.pure 35 fa35 := ⟨Try.func35, by kernel_rfl, fun c hc => by cases hc; kernel_rfl⟩

theorem fns_ok : ∀ f fa, fns f = some fa → FnOK Try.prog sig.pure f fa := by
  intro f fa h
  unfold fns at h
  split at h <;> first | (cases h; done) | skip
  · cases h; exact fnOK3
  · cases h; exact fnOK4
  · cases h; exact fnOK5
  · cases h; exact fnOK6
  · cases h; exact fnOK7
  · cases h; exact fnOK8
  · cases h; exact fnOK9
  · cases h; exact fnOK10
  · cases h; exact fnOK11
  · cases h; exact fnOK12
  · cases h; exact fnOK13
  · cases h; exact fnOK14
  · cases h; exact fnOK15
  · cases h; exact fnOK16
  · cases h; exact fnOK17
  · cases h; exact fnOK18
  · cases h; exact fnOK19
  · cases h; exact fnOK20
  · cases h; exact fnOK21
  · cases h; exact fnOK22
  · cases h; exact fnOK23
  · cases h; exact fnOK24
  · cases h; exact fnOK25
  · cases h; exact fnOK26
  · cases h; exact fnOK27
  · cases h; exact fnOK28
  · cases h; exact fnOK29
  · cases h; exact fnOK30
  · cases h; exact fnOK31
  · cases h; exact fnOK32
  · cases h; exact fnOK33
  · cases h; exact fnOK34
  · cases h; exact fnOK35

theorem sig_ok : SigOK sig := ⟨by kernel_rfl, fns_ok, fun f h => by
  have h := (show (f == 7 || f == 19 || f == 20 || f == 26 || f == 27 || f == 31 || f == 32 || f == 35) = true from h)
  simp only [Bool.or_eq_true, beq_iff_eq] at h
  rcases h with (((((((rfl | rfl) | rfl) | rfl) | rfl) | rfl) | rfl) | rfl) <;> rfl, fun f p h => by cases h⟩
end Go.Proofs.Ytmkalakojfpfgaa
