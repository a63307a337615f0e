/-
  The table of functions of the law. Written by program (seat.py).
-/
import Derived.Test.YtcnleglfdnhagaaLTy
import Derived.Test.YtcnleglfdnhagaaLPr
import Derived.KernelRfl
set_option linter.unusedVariables false
set_option linter.unusedSimpArgs false
namespace Go.Proofs.Ytcnleglfdnhagaa.L
open Go Go.Am
noncomputable def fa3 : FnA := ⟨Try.f3, [0, 1, 4, 5, 6, 7, 8, 9, 11, 12, 13, 14, 16, 34, 35, 37, 38, 39, 40, 58, 59, 60, 61, 62, 107, 111, 112, 113, 114, 156, 169, 171, 172, 173, 174, 179], [(1, .quiet 12), (8, .quiet 15), (13, .quiet 43), (19, .quiet 39)]⟩
noncomputable def fa6 : FnA := ⟨Try.f6, [0, 1, 4], []⟩
noncomputable def fa7 : FnA := ⟨Try.f7, [0, 1, 2, 3, 4], []⟩
noncomputable def fa16 : FnA := ⟨Try.f16, [0, 1, 4, 5, 7, 8, 9, 16], []⟩

noncomputable def fns : FuncId → Option FnA
  | 3 => some fa3
  | 6 => some fa6
  | 7 => some fa7
  | 16 => some fa16
  | _ => none

noncomputable def sig : Sig := { P := Try.prog, fns := fns, prim := primF, own := fun f => false, fz := fun f => false }

theorem fnOK3 : FnOK Try.prog sig.pure 3 fa3 := ⟨Try.func3, by kernel_rfl, fun c hc => by cases hc; kernel_rfl⟩
theorem fnOK6 : FnOK Try.prog sig.pure 6 fa6 := ⟨Try.func6, by kernel_rfl, fun c hc => by cases hc; kernel_rfl⟩
theorem fnOK7 : FnOK Try.prog sig.pure 7 fa7 := ⟨Try.func7, by kernel_rfl, fun c hc => by cases hc; kernel_rfl⟩
theorem fnOK16 : FnOK Try.prog sig.pure 16 fa16 := ⟨Try.func16, by kernel_rfl, fun c hc => by cases hc; kernel_rfl⟩

theorem fns_ok : ∀ f fa, fns f = some fa → FnOK Try.prog sig.pure f fa := by
  intro f fa h
  unfold fns at h
  split at h <;> first | (cases h; done) | skip
  · cases h; exact fnOK3
  · cases h; exact fnOK6
  · cases h; exact fnOK7
  · cases h; exact fnOK16

theorem prim_own : ∀ f p, primF f = some p → sig.own f = false := by
  intro f p h
  unfold primF at h
  split at h <;> first | rfl | cases h
theorem sig_ok : SigOK sig := ⟨by kernel_rfl, fns_ok, fun f h => (by simp [sig] at h), fun f p h => ⟨prim_own f p h, prim_ok f p h⟩, fun f p h => (by cases h)⟩
theorem sigP : sig.P = Try.prog := rfl
attribute [go_sem] sigP
end Go.Proofs.Ytcnleglfdnhagaa.L
