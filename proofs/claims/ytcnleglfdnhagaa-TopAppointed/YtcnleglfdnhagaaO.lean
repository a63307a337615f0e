/-
  The arguments of TopAppointed, opened.
-/
import Derived.Test.YtcnleglfdnhagaaOp
import Derived.Test.YtcnleglfdnhagaaPa
set_option linter.unusedVariables false
set_option linter.unusedSimpArgs false
set_option maxRecDepth 10000
namespace Go.Proofs.Ytcnleglfdnhagaa
open Go Go.Am Go.ChangeShapes Go.WideShapes Go.ChangeAt Go.RowKit
abbrev duOf (d : D32) : Du := ⟨d.1.val, d.2.1.val, d.2.2.1.val, d.2.2.2.val⟩
abbrev umOf (d : D35) : Um := ⟨d.1.val, d.2.1.val, d.2.2.map fun x => x.val⟩
theorem c22_eq (d : D22) : c22 d = [dusAV (d.map duOf)] := by
  show [AV.sl d.length (d.map c32).flatten] = _
  rw [dusAV, flatD, List.length_map, List.map_map]
  rfl
theorem c33_eq (d : D33) : c33 d = [intsAV (d.map fun x => x.val)] := by
  show [AV.sl d.length (d.map c2).flatten] = _
  rw [intsAV, List.length_map, List.map_map, show (d.map c2).flatten = d.map fun x => AV.i x.val from flat_one _ _]
  rfl
theorem c35_eq (d : D35) : c35 d = umC (umOf d) := by
  show c9 d.1 ++ (c9 d.2.1 ++ (c33 d.2.2 ++ [])) = _
  rw [c33_eq]; rfl
theorem c23_eq (d : D23) : c23 d = [umsAV (d.map umOf)] := by
  show [AV.sl d.length (d.map c35).flatten] = _
  have : c35 = fun x => umC (umOf x) := funext c35_eq
  rw [umsAV, flatU, List.length_map, List.map_map, this]
  rfl
theorem gt_of {α β : Type} [Inhabited β] (f : α → β) {Q : β → Prop} (hd : Q default) (hf : ∀ a, Q (f a)) (l : List α) (i : Nat) : Q (gt (l.map f) i) := by
  unfold gt
  rw [List.getD_eq_getElem?_getD, List.getElem?_map]
  cases l[i]? with
  | none => exact hd
  | some a => exact hf a
section
variable {H : Type} {enc : TypeId × Value → H} {W : World} {base : Nat} {r : Reach} {v : Value} {d : DataW H} {p : List MemPlace}
theorem open_22 (hval : Value.okWide Try.prog W r base 22 v) (h : DataW.Trod enc Try.prog W 0 (fun _ => true) true 22 v d p) :
    ∃ (l : List Du) (hL : ∀ u, (gt l u).ho.size ≤ 9223372036854775807 ∧ (gt l u).aw.size ≤ 9223372036854775807), Den [] (In W) W (dusAV l) v := by
  obtain ⟨a, len, cap, rfl⟩ := okWide_slice Try.underlying22 hval
  obtain ⟨fuel, hf⟩ := h
  obtain ⟨x, hx⟩ := opens22 _ _ _ _ _ _ _ hf
  rw [c22_eq] at hx
  exact ⟨_, fun u => gt_of duOf (Q := fun z => z.ho.size ≤ 9223372036854775807 ∧ z.aw.size ≤ 9223372036854775807) (by decide) (fun a => ⟨a.2.2.1.property, a.2.2.2.property⟩) x u, hx.2 0 _ _ rfl rfl⟩
theorem open_23 (hval : Value.okWide Try.prog W r base 23 v) (h : DataW.Trod enc Try.prog W 0 (fun _ => true) true 23 v d p) :
    ∃ (us : List Um) (hU : ∀ u, (gt us u).nm.size ≤ 9223372036854775807 ∧ (gt us u).tm.size ≤ 9223372036854775807), Den [] (In W) W (umsAV us) v := by
  obtain ⟨a, len, cap, rfl⟩ := okWide_slice Try.underlying23 hval
  obtain ⟨fuel, hf⟩ := h
  obtain ⟨x, hx⟩ := opens23 _ _ _ _ _ _ _ hf
  rw [c23_eq] at hx
  exact ⟨_, fun u => gt_of umOf (Q := fun z => z.nm.size ≤ 9223372036854775807 ∧ z.tm.size ≤ 9223372036854775807) (by decide) (fun a => ⟨a.1.property, a.2.1.property⟩) x u, hx.2 0 _ _ rfl rfl⟩
end
end Go.Proofs.Ytcnleglfdnhagaa
