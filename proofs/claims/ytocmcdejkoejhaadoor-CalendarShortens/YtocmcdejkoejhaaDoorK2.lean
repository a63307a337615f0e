/-
  Rest between days: what the calendar's functions give. Plain definitions.
-/
import Derived.Test.YtocmcdejkoejhaaDoorK
set_option linter.unusedVariables false
namespace Go.Proofs.YtocmcdejkoejhaaDoor
open Go Go.Am
abbrev intsAV (l : List Int) : AV := .sl l.length (l.map AV.i)
def okD (l : List Int) : Prop := ∀ i, i < l.length → 0 ≤ gt l i ∧ gt l i ≤ 109572
/-- The first too short rest among the next ones. -/
def rF (l : List Int) (rest : Int) : Nat → Nat → Int
  | 0, _ => -1
  | k + 1, i => if gt l i - gt l (i - 1) ≤ rest then (i : Int) else rF l rest k (i + 1)
open Classical in
noncomputable def restS (l : List Int) (rest : Int) : Int × Int :=
  if 400 < l.length then (0, 9) else if rest < 0 ∨ 400 < rest then (0, 2) else if ¬ okD l then (0, 2) else (rF l rest (l.length - 1) 1, 0)
theorem rest_a {l : List Int} {rest : Int} (h : 400 < l.length) : restS l rest = (0, 9) := by rw [restS, if_pos h]
theorem rest_b {l : List Int} {rest : Int} (h : ¬ 400 < l.length) (h2 : rest < 0 ∨ 400 < rest) : restS l rest = (0, 2) := by rw [restS, if_neg h, if_pos h2]
theorem rest_c {l : List Int} {rest : Int} (h : ¬ 400 < l.length) (h2 : ¬ (rest < 0 ∨ 400 < rest)) {u : Nat} (hu : u < l.length) (hb : ¬ (0 ≤ gt l u ∧ gt l u ≤ 109572)) : restS l rest = (0, 2) := by
  rw [restS, if_neg h, if_neg h2, if_pos (fun hh => hb (hh u hu))]
theorem rest_d {l : List Int} {rest : Int} (h : ¬ 400 < l.length) (h2 : ¬ (rest < 0 ∨ 400 < rest)) (h3 : ∀ i, i < l.length → 0 ≤ gt l i ∧ gt l i ≤ 109572) : restS l rest = (rF l rest (l.length - 1) 1, 0) := by
  rw [restS, if_neg h, if_neg h2, if_neg (fun hh => hh h3)]
theorem rF_hit {l : List Int} {rest : Int} {z : Nat} (hz : z < l.length) (h : gt l z - gt l (z - 1) ≤ rest) : rF l rest (l.length - z) z = z := by
  rw [show l.length - z = (l.length - (z + 1)) + 1 by omega, rF, if_pos h]
theorem rF_miss {l : List Int} {rest : Int} {z : Nat} (hz : z < l.length) (h : ¬ gt l z - gt l (z - 1) ≤ rest) : rF l rest (l.length - z) z = rF l rest (l.length - (z + 1)) (z + 1) := by
  rw [show l.length - z = (l.length - (z + 1)) + 1 by omega, rF, if_neg h]
theorem rF_end {l : List Int} {rest : Int} {z : Nat} (hz : ¬ z < l.length) : rF l rest (l.length - z) z = -1 := by
  rw [show l.length - z = 0 by omega, rF]
theorem all_next {p : Nat → Prop} {u : Nat} (h : ∀ i, i < u → p i) (hu : p u) : ∀ i, i < u + 1 → p i := fun i hi => by
  by_cases hiu : i = u
  · subst hiu; exact hu
  · exact h i (by omega)
end Go.Proofs.YtocmcdejkoejhaaDoor
