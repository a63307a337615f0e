/-
  Quotient and rest: laws in plain numbers.
-/
import Derived.Test.YtokhmkkifmhfmaaDoorA3
set_option linter.unusedVariables false
namespace Go.Proofs.YtokhmkkifmhfmaaDoor
open Go Go.Am
theorem dvS_t {x n : Int} (h : (dvS x n).2 = true) : n ≠ 0 ∧ Fw (x / n) ∧ dvS x n = ((x / n, x % n), true) := by
  unfold dvS at h ⊢
  split at h
  · cases h
  rename_i h0
  split at h
  · rename_i hF; rw [if_neg h0, if_pos hF]; exact ⟨h0, hF, rfl⟩
  · cases h
theorem dvS_f {x n : Int} (h : (dvS x n).2 = false) : n = 0 ∨ ¬ Fw (x / n) := by
  unfold dvS at h
  split at h
  · left; assumption
  split at h
  · cases h
  · right; assumption
theorem dv_fit {x n : Int} (hx : Fw x) (hn : n ≠ 0) (h : ¬ Fw (x / n)) : n = -1 ∧ x = -170141183460469231731687303715884105728 := by
  unfold Fw at hx h
  have e : x / n = (if n < 0 then -(x / ab n) else x / ab n) := by
    by_cases hneg : n < 0
    · rw [if_pos hneg, ab_neg hneg, Int.ediv_neg]; omega
    · rw [if_neg hneg, ab_pos hneg]
  by_cases h1 : ab n = 1
  · rw [h1, Int.ediv_one] at e
    unfold ab at h1
    split at h1 <;> (rename_i hneg; simp only [hneg, if_true, if_false] at e; omega)
  · exfalso
    have hk : 2 ≤ ab n := by unfold ab at *; split <;> omega
    have u1 : x / ab n < 85070591730234615865843651857942052865 := by rw [Int.ediv_lt_iff_lt_mul (by omega)]; omega
    have u2 : -85070591730234615865843651857942052864 ≤ x / ab n := by rw [Int.le_ediv_iff_mul_le (by omega)]; omega
    split at e <;> omega
theorem dv_self {n : Int} (hn : n ≠ 0) : dvS n n = ((1, 0), true) := by
  rw [dvS, if_neg hn, Int.ediv_self hn, Int.emod_self, if_pos (by unfold Fw; omega)]
theorem dv_rest {x n : Int} (hn : n ≠ 0) (hn1 : -9223372036854775808 ≤ n ∧ n ≤ 9223372036854775807) : fS (x - x / n * n) = (x % n, true) ∧ 0 ≤ x % n ∧ x % n < ab n := by
  have h1 := Int.emod_nonneg x hn
  have h2 : x % n < ab n := by
    by_cases hneg : n < 0
    · rw [ab_neg hneg, ← Int.emod_neg]; exact Int.emod_lt_of_pos x (by omega)
    · rw [ab_pos hneg]; exact Int.emod_lt_of_pos x (by omega)
  have h3 := ab_le hn1
  have e : x - x / n * n = x % n := by rw [Int.emod_def, Int.mul_comm]
  rw [e, fS_y (by unfold Fw; omega)]
  exact ⟨rfl, h1, h2⟩
theorem dv_exact {x n : Int} (hx : Fw x) (hn : n ≠ 0) (h : ¬ Fw (x / n * n)) : x % n ≠ 0 := fun h0 => by
  apply h
  have e : x - x / n * n = x % n := by rw [Int.emod_def, Int.mul_comm]
  rw [show x / n * n = x by omega]
  exact hx
end Go.Proofs.YtokhmkkifmhfmaaDoor
