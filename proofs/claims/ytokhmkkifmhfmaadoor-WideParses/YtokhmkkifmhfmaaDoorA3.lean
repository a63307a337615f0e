/-
  Quotients of wide integers: laws in plain numbers.
-/
import Derived.Test.YtokhmkkifmhfmaaDoorD64
set_option linter.unusedVariables false
namespace Go.Proofs.YtokhmkkifmhfmaaDoor
open Go Go.Am
theorem fS_2f {n : Int} (h : (fS n).2 = false) : ¬ Fw n := fun hF => by rw [fS_y hF] at h; cases h
theorem fS_2t {n : Int} (h : (fS n).2 = true) : Fw n := by
  by_cases hF : Fw n
  · exact hF
  · rw [fS_n hF] at h; cases h
def dvS (x n : Int) : (Int × Int) × Bool := if n = 0 then ((0, 0), false) else if Fw (x / n) then ((x / n, x % n), true) else ((0, 0), false)
theorem div_parts {m k : Int} (hm : 0 ≤ m) (hk : 0 < k) :
    0 ≤ m / 18446744073709551616 / k ∧ m / 18446744073709551616 / k ≤ m / 18446744073709551616 ∧ 0 ≤ m / 18446744073709551616 % k ∧ m / 18446744073709551616 % k < k ∧
    0 ≤ (m / 18446744073709551616 % k * 18446744073709551616 + m % 18446744073709551616) / k ∧ (m / 18446744073709551616 % k * 18446744073709551616 + m % 18446744073709551616) / k < 18446744073709551616 ∧
    0 ≤ (m / 18446744073709551616 % k * 18446744073709551616 + m % 18446744073709551616) % k ∧ (m / 18446744073709551616 % k * 18446744073709551616 + m % 18446744073709551616) % k < k ∧
    m = (m / 18446744073709551616 / k * 18446744073709551616 + (m / 18446744073709551616 % k * 18446744073709551616 + m % 18446744073709551616) / k) * k + (m / 18446744073709551616 % k * 18446744073709551616 + m % 18446744073709551616) % k := by
  have hh : 0 ≤ m / 18446744073709551616 := by omega
  have h1 := Int.emod_nonneg (m / 18446744073709551616) (show k ≠ 0 by omega)
  have h2 := Int.emod_lt_of_pos (m / 18446744073709551616) hk
  have h3 := Int.mul_ediv_add_emod (m / 18446744073709551616) k
  have hN : 0 ≤ m / 18446744073709551616 % k * 18446744073709551616 + m % 18446744073709551616 := by omega
  have h4 := Int.mul_ediv_add_emod (m / 18446744073709551616 % k * 18446744073709551616 + m % 18446744073709551616) k
  have h5 := Int.mul_ediv_add_emod m 18446744073709551616
  refine ⟨Int.ediv_nonneg hh (by omega), Int.ediv_le_self _ hh, h1, h2, Int.ediv_nonneg hN (by omega), ?_, Int.emod_nonneg _ (by omega), Int.emod_lt_of_pos _ hk, ?_⟩
  · rw [Int.ediv_lt_iff_lt_mul hk]
    omega
  · generalize (m / 18446744073709551616 % k * 18446744073709551616 + m % 18446744073709551616) / k = lw at *
    generalize (m / 18446744073709551616 % k * 18446744073709551616 + m % 18446744073709551616) % k = rs at *
    generalize m / 18446744073709551616 / k = hq at *
    generalize m / 18446744073709551616 % k = hr at *
    generalize m / 18446744073709551616 = h at *
    generalize m % 18446744073709551616 = l at *
    grind
theorem dv_core {x n q r : Int} (hn : n ≠ 0) (hx : x = ab n * q + r) (h0 : 0 ≤ r) (h1 : r < ab n) : x / n = (if n < 0 then -q else q) ∧ x % n = r := by
  have hk : 0 < ab n := by unfold ab; split <;> omega
  have hu := (Int.ediv_emod_unique hk (a := x) (r := r) (q := q)).mpr ⟨by omega, h0, h1⟩
  by_cases hneg : n < 0
  · rw [ab_neg hneg] at hu
    rw [if_pos hneg, ← hu.1, ← hu.2, Int.ediv_neg, Int.emod_neg]
    exact ⟨by omega, rfl⟩
  · rw [ab_pos hneg] at hu
    rw [if_neg hneg]
    exact hu
theorem dv_up {x n Q r : Int} (hn : n ≠ 0) (hM : ab x = Q * ab n + r) (h0 : 0 ≤ r) (h1 : r < ab n) (hx : x < 0) (hr : 0 < r) : sg (!(decide (x < 0) == decide (n < 0))) (Q + 1) = x / n ∧ ab n - r = x % n := by
  rw [ab_neg hx] at hM
  obtain ⟨e1, e2⟩ := dv_core (x := x) (q := -(Q + 1)) (r := ab n - r) hn (by grind) (by omega) (by omega)
  rw [e1, e2]
  refine ⟨?_, rfl⟩
  by_cases hneg : n < 0 <;> simp [sg, hx, hneg]
theorem dv_zero {x n Q r : Int} (hn : n ≠ 0) (hM : ab x = Q * ab n + r) (h0 : 0 ≤ r) (h1 : r < ab n) (hx : x < 0) (hr : ¬ 0 < r) : sg (!(decide (x < 0) == decide (n < 0))) Q = x / n ∧ r = x % n := by
  rw [ab_neg hx] at hM
  obtain ⟨e1, e2⟩ := dv_core (x := x) (q := -Q) (r := r) hn (by grind) h0 h1
  rw [e1, e2]
  refine ⟨?_, rfl⟩
  by_cases hneg : n < 0 <;> simp [sg, hx, hneg]
theorem dv_pos {x n Q r : Int} (hn : n ≠ 0) (hM : ab x = Q * ab n + r) (h0 : 0 ≤ r) (h1 : r < ab n) (hx : ¬ x < 0) : sg (!(decide (x < 0) == decide (n < 0))) Q = x / n ∧ r = x % n := by
  rw [ab_pos hx] at hM
  obtain ⟨e1, e2⟩ := dv_core (x := x) (q := Q) (r := r) hn (by grind) h0 h1
  rw [e1, e2]
  refine ⟨?_, rfl⟩
  by_cases hneg : n < 0 <;> simp [sg, hx, hneg]
theorem tupD {a b n r s : Int} {p q : Bool} (h1 : a = n / 18446744073709551616) (h2 : b = n % 18446744073709551616) (hr : r = s) (hp : p = q) : AV.tup [AV.agg [AV.i a, u6 b], u6 r, .v (.bool p)] = AV.tup [wv n, u6 s, .v (.bool q)] := by rw [h1, h2, hr, hp]
end Go.Proofs.YtokhmkkifmhfmaaDoor
