/-
  Targets: what they are, and how they rise and fall. Plain arithmetic.
-/
import Derived.Test.YtaoondlakhocnaaRH
set_option linter.unusedVariables false
namespace Go.Proofs.Ytaoondlakhocnaa
open Go Go.Am

def revBad (a b c e f : Int) : Prop := a < 0 ∨ 10000 < a ∨ f < 0 ∨ 10000 < f ∨ e < 1 ∨ 80000 < e ∨ b < 1 ∨ e < b ∨ c < 0 ∨ e < c
instance (a b c e f : Int) : Decidable (revBad a b c e f) := by unfold revBad; infer_instance
def revV (a b c e f : Int) : Int := if c ≤ b then a * c / b + 1 else a + f * (c - b) / e + 1
def reviseS (a b c e f : Int) : Int × Int := if revBad a b c e f then (0, 2) else (revV a b c e f, 0)
theorem rev_ok0 {a b c e f : Int} (h : ¬ revBad a b c e f) : reviseS a b c e f = (revV a b c e f, 0) := by rw [reviseS, if_neg h]
theorem rev_of0 {a b c e f : Int} (h : (reviseS a b c e f).2 = 0) : ¬ revBad a b c e f := by
  intro hb
  rw [reviseS, if_pos hb] at h
  cases h
theorem rev_err {a b c e f : Int} (h : (reviseS a b c e f).2 ≠ 0) : reviseS a b c e f = (0, 2) := by
  by_cases hb : revBad a b c e f
  · rw [reviseS, if_pos hb]
  · rw [rev_ok0 hb] at h; exact absurd rfl h
theorem quo_box {x y : Int} (hx : 0 ≤ x) (hy : 0 ≤ y) : 0 ≤ x / y ∧ x / y ≤ x := ⟨Int.ediv_nonneg hx hy, Int.ediv_le_self _ hx⟩
theorem rev_box {a b c e f : Int} (h : ¬ revBad a b c e f) : 0 ≤ a * c ∧ a * c ≤ 10000 * 80000 ∧ (b < c → 0 ≤ f * (c - b) ∧ f * (c - b) ≤ 10000 * 80000) := by
  unfold revBad at h
  have h1 := mul_box (a := a) (b := c) (A := 10000) (B := 80000) (by omega) (by omega) (by omega) (by omega)
  refine ⟨h1.1, h1.2, fun hbc => ?_⟩
  exact mul_box (a := f) (b := c - b) (A := 10000) (B := 80000) (by omega) (by omega) (by omega) (by omega)
theorem rev_range {a b c e f : Int} : 0 ≤ (reviseS a b c e f).1 ∧ (reviseS a b c e f).1 ≤ 900000000 := by
  by_cases hb : revBad a b c e f
  · rw [reviseS, if_pos hb]; exact ⟨by simp, by simp⟩
  · rw [rev_ok0 hb]
    have h0 := rev_box hb
    unfold revBad at hb
    show 0 ≤ revV a b c e f ∧ revV a b c e f ≤ 900000000
    unfold revV
    split
    · have := quo_box (y := b) h0.1 (by omega)
      exact ⟨by omega, by omega⟩
    · have h1 := h0.2.2 (by omega)
      have := quo_box (y := e) h1.1 (by omega)
      exact ⟨by omega, by omega⟩
theorem quo_cap {a b c : Int} (ha : 0 ≤ a) (hb : 1 ≤ b) (hc : c ≤ b) : a * c / b ≤ a := by
  have h1 : a * c ≤ a * b := Int.mul_le_mul_of_nonneg_left hc ha
  have h2 := Int.ediv_le_ediv (c := b) (by omega) h1
  rwa [Int.mul_ediv_cancel _ (by omega)] at h2
theorem quo_mono {x x' y : Int} (h : x ≤ x') (hy : 1 ≤ y) : x / y ≤ x' / y := Int.ediv_le_ediv (by omega) h
theorem quo_anti {x y y' : Int} (hx : 0 ≤ x) (hy : 1 ≤ y) (h : y ≤ y') : x / y' ≤ x / y := by
  rw [Int.le_ediv_iff_mul_le (by omega)]
  have h1 : 0 ≤ x / y' := Int.ediv_nonneg hx (by omega)
  have h2 : x / y' * y ≤ x / y' * y' := Int.mul_le_mul_of_nonneg_left h h1
  have h3 : x / y' * y' ≤ x := Int.ediv_mul_le _ (by omega)
  omega
theorem rev_total {a a' b c e f : Int} (h : ¬ revBad a b c e f) (h' : ¬ revBad a' b c e f) (hle : a ≤ a') : revV a b c e f ≤ revV a' b c e f := by
  unfold revBad at h h'
  unfold revV
  split
  · have := quo_mono (y := b) (Int.mul_le_mul_of_nonneg_right hle (by omega : 0 ≤ c)) (by omega)
    omega
  · omega
theorem rev_second {a b c c' e f : Int} (h : ¬ revBad a b c e f) (h' : ¬ revBad a b c' e f) (hle : c ≤ c') : revV a b c e f ≤ revV a b c' e f := by
  have k' := rev_box h'
  unfold revBad at h h'
  unfold revV
  split
  · split
    · have := quo_mono (y := b) (Int.mul_le_mul_of_nonneg_left hle (by omega : 0 ≤ a)) (by omega)
      omega
    · have h1 := quo_cap (a := a) (b := b) (c := c) (by omega) (by omega) (by omega)
      have h2 := quo_box (y := e) (k'.2.2 (by omega)).1 (by omega)
      omega
  · rw [if_neg (by omega)]
    have := quo_mono (y := e) (Int.mul_le_mul_of_nonneg_left (by omega : c - b ≤ c' - b) (by omega : 0 ≤ f)) (by omega)
    omega
theorem rev_first {a b b' c e f : Int} (h : ¬ revBad a b c e f) (h' : ¬ revBad a b' c e f) (hle : b ≤ b') : revV a b' c e f ≤ revV a b c e f := by
  have k := rev_box h
  unfold revBad at h h'
  unfold revV
  by_cases h1 : c ≤ b
  · rw [if_pos h1, if_pos (by omega)]
    have := quo_anti (y := b) (y' := b') k.1 (by omega) hle
    omega
  · rw [if_neg h1]
    have h2 := quo_box (y := e) (k.2.2 (by omega)).1 (by omega)
    by_cases h3 : c ≤ b'
    · rw [if_pos h3]
      have := quo_cap (a := a) (b := b') (c := c) (by omega) (by omega) h3
      omega
    · rw [if_neg h3]
      have := quo_mono (y := e) (Int.mul_le_mul_of_nonneg_left (by omega : c - b' ≤ c - b) (by omega : 0 ≤ f)) (by omega)
      omega
theorem rev_same {a b c e f : Int} (h : ¬ revBad a b c e f) : ¬ revBad a b b e f ∧ revV a b b e f = a + 1 := by
  unfold revBad at h ⊢
  refine ⟨by omega, ?_⟩
  unfold revV
  rw [if_pos (Int.le_refl _), Int.mul_ediv_cancel _ (by omega)]
theorem rev_zero {a b c e f : Int} (h : ¬ revBad a b c e f) : ¬ revBad a b 0 e f ∧ revV a b 0 e f = 1 := by
  unfold revBad at h ⊢
  refine ⟨by omega, ?_⟩
  unfold revV
  rw [if_pos (by omega), Int.mul_zero, Int.zero_ediv]; rfl
def parS (a b c lf e f : Int) : Int × Int :=
  if (reviseS a b c e f).2 ≠ 0 then (0, (reviseS a b c e f).2) else if lf < 0 ∨ c < lf then (0, 2) else ((reviseS a b (c - lf) e f).1 - 1, 0)
theorem rev_less {a b c lf e f : Int} (h : (reviseS a b c e f).2 = 0) (h0 : 0 ≤ lf) (h1 : lf ≤ c) : (reviseS a b (c - lf) e f).2 = 0 := by
  have := rev_of0 h
  rw [rev_ok0 (by unfold revBad at this ⊢; omega)]
/-- What the levels are. -/
theorem par_zero {a b c e f : Int} (h : (reviseS a b c e f).2 = 0) : parS a b c 0 e f = ((reviseS a b c e f).1 - 1, 0) := by
  have hb := rev_of0 h
  unfold revBad at hb
  rw [parS, if_neg (fun hh => hh h), if_neg (by omega), Int.sub_zero]
theorem par_all {a b c e f : Int} (h : (reviseS a b c e f).2 = 0) : parS a b c c e f = (0, 0) := by
  have hb := rev_of0 h
  have hz := rev_zero hb
  unfold revBad at hb
  rw [parS, if_neg (fun hh => hh h), if_neg (by omega), Int.sub_self, rev_ok0 hz.1, hz.2]; rfl
theorem par_mono {a b c x y e f : Int} (h : (reviseS a b c e f).2 = 0) (hx : (parS a b c x e f).2 = 0) (hy : (parS a b c y e f).2 = 0) (hxy : x ≤ y) :
    (parS a b c y e f).1 ≤ (parS a b c x e f).1 ∧ (parS a b c x e f).1 ≤ (reviseS a b c e f).1 - 1 ∧ 0 ≤ (parS a b c y e f).1 := by
  have hb := rev_of0 h
  have key : ∀ z, (parS a b c z e f).2 = 0 → 0 ≤ z ∧ z ≤ c ∧ ¬ revBad a b (c - z) e f ∧ parS a b c z e f = (revV a b (c - z) e f - 1, 0) := by
    intro z hz
    by_cases hc : z < 0 ∨ c < z
    · rw [parS, if_neg (fun hh => hh h), if_pos hc] at hz; cases hz
    · have h2 : ¬ revBad a b (c - z) e f := by unfold revBad at hb ⊢; omega
      exact ⟨by omega, by omega, h2, by rw [parS, if_neg (fun hh => hh h), if_neg hc, rev_ok0 h2]⟩
  obtain ⟨x0, xc, xb, xe⟩ := key x hx
  obtain ⟨y0, yc, yb, ye⟩ := key y hy
  have hz := rev_zero hb
  rw [xe, ye, rev_ok0 hb]
  have m1 := rev_second yb xb (by omega)
  have m2 := rev_second xb hb (by omega)
  have m3 := rev_second hz.1 yb (by unfold revBad at yb; omega)
  rw [hz.2] at m3
  exact ⟨by show _ - 1 ≤ _ - 1; omega, by show _ - 1 ≤ _ - 1; omega, by show 0 ≤ _ - 1; omega⟩
end Go.Proofs.Ytaoondlakhocnaa
