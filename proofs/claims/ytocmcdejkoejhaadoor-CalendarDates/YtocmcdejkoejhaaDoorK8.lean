/-
  The date of a day: which one it is, that there is one alone, and which one comes next. Plain definitions and laws.
-/
import Derived.Test.YtocmcdejkoejhaaDoorK
set_option linter.unusedVariables false
namespace Go.Proofs.YtocmcdejkoejhaaDoor
open Go Go.Am
theorem daysS_pos (y : Int) : 365 ≤ daysS y ∧ daysS y ≤ 366 := by
  unfold daysS
  split <;> omega
theorem lenS_pos (y m : Int) : 28 ≤ lenS y m ∧ lenS y m ≤ 31 := by
  unfold lenS
  split
  · split <;> omega
  · split <;> omega
theorem yS_mono {a : Nat} : ∀ {b : Nat}, a ≤ b → yS a ≤ yS b
  | 0, h => by rw [show a = 0 by omega]; exact Int.le_refl _
  | b + 1, h => by
    by_cases hb : a = b + 1
    · subst hb; exact Int.le_refl _
    · have h1 := yS_mono (a := a) (b := b) (by omega)
      have h2 := daysS_pos (1900 + (b : Int))
      rw [yS]
      omega
theorem mS_mono (y : Int) {a : Nat} : ∀ {b : Nat}, a ≤ b → mS y a ≤ mS y b
  | 0, h => by rw [show a = 0 by omega]; exact Int.le_refl _
  | b + 1, h => by
    by_cases hb : a = b + 1
    · subst hb; exact Int.le_refl _
    · have h1 := mS_mono y (a := a) (b := b) (by omega)
      have h2 := lenS_pos y (1 + (b : Int))
      rw [mS]
      omega
theorem mS_year (y : Int) : mS y 12 = daysS y := by
  simp only [mS]
  unfold daysS
  have h2 : lenS y (1 + ((1 : Nat) : Int)) = if leapS y = true then 29 else 28 := by rw [lenS, if_pos (by decide)]
  rw [h2]
  simp only [lenS]
  by_cases h : leapS y = true
  · rw [if_pos h]; simp [h]
  · rw [if_neg h]; simp [h]
theorem yS_all : yS 300 = 109573 := by decide +kernel
theorem yS_last : yS 299 + mS 2199 11 + 30 = 109572 := by decide +kernel

def DateR (n y m d : Int) : Prop := ∃ u v : Nat, u < 300 ∧ v < 12 ∧ y = 1900 + (u : Int) ∧ m = 1 + (v : Int) ∧ 1 ≤ d ∧ d ≤ lenS y m ∧ n = yS u + mS y v + (d - 1)
theorem year_room {n y m d : Int} {u v : Nat} (hv : v < 12) (hy : y = 1900 + (u : Int)) (hm : m = 1 + (v : Int)) (h1 : 1 ≤ d) (h2 : d ≤ lenS y m) (hn : n = yS u + mS y v + (d - 1)) : yS u ≤ n ∧ n < yS (u + 1) := by
  have a := mS_rng y v
  have b : mS y (v + 1) ≤ mS y 12 := mS_mono y (by omega)
  rw [mS, mS_year] at b
  subst hm
  rw [yS, ← hy]
  omega
theorem month_room {n y m d : Int} {u v : Nat} (hm : m = 1 + (v : Int)) (h1 : 1 ≤ d) (h2 : d ≤ lenS y m) (hn : n = yS u + mS y v + (d - 1)) : yS u + mS y v ≤ n ∧ n < yS u + mS y (v + 1) := by
  subst hm
  rw [mS]
  omega
theorem dateR_uniq {n y m d y' m' d' : Int} (h : DateR n y m d) (h' : DateR n y' m' d') : y = y' ∧ m = m' ∧ d = d' := by
  obtain ⟨u, v, hu, hv, hy, hm, h1, h2, hn⟩ := h
  obtain ⟨u', v', hu', hv', hy', hm', h1', h2', hn'⟩ := h'
  have a := year_room hv hy hm h1 h2 hn
  have b := year_room hv' hy' hm' h1' h2' hn'
  have huu : u = u' := by
    by_cases hlt : u < u'
    · have := yS_mono (a := u + 1) (b := u') (by omega); omega
    by_cases hgt : u' < u
    · have := yS_mono (a := u' + 1) (b := u) (by omega); omega
    omega
  subst huu
  obtain rfl : y = y' := by omega
  have c := month_room hm h1 h2 hn
  have e := month_room hm' h1' h2' hn'
  have hvv : v = v' := by
    by_cases hlt : v < v'
    · have := mS_mono y (a := v + 1) (b := v') (by omega); omega
    by_cases hgt : v' < v
    · have := mS_mono y (a := v' + 1) (b := v) (by omega); omega
    omega
  subst hvv
  omega
open Classical in
noncomputable def dateS (n : Int) : Int × Int × Int := if h : ∃ p : Int × Int × Int, DateR n p.1 p.2.1 p.2.2 then Classical.choose h else (0, 0, 0)
theorem dateS_eq {n y m d : Int} (h : DateR n y m d) : dateS n = (y, m, d) := by
  have hx : ∃ p : Int × Int × Int, DateR n p.1 p.2.1 p.2.2 := ⟨(y, m, d), h⟩
  unfold dateS
  rw [dif_pos hx]
  have hs := Classical.choose_spec hx
  obtain ⟨a, b, c⟩ := dateR_uniq hs h
  exact Prod.ext a (Prod.ext b c)
theorem dateS_R {n y m d : Int} (h : DateR n y m d) : DateR n (dateS n).1 (dateS n).2.1 (dateS n).2.2 := by rw [dateS_eq h]; exact h
/-- Day leads back. -/
theorem date_day {n y m d : Int} (h : DateR n y m d) : dayS y m d = (n, 0) := by
  obtain ⟨u, v, hu, hv, hy, hm, h1, h2, hn⟩ := h
  rw [dayS, if_neg (by omega), show (y - 1900).toNat = u by omega, show (m - 1).toNat = v by omega]
  congr 1
  omega
theorem date_next {n y m d y' m' d' : Int} (h : DateR n y m d) (h' : DateR (n + 1) y' m' d') : (y' = y ∧ m' = m ∧ d' = d + 1) ∨ (y' = y ∧ m' = m + 1 ∧ d' = 1 ∧ 28 ≤ d) ∨ (y' = y + 1 ∧ m' = 1 ∧ d' = 1 ∧ m = 12 ∧ d = 31) := by
  obtain ⟨u, v, hu, hv, hy, hm, h1, h2, hn⟩ := h
  by_cases hd : d < lenS y m
  · obtain ⟨a, b, c⟩ := dateR_uniq h' (⟨u, v, hu, hv, hy, hm, by omega, by omega, by omega⟩ : DateR (n + 1) y m (d + 1))
    exact .inl ⟨a, b, c⟩
  · have hl := lenS_pos y m
    by_cases hv2 : v + 1 < 12
    · have hl2 := lenS_pos y (m + 1)
      obtain ⟨a, b, c⟩ := dateR_uniq h' (⟨u, v + 1, hu, hv2, hy, by omega, by omega, by omega, by rw [mS, ← hm]; omega⟩ : DateR (n + 1) y (m + 1) 1)
      exact .inr (.inl ⟨a, b, c, by omega⟩)
    · obtain rfl : v = 11 := by omega
      have hm12 : m = 12 := by omega
      subst hm12
      have hl12 : lenS y 12 = 31 := by rw [lenS, if_neg (by decide), if_neg (by decide)]
      have hyr := mS_year y
      rw [mS, show (1 : Int) + ((11 : Nat) : Int) = 12 by decide, hl12] at hyr
      have hn1 : n + 1 = yS (u + 1) := by rw [yS, ← hy]; omega
      obtain ⟨u', v', hu', hv', hy', hm', h1', h2', hn'⟩ := id h'
      have hr := year_room hv' hy' hm' h1' h2' hn'
      have hu2 : u + 1 < 300 := by
        by_cases hlt : u + 1 < 300
        · exact hlt
        · have := yS_mono (a := u' + 1) (b := u + 1) (by omega); omega
      have hl2 := lenS_pos (y + 1) 1
      obtain ⟨a, b, c⟩ := dateR_uniq h' (⟨u + 1, 0, hu2, by omega, by omega, by omega, by omega, by omega, by rw [mS]; omega⟩ : DateR (n + 1) (y + 1) 1 1)
      exact .inr (.inr ⟨a, b, c, rfl, by omega⟩)
theorem date_last : DateR 109572 2199 12 31 := ⟨299, 11, by decide, by decide, by decide, by decide, by decide, by decide, by have := yS_last; omega⟩
theorem date_range {n y m d : Int} (h : DateR n y m d) : (1900 ≤ y ∧ y ≤ 2199) ∧ (1 ≤ m ∧ m ≤ 12) ∧ 1 ≤ d ∧ d ≤ 31 := by
  obtain ⟨u, v, hu, hv, hy, hm, h1, h2, hn⟩ := h
  have := lenS_pos y m
  omega
/-! ### What the loops keep -/
theorem yL_next {n : Int} {u : Nat} (hn : n ≤ 109572) (h : yS (u + 1) ≤ n) : u + 1 < 300 := by
  by_cases hlt : u + 1 < 300
  · exact hlt
  · have := yS_mono (a := 300) (b := u + 1) (by omega)
    have := yS_all
    omega
theorem mL_next {x y : Int} {v : Nat} (hx : x < daysS y) (h : mS y (v + 1) ≤ x) : v + 1 < 12 := by
  by_cases hlt : v + 1 < 12
  · exact hlt
  · have := mS_mono y (a := 12) (b := v + 1) (by omega)
    rw [mS_year] at this
    omega
noncomputable def dtS (n : Int) : (Int × Int × Int) × Int := if n < 0 ∨ 109572 < n then ((0, 0, 0), 2) else (dateS n, 0)
end Go.Proofs.YtocmcdejkoejhaaDoor
