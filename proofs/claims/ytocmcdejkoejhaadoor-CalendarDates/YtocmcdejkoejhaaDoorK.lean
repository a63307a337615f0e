/-
  Days and dates: what the calendar's functions give. Plain definitions.
-/
import Derived.Test.YtocmcdejkoejhaaDoorTy
set_option linter.unusedVariables false
namespace Go.Proofs.YtocmcdejkoejhaaDoor
open Go Go.Am
def leapS (y : Int) : Bool := decide (y.tmod 4 = 0) && (decide (¬ y.tmod 100 = 0) || decide (y.tmod 400 = 0))
def lenS (y m : Int) : Int := if m = 2 then (if leapS y = true then 29 else 28) else if m = 4 ∨ m = 6 ∨ m = 9 ∨ m = 11 then 30 else 31
def daysS (y : Int) : Int := if leapS y = true then 366 else 365
def yS : Nat → Int
  | 0 => 0
  | u + 1 => yS u + daysS (1900 + (u : Int))
def mS (y : Int) : Nat → Int
  | 0 => 0
  | u + 1 => mS y u + lenS y (1 + (u : Int))
def dayS (y m d : Int) : Int × Int := if y < 1900 ∨ 2199 < y ∨ m < 1 ∨ 12 < m ∨ d < 1 ∨ lenS y m < d then (0, 2) else (d - 1 + yS (y - 1900).toNat + mS y (m - 1).toNat, 0)
def wkS (d : Int) : Int × Int := if d < 0 ∨ 109572 < d then (0, 2) else (d % 7 + 1, 0)
theorem lenS_rng (y m : Int) : 0 ≤ lenS y m ∧ lenS y m ≤ 31 := by
  unfold lenS
  split
  · split <;> omega
  · split <;> omega
theorem daysS_rng (y : Int) : 0 ≤ daysS y ∧ daysS y ≤ 366 := by
  unfold daysS
  split <;> omega
theorem yS_rng : ∀ u : Nat, 0 ≤ yS u ∧ yS u ≤ 366 * (u : Int)
  | 0 => by simp [yS]
  | u + 1 => by
    have := yS_rng u
    have := daysS_rng (1900 + (u : Int))
    rw [yS]
    omega
theorem mS_rng (y : Int) : ∀ u : Nat, 0 ≤ mS y u ∧ mS y u ≤ 31 * (u : Int)
  | 0 => by simp [mS]
  | u + 1 => by
    have := mS_rng y u
    have := lenS_rng y (1 + (u : Int))
    rw [mS]
    omega
end Go.Proofs.YtocmcdejkoejhaaDoor
