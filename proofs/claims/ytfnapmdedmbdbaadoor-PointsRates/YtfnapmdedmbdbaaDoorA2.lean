/-
  Products of wide integers: laws in plain numbers.
-/
import Derived.Test.YtfnapmdedmbdbaaDoorA
set_option linter.unusedVariables false
namespace Go.Proofs.YtfnapmdedmbdbaaDoor
open Go Go.Am
theorem split_mul (m k : Int) : m * k = m / 18446744073709551616 * k * 18446744073709551616 + m % 18446744073709551616 * k := by
  have h := Int.mul_ediv_add_emod m 18446744073709551616
  generalize m / 18446744073709551616 = q at *
  generalize m % 18446744073709551616 = r at *
  subst h
  grind
theorem ab_or (a b : Int) : a * b = ab a * ab b ∨ a * b = -(ab a * ab b) := by
  have h := ab_mul a b
  split at h
  · right; omega
  · left; omega
theorem sg_mul (a b : Int) : sg (!(decide (a < 0) == decide (b < 0))) (ab a * ab b) = a * b := ab_mul a b
theorem ab_W {x : Int} (h : Fw x) : ab x ≤ 170141183460469231731687303715884105728 := by
  unfold Fw at h
  unfold ab
  split <;> omega
end Go.Proofs.YtfnapmdedmbdbaaDoor
