/-
  Visits as cells.
-/
import Derived.Test.YtocmcdejkoejhaaDoorK4
set_option linter.unusedVariables false
namespace Go.Proofs.YtocmcdejkoejhaaDoor
open Go Go.Am
theorem ld_vi (l : List Vi) (u : Nat) (h : u < l.length) : partL { size := 2, bytes := 16, agg := true, k := TyK.struct [(0, 2), (1, 3)], zero := some [.int .i64 0, .int .i64 0] } (flatV l) (u * 2) = some (.agg (viC (gt l u))) := by
  rw [pl57 _ _ (by rw [flatV_len]; omega)]
  congr 2
  apply List.ext_getElem?
  intro j
  rw [List.getElem?_take, List.getElem?_drop]
  by_cases hj : j < 2
  · rw [if_pos hj, flatV_get l u j h hj]
  · rw [if_neg hj, List.getElem?_eq_none (by simp; omega)]
theorem flatV0 (l : List Vi) (u : Nat) (h : u < l.length) : (flatV l)[u * 2]? = some (AV.i (gt l u).d) := flatV_get l u 0 h (by omega)
theorem flatV1 (l : List Vi) (u : Nat) (h : u < l.length) : (flatV l)[u * 2 + 1]? = some (AV.i (gt l u).g) := flatV_get l u 1 h (by omega)
attribute [go_sem] ld_vi flatV0 flatV1
theorem vi_all {t : List (List Int)} {l : List Vi} (h : ferr (fun i => viE t.length (gt l i)) l.length = 0) : ∀ i, i < l.length → (0 ≤ (gt l i).d ∧ (gt l i).d ≤ 109572) ∧ 0 ≤ (gt l i).g ∧ (gt l i).g < t.length := fun i hi => by
  have := ferr_all h i hi
  simp only [viE] at this
  split at this
  · cases this
  split at this
  · cases this
  omega
end Go.Proofs.YtocmcdejkoejhaaDoor
