/-
  The table of the reference, as it is filled from above.
-/
import Derived.Test.YtmkalakojfpfgaaQ4
set_option linter.unusedVariables false
namespace Go.Proofs.Ytmkalakojfpfgaa
open Go Go.Am
/-- What stands above a place is right. -/
def Above (rows : Tb) (q : Int) (K : List Int) (k : Nat) : Prop := ∀ i, k ≤ i → i < K.length → gt K i = potK rows q (gt rows 0).length i
theorem above_at {rows : Tb} {q : Int} {K : List Int} {z : Nat} {v : Int} (hK : (K.length : Int) = numS q (gt rows 0).length) (h : Above rows q K (z + 1)) (hz : z < K.length) (hq : 0 ≤ q) {c : List Int} {la : Int} (st : StOK q (gt rows 0).length c la) (hlt : (z : Int) < idxS q (gt rows 0).length c la) :
    gt (K.set z v) (idxS q (gt rows 0).length c la).toNat = pot rows q (gt rows 0).length c la := by
  have hi := idx_rng hq st
  rw [gt_set _ _ _ _ hz, if_neg (by omega), h _ (by omega) (by omega), Int.toNat_of_nonneg hi.1, potK_idx hq st]
theorem above_set {rows : Tb} {q : Int} {K : List Int} {z : Nat} {v : Int} (h : Above rows q K (z + 1)) (hz : z < K.length) (hv : v = potK rows q (gt rows 0).length z) : Above rows q (K.set z v) z := by
  intro i hi hl
  rw [List.length_set] at hl
  rw [gt_set _ _ _ _ hz]
  by_cases e : z = i
  · rw [if_pos e, hv, e]
  · rw [if_neg e]; exact h i (by omega) hl
end Go.Proofs.Ytmkalakojfpfgaa
