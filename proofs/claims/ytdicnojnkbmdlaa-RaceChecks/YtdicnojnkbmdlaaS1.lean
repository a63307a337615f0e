/-
  Where a pair stands in a list of pairs.
-/
import Derived.Test.YtdicnojnkbmdlaaSE
set_option linter.unusedVariables false
namespace Go.Proofs.Ytdicnojnkbmdlaa
open Go Go.Am
theorem index_any (lim lo : Nat) (H : Heap) (o : AV) (m : List Pr) (p : Pr) (hO : OutP lo H o m) (hm : m.length ≤ 1000) :
    ACall sig lim 71 [o, .agg (prC p)] H fun r H' => (∃ k : Int, r = AV.i k ∧ ((0 ≤ k ∧ k < m.length ∧ gt m k.toNat = p) ∨ (k = -1 ∧ p ∉ m))) ∧ H' = H := by
  rcases hO with ⟨rfl, rfl⟩ | ⟨h0, b, rfl, h2, h3⟩
  · refine ACall_mono (index_nil lim H p) ?_
    rintro r H' ⟨⟨k, rfl, rfl⟩, rfl⟩
    exact ⟨⟨_, rfl, .inr ⟨rfl, by simp⟩⟩, rfl⟩
  · exact index_ok lim H b m p h3 hm
end Go.Proofs.Ytdicnojnkbmdlaa
