/-
  Two equal lists are found equal.
-/
import Derived.Test.YtdicnojnkbmdlaaSJ
set_option linter.unusedVariables false
namespace Go.Proofs.Ytdicnojnkbmdlaa
open Go Go.Am
theorem ints_play (lim : Nat) (H : Heap) (P : List Int) (L : List Pr) (R : List Int) : ACall sig lim 36 [playA P L R, playA P L R] H fun r H' => r = .v (.bool true) ∧ H' = H := by
  by_cases h : rchkS P L ≠ 0 ∨ R.length ≠ L.length ∨ ¬ resOK R
  · rw [playA, if_pos h]; exact ints_nil lim H
  · rw [playA, if_neg h]
    have h1 : rchkS P L = 0 := Decidable.not_not.mp fun hh => h (.inl hh)
    have g := rok_of h1
    have h2 := g.n20
    have h3 := play_len P L R L.length
    exact ints_ok lim H _ (by omega)
end Go.Proofs.Ytdicnojnkbmdlaa
