/-
  The points after results: memory, and what the statement asks of the answers.
-/
import Derived.Test.YtdicnojnkbmdlaaSH
set_option linter.unusedVariables false
namespace Go.Proofs.Ytdicnojnkbmdlaa
open Go Go.Am
theorem most_of {P : List Int} {L : List Pr} {t : Int} (h : (mostS P L t).2 = 0) : ROK P L ∧ 0 ≤ t ∧ t < P.length := by
  unfold mostS at h
  split at h
  · rename_i h1; exact absurd h h1
  split at h
  · cases h
  rename_i h1 h2
  exact ⟨rok_of (Decidable.not_not.mp h1), by omega, by omega⟩
theorem nil40 (n : Nat) (l : List AV) (h : 0 < n) : binV Try.prog .eql 40 (.sl n l) (.v (.slice none 0 0)) = some (.v (.bool false)) := by
  simp only [binV, tk40, nilB]
  rw [if_pos h]
  rfl
theorem bs40e (lim : Nat) (H : Heap) (ev : Operand → AV) : effV Try.prog lim (.buildSlice 40 0 #[]) ev H = some (.own 1 H.length 0 0, H ++ [some []]) := by
  simp only [effV, tk40, ty3]
  rw [if_pos ⟨rfl, by decide, by decide⟩]
  rfl
theorem app40e {lim : Nat} {H : Heap} {b : Nat} {l : List Int} (hb : hget H b = some []) (hl : lim ≤ b) (hm : l.length ≤ 1000000) :
    ∃ H', appendV Try.prog lim H 40 (.own 1 b 0 0) (intsAV l) = some (.own 1 H.length 0 l.length, H') ∧ MGrew H b H' (l.map AV.i) := by
  refine ⟨_, ?_, MGrew.of _ _ _⟩
  simp only [appendV, tk40, ty3, srcCells, hb, Nat.mul_one, List.length_map]
  rw [if_pos (Nat.le_refl _)]
  simp only
  rw [if_pos ⟨rfl, by decide, by rw [List.take_of_length_le (by simp)]; induction l with | nil => rfl | cons x l ih => rw [List.map_cons, List.all_cons, ih (by simp at hm; omega)]; rfl⟩]
  simp only [List.drop_nil, List.take_nil, List.nil_append, Nat.zero_add]
  rw [if_pos ⟨hl, trivial, by simp, by omega, by omega⟩, List.take_of_length_le (by simp)]
theorem playA_ok {P : List Int} {L : List Pr} {R : List Int} (h1 : rchkS P L = 0) (h2 : R.length = L.length) (h3 : resOK R) : playA P L R = intsAV (playN P L R L.length) ∧ playE P L R = 0 := by
  constructor
  · rw [playA, if_neg (by rintro (h | h | h); exact h h1; exact h h2; exact h h3)]
  · rw [playE, if_neg (fun hh => hh h1), if_neg (fun hh => hh h2), if_neg (fun hh => hh h3)]
theorem playA_1 {P : List Int} {L : List Pr} {R : List Int} (h1 : rchkS P L ≠ 0) : playA P L R = nilP ∧ playE P L R = rchkS P L := ⟨by rw [playA, if_pos (.inl h1)], by rw [playE, if_pos h1]⟩
theorem playA_2 {P : List Int} {L : List Pr} {R : List Int} (h1 : rchkS P L = 0) (h2 : R.length ≠ L.length) : playA P L R = nilP ∧ playE P L R = 1 := ⟨by rw [playA, if_pos (.inr (.inl h2))], by rw [playE, if_neg (fun hh => hh h1), if_pos h2]⟩
theorem playA_3 {P : List Int} {L : List Pr} {R : List Int} (h1 : rchkS P L = 0) (h2 : R.length = L.length) (h3 : ¬ resOK R) : playA P L R = nilP ∧ playE P L R = 2 :=
  ⟨by rw [playA, if_pos (.inr (.inr h3))], by rw [playE, if_neg (fun hh => hh h1), if_neg (fun hh => hh h2), if_pos h3]⟩
end Go.Proofs.Ytdicnojnkbmdlaa
