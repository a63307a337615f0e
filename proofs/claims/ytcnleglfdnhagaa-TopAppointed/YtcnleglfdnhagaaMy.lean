/-
  Copies, in the machine's memory.
-/
import Derived.Test.YtcnleglfdnhagaaWB
set_option linter.unusedVariables false
set_option linter.unusedSimpArgs false
namespace Go.Proofs.Ytcnleglfdnhagaa
open Go Go.Am
/-- A fresh row. -/
def ClW (H H' : Heap) (r : AV) (k : List AV) (n : Nat) : Prop := ∃ bl, r = .own 1 bl 0 n ∧ H.length ≤ bl ∧ hget H' bl = some k ∧ (∀ c, c < H.length → hget H' c = hget H c) ∧ H.length ≤ H'.length
theorem bs62e (lim : Nat) (H : Heap) (ev : Operand → AV) : effV Try.prog lim (.buildSlice 62 0 #[]) ev H = some (.own 1 H.length 0 0, H ++ [some []]) := by
  simp only [effV, tk62, ty4]
  rw [if_pos ⟨rfl, by decide, by decide⟩]
  rfl
theorem bools_st (c : List Bool) : (c.map bv).all storable = true := by
  induction c with
  | nil => rfl
  | cons x r ih => rw [List.map_cons, List.all_cons, ih]; rfl
theorem app62g {lim : Nat} {H : Heap} {b b' : Nat} {c : List Bool} (hs : hget H b' = some (c.map bv)) (hb : hget H b = some []) (hl : lim ≤ b) (hm : c.length ≤ 1000000) :
    ∃ H', appendV Try.prog lim H 62 (.own 1 b 0 0) (.own 1 b' 0 c.length) = some (.own 1 H.length 0 c.length, H') ∧ MGrew H b H' (c.map bv) := by
  have src : srcCells H 1 (.own 1 b' 0 c.length) = some (c.length, c.map bv) := by
    simp only [srcCells, hs, Nat.mul_one, List.length_map, Nat.zero_add, List.drop_zero]
    rw [if_pos (Nat.le_refl _), List.take_of_length_le (by simp)]
  refine ⟨_, ?_, MGrew.of _ _ _⟩
  simp only [appendV, tk62, ty4, src, hb]
  rw [if_pos ⟨rfl, by decide, bools_st c⟩]
  simp only [List.drop_nil, List.take_nil, List.nil_append, Nat.zero_add]
  rw [if_pos ⟨hl, trivial, by simp, by omega, by omega⟩]
theorem eqn25 (b o n : Nat) (h : 0 < n) : binV Try.prog .eql 25 (.own 1 b o n) (.v (.slice none 0 0)) = some (.v (.bool false)) := by
  simp only [binV, tk25, nilB, if_pos h]; rfl
theorem eqn62 (b o n : Nat) (h : 0 < n) : binV Try.prog .eql 62 (.own 1 b o n) (.v (.slice none 0 0)) = some (.v (.bool false)) := by
  simp only [binV, tk62, nilB, if_pos h]; rfl
attribute [go_sem] eqn25 eqn62
/-- What taking an umpire leaves. -/
structure TkW (H H' : Heap) (bn bu : Nat) (need used : List Int) : Prop where
  hn : hget H' bn = some (need.map AV.i)
  hu : hget H' bu = some (used.map AV.i)
  keep : ∀ c, c ≠ bu → c ≠ bn → hget H' c = hget H c
  len : H'.length = H.length
end Go.Proofs.Ytcnleglfdnhagaa
