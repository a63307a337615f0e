/-
  The pairs of the reference, and how often each one occurs: the memory that holds them.
-/
import Derived.Test.YtdicnojnkbmdlaaSE
set_option linter.unusedVariables false
namespace Go.Proofs.Ytdicnojnkbmdlaa
open Go Go.Am
/-- Two lists as they are gathered: nothing yet, or a block each. -/
def OutPN (lo : Nat) (H : Heap) (o1 o2 : AV) (l : List Pr) (N : List Int) : Prop :=
  (l = [] ∧ N = [] ∧ o1 = nilP ∧ o2 = nilP) ∨ (l ≠ [] ∧ N.length = l.length ∧ ∃ b1 b2, o1 = .own 2 b1 0 l.length ∧ o2 = .own 1 b2 0 l.length ∧ lo ≤ b1 ∧ lo ≤ b2 ∧ b1 ≠ b2 ∧ hget H b1 = some (flatP l) ∧ hget H b2 = some (N.map AV.i))
theorem OutPN.mono {lo : Nat} {H H' : Heap} {o1 o2 : AV} {l : List Pr} {N : List Int} (h : OutPN lo H o1 o2 l N) (hh : ∀ b, lo ≤ b → ∀ k, hget H b = some k → hget H' b = some k) : OutPN lo H' o1 o2 l N := by
  rcases h with h | ⟨h0, h1, b1, b2, h2, h3, h4, h5, h6, h7, h8⟩
  · exact .inl h
  · exact .inr ⟨h0, h1, b1, b2, h2, h3, h4, h5, h6, hh _ h4 _ h7, hh _ h5 _ h8⟩
theorem OutPN.len {lo : Nat} {H : Heap} {o1 o2 : AV} {l : List Pr} {N : List Int} (h : OutPN lo H o1 o2 l N) : lenV (tyOf Try.prog 41) o1 = some (AV.i (l.length : Nat)) := by
  rcases h with ⟨rfl, _, rfl, _⟩ | ⟨h0, h1, b1, b2, rfl, _⟩
  · simp only [lenV, ty41, kOf, Option.map_some]; rfl
  · simp only [lenV, ty41, kOf, Option.map_some]
theorem bs40' (lim : Nat) (H : Heap) (x : Operand) (ev : Operand → AV) (v : Int) (h : ev x = AV.i v) :
    effV Try.prog lim (.buildSlice 40 1 #[(0, x)]) ev H = some (.own 1 H.length 0 1, H ++ [some [AV.i v]]) := by
  simp only [effV, tk40, ty3]
  rw [if_pos ⟨rfl, by decide, by decide⟩]
  simp only [List.map_cons, List.map_nil, h]
  rfl
/-- The first append: the pairs. -/
theorem pn_append1 {lim lo : Nat} {H : Heap} {o1 o2 : AV} {l : List Pr} {N : List Int} {c : Pr} {b' : Nat} (h : OutPN lo H o1 o2 l N) (hc : hget H b' = some (prC c)) (hl : lim ≤ lo) (hlo : lo ≤ H.length) (hw : l.length ≤ 100000) :
    ∃ b, lo ≤ b ∧ (∀ b2, o2 = .own 1 b2 0 l.length → b ≠ b2) ∧ ∃ H', appendV Try.prog lim H 41 o1 (.own 2 b' 0 1) = some (.own 2 H.length 0 (l.length + 1), H') ∧ MGrew H b H' (flatP (l ++ [c])) := by
  rcases h with ⟨rfl, rfl, rfl, rfl⟩ | ⟨h0, h1, b1, b2, rfl, rfl, h4, h5, h6, h7, h8⟩
  · obtain ⟨b, q1, _, q3⟩ := outP_append (lim := lim) (lo := lo) (hi := 0) (H := H) (o := nilP) (w := []) (.inl ⟨rfl, rfl⟩) (fun b hb => by cases hb) hc hl hlo (by simp)
    exact ⟨b, q1, fun b2 hb => (by cases hb), q3⟩
  · refine ⟨b1, h4, fun b2' hb => by cases hb; exact h6, _, ?_, MGrew.of _ _ _⟩
    simp only [appendV, tk41, ty58, srcCells, hc, h7]
    rw [if_pos (by simp)]
    simp only [List.length_cons, List.length_nil]
    rw [if_pos ⟨trivial, by decide, rfl⟩]
    simp only [List.drop_zero, flatP_len]
    rw [if_pos ⟨by omega, trivial, by omega, by omega, by omega⟩]
    rw [List.take_of_length_le (by rw [flatP_len]; omega), flatP_app]
    rfl
/-- The numbers, while the pairs are one ahead. -/
def OutN (lo : Nat) (H : Heap) (o2 : AV) (n : Nat) (N : List Int) : Prop := (n = 0 ∧ N = [] ∧ o2 = nilP) ∨ (N.length = n ∧ ∃ b2, o2 = .own 1 b2 0 n ∧ lo ≤ b2 ∧ hget H b2 = some (N.map AV.i))
theorem OutPN.num {lo : Nat} {H : Heap} {o1 o2 : AV} {l : List Pr} {N : List Int} (h : OutPN lo H o1 o2 l N) : OutN lo H o2 l.length N := by
  rcases h with ⟨rfl, rfl, rfl, rfl⟩ | ⟨h0, h1, b1, b2, rfl, rfl, h4, h5, h6, h7, h8⟩
  · exact .inl ⟨rfl, rfl, rfl⟩
  · exact .inr ⟨h1, b2, rfl, h5, h8⟩
theorem OutN.keep {lo n : Nat} {H H' : Heap} {o2 : AV} {N : List Int} (h : OutN lo H o2 n N) (hh : ∀ b2 k, o2 = .own 1 b2 0 n → hget H b2 = some k → hget H' b2 = some k) : OutN lo H' o2 n N := by
  rcases h with h | ⟨h1, b2, h2, h3, h4⟩
  · exact .inl h
  · exact .inr ⟨h1, b2, h2, h3, hh _ _ h2 h4⟩
theorem pn_append2 {lim lo n p : Nat} {H : Heap} {o2 : AV} {N : List Int} {v : Int} {b' : Nat} (h : OutN lo H o2 n N) (hp : ∀ b2, o2 = .own 1 b2 0 n → p ≠ b2) (hpl : p < H.length) (hc : hget H b' = some [AV.i v]) (hl : lim ≤ lo) (hlo : lo ≤ H.length) (hw : n ≤ 100000) :
    ∃ b, lo ≤ b ∧ p ≠ b ∧ ∃ H', appendV Try.prog lim H 40 o2 (.own 1 b' 0 1) = some (.own 1 H.length 0 (n + 1), H') ∧ MGrew H b H' ((N ++ [v]).map AV.i) := by
  rcases h with ⟨rfl, rfl, rfl⟩ | ⟨h1, b2, rfl, h3, h4⟩
  · refine ⟨H.length, hlo, by omega, _, ?_, MGrew.ofNew _ (MNew.of _ _)⟩
    simp only [appendV, tk40, ty3, srcCells, hc]
    rw [if_pos (by simp)]
    simp only [List.length_cons, List.length_nil]
    rw [if_pos ⟨trivial, by decide, rfl⟩]
    rw [if_pos ⟨by omega, by omega⟩]
    rfl
  · refine ⟨b2, h3, hp b2 rfl, _, ?_, MGrew.of _ _ _⟩
    simp only [appendV, tk40, ty3, srcCells, hc, h4]
    rw [if_pos (by simp)]
    simp only [List.length_cons, List.length_nil]
    rw [if_pos ⟨trivial, by decide, rfl⟩]
    simp only [List.drop_zero, List.length_map, Nat.mul_one]
    rw [if_pos ⟨by omega, trivial, by omega, by omega, by omega⟩]
    rw [List.take_of_length_le (by simp; omega), List.map_append]
    rfl
def refA (L : List Pr) : AV := if refN L L.length = [] then nilP else prsAV (refN L L.length)
theorem refA_len (L : List Pr) : lenV (tyOf Try.prog 41) (refA L) = some (AV.i ((pairsN L L.length).length : Nat)) := by
  rw [← ref_len]
  unfold refA
  split
  · rename_i h; rw [h]; simp only [lenV, ty41, kOf, Option.map_some]; rfl
  · simp only [lenV, ty41, kOf, Option.map_some]
theorem OutPN.frz {H : Heap} {base d : Nat} {o1 o2 : AV} {l : List Pr} {N : List Int} (h : OutPN base H o1 o2 l N) : Go.Am.frz H base (d + 2) o1 = (if l = [] then nilP else prsAV l) ∧ Go.Am.frz H base (d + 2) o2 = (if N = [] then nilP else intsAV N) := by
  rcases h with ⟨rfl, rfl, rfl, rfl⟩ | ⟨h0, h1, b1, b2, rfl, rfl, h4, h5, h6, h7, h8⟩
  · exact ⟨rfl, rfl⟩
  · have hN : N ≠ [] := fun hh => by subst hh; exact h0 (List.length_eq_zero_iff.1 h1.symm)
    rw [frz_own (by omega) h7, List.drop_zero, frz_prs, frz_own (by omega) h8, List.drop_zero, frz_ints, if_neg h0, if_neg hN]
    exact ⟨rfl, by show AV.sl l.length _ = AV.sl N.length _; rw [h1]⟩
theorem OutPN.lo {lo lo' : Nat} {H : Heap} {o1 o2 : AV} {l : List Pr} {N : List Int} (h : OutPN lo H o1 o2 l N) (hl : lo' ≤ lo) : OutPN lo' H o1 o2 l N := by
  rcases h with h | ⟨h0, h1, b1, b2, h2, h3, h4, h5, h6⟩
  · exact .inl h
  · exact .inr ⟨h0, h1, b1, b2, h2, h3, by omega, by omega, h6⟩
theorem pn_new {lo p m b3 : Nat} {H H' : Heap} {o2 : AV} {L : List Pr} {N : List Int} {u : Nat} (hmn : ¬ norm (gt L u) ∈ (refN L u).map norm) (qq : hget H' p = some (flatP (refN L u ++ [gt L u]))) (qz : hget H' m = some ((N ++ [1]).map AV.i)) (hN : OutN lo H o2 (refN L u).length N) (hp : p ≠ b3) (hlo : lo ≤ p) (hlm : lo ≤ m) {k1 k2 : Nat} (e1 : k1 = (refN L u).length + 1) (e2 : k2 = (refN L u).length + 1) (hpm : p ≠ m := by omega) :
    OutPN lo H' (.own 2 p 0 k1) (.own 1 m 0 k2) (refN L (u + 1)) (N ++ [1]) := by
  subst e1 e2
  rw [refN, if_neg hmn]
  have hl : N.length = (refN L u).length := by
    rcases hN with ⟨h1, h2, _⟩ | ⟨h1, _⟩
    · rw [h2, h1]; rfl
    · exact h1
  exact .inr ⟨by simp, by simp [hl], p, m, by simp, by simp, hlo, hlm, hpm, qq, qz⟩
theorem pn_old {lo : Nat} {H : Heap} {o1 o2 : AV} {L : List Pr} {N : List Int} {u : Nat} (h : OutPN lo H o1 o2 (refN L u) N) (hn : norm (gt L u) ∈ (refN L u).map norm) : OutPN lo H o1 o2 (refN L (u + 1)) N := by
  rw [refN, if_pos hn]; exact h
theorem mem_norm {l : List Pr} {p : Pr} : norm p ∈ l.map norm ↔ ∃ i, i < l.length ∧ norm (gt l i) = norm p := by
  rw [List.mem_map]
  constructor
  · rintro ⟨q, hq, he⟩
    obtain ⟨i, hi, h⟩ := List.mem_iff_getElem.1 hq
    exact ⟨i, hi, by rw [gt_eq _ _ hi, h, he]⟩
  · rintro ⟨i, hi, he⟩
    exact ⟨gt l i, by rw [gt_eq _ _ hi]; exact List.getElem_mem _, he⟩
theorem gt_app' {α : Type} [Inhabited α] (l : List α) (x : α) (i : Nat) : gt (l ++ [x]) i = if i < l.length then gt l i else if i = l.length then x else default := by
  simp only [gt, List.getD_eq_getElem?_getD, List.getElem?_append]
  by_cases h : i < l.length
  · simp [h]
  · rw [if_neg h, if_neg h]
    by_cases h2 : i = l.length
    · simp [h2]
    · rw [if_neg h2, List.getElem?_eq_none (by simp; omega)]; rfl
end Go.Proofs.Ytdicnojnkbmdlaa
