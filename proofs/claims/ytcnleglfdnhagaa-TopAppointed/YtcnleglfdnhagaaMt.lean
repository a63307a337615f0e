/-
  The queue of the matches that lack, in the machine's memory.
-/
import Derived.Test.YtcnleglfdnhagaaWF
set_option linter.unusedVariables false
set_option linter.unusedSimpArgs false
namespace Go.Proofs.Ytcnleglfdnhagaa
open Go Go.Am
/-- A queue: a row of the call's own, from an offset on. -/
def QW (lo : Nat) (H : Heap) (o : AV) (q : List Int) : Prop := ∃ bq off pre, o = .own 1 bq off q.length ∧ lo ≤ bq ∧ hget H bq = some ((pre ++ q).map AV.i) ∧ pre.length = off
theorem QW.mono {lo : Nat} {H H' : Heap} {o : AV} {q : List Int} (h : QW lo H o q) (hh : ∀ b, lo ≤ b → b < H.length → hget H' b = hget H b) : QW lo H' o q := by
  obtain ⟨bq, off, pre, h1, h2, h3, h4⟩ := h
  exact ⟨bq, off, pre, h1, h2, (hh bq h2 (hget_lt h3)).trans h3, h4⟩
theorem QW.lenV {lo : Nat} {H : Heap} {o : AV} {q : List Int} (h : QW lo H o q) : Go.Am.lenV (tyOf Try.prog 25) o = some (AV.i (q.length : Int)) := by
  obtain ⟨bq, off, pre, rfl, _⟩ := h
  rw [ty25]; rfl
theorem qw_append {lim lo : Nat} {H : Heap} {o : AV} {q : List Int} {v : Int} {b' : Nat} (h : QW lo H o q) (hc : hget H b' = some [AV.i v]) (hl : lim ≤ lo) (hw : q.length ≤ 100000) :
    ∃ b, lo ≤ b ∧ (∃ w : List Int, hget H b = some (w.map AV.i)) ∧ b < H.length ∧ ∃ H', appendV Try.prog lim H 25 o (.own 1 b' 0 1) = some (.own 1 H.length 0 (q.length + 1), H') ∧ MGrew H b H' ((q ++ [v]).map AV.i) := by
  obtain ⟨b, off, pre, rfl, h2, h3, h4⟩ := h
  refine ⟨b, h2, ⟨_, h3⟩, hget_lt h3, _, ?_, MGrew.of _ _ _⟩
  simp only [appendV, tk25, ty3, srcCells, hc, h3]
  rw [if_pos (by simp)]
  simp only [List.length_cons, List.length_nil]
  rw [if_pos ⟨trivial, by decide, rfl⟩]
  simp only [List.length_map, Nat.mul_one]
  rw [if_pos ⟨by omega, trivial, by rw [List.length_append]; omega, by omega, by omega⟩]
  rw [List.map_append, List.drop_append_of_le_length (by rw [List.length_map]; omega), List.drop_eq_nil_of_le (by rw [List.length_map]; omega), List.nil_append, List.take_of_length_le (by simp), List.map_append]
  rfl
theorem qw_head {lo : Nat} {H : Heap} {o : AV} {v : Int} {q : List Int} (h : QW lo H o (v :: q)) : ∃ bq off, o = .own 1 bq off (q.length + 1) ∧ (∃ k, hget H bq = some k ∧ k[off]? = some (AV.i v)) ∧ QW lo H (.own 1 bq (off + 1) q.length) q := by
  obtain ⟨b, off, pre, rfl, h2, h3, h4⟩ := h
  refine ⟨b, off, rfl, ⟨_, h3, ?_⟩, b, off + 1, pre ++ [v], rfl, h2, by rw [h3]; simp, by simp [h4]⟩
  rw [List.getElem?_map, List.getElem?_append_right (by omega), show off - pre.length = 0 by omega]
  rfl
theorem mark_snoc (lack : List Int) (inn : List Bool) (v : Int) : markL (lack ++ [v]) inn = (markL lack inn).set v.toNat true := by simp [markL, List.foldl_append]
theorem take_snoc {lack : List Int} {i : Nat} (h : i < lack.length) : lack.take (i + 1) = lack.take i ++ [gt lack i] := by
  rw [List.take_succ_eq_append_getElem h, gt_eq _ _ h]
/-- The matches reached, so far. -/
def outU (inn : List Bool) (i : Nat) : List Int := ((List.range i).filter fun m => gt inn m).map fun m : Nat => (m : Int)
theorem outU_y {inn : List Bool} {i : Nat} (h : gt inn i = true) : outU inn (i + 1) = outU inn i ++ [(i : Int)] := by
  unfold outU; rw [List.range_succ, List.filter_append, List.map_append]; simp [h]
theorem outU_n {inn : List Bool} {i : Nat} (h : gt inn i = false) : outU inn (i + 1) = outU inn i := by
  unfold outU; rw [List.range_succ, List.filter_append, List.map_append]; simp [h]
theorem outU_len (inn : List Bool) (i : Nat) : (outU inn i).length ≤ i := by
  unfold outU; rw [List.length_map]; exact Nat.le_trans (List.length_filter_le _ _) (by simp)
theorem sl25 (b o n : Nat) : sliceV Try.prog 25 (.own 1 b o (n + 1)) (some (AV.i 1)) none = some (.own 1 b (o + 1) n) := by
  simp only [sliceV, tk25, ty3, bound]
  rw [if_pos ⟨trivial, by decide, by omega, by omega⟩]
  rfl
theorem OutI.lo {lo lo' : Nat} {H : Heap} {o : AV} {w : List Int} (h : OutI lo H o w) (hl : lo' ≤ lo) : OutI lo' H o w := by
  rcases h with h | ⟨b, h1, h2, h3⟩
  · exact .inl h
  · exact .inr ⟨b, h1, by omega, h3⟩
theorem lackQ_nil {may : List (List Bool)} {used : List Int} {f : Nat} {inn : List Bool} {q : List Int} (h : q = []) : lackQ may used f inn q = inn := by
  subst h; cases f <;> rfl
theorem lackRow_y {row : List Bool} {used : List Int} {n u : Nat} {inn : List Bool} {q : List Int} (hu : u < n) (h : gt row u = true ∧ 0 ≤ gt used u ∧ gt inn (gt used u).toNat = false) : lackRow row used (n - u) u inn q = lackRow row used (n - (u + 1)) (u + 1) (inn.set (gt used u).toNat true) (q ++ [gt used u]) := by
  rw [show n - u = (n - (u + 1)) + 1 by omega, lackRow, if_pos h]
theorem lackRow_n {row : List Bool} {used : List Int} {n u : Nat} {inn : List Bool} {q : List Int} (hu : u < n) (h : ¬ (gt row u = true ∧ 0 ≤ gt used u ∧ gt inn (gt used u).toNat = false)) : lackRow row used (n - u) u inn q = lackRow row used (n - (u + 1)) (u + 1) inn q := by
  rw [show n - u = (n - (u + 1)) + 1 by omega, lackRow, if_neg h]
theorem lackRow_z {row : List Bool} {used : List Int} {n u : Nat} {inn : List Bool} {q : List Int} (hu : ¬ u < n) : lackRow row used (n - u) u inn q = (inn, q) := by rw [show n - u = 0 by omega, lackRow]
end Go.Proofs.Ytcnleglfdnhagaa
