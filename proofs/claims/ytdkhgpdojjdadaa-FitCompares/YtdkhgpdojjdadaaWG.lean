/-
  Walks of chapter 38. The steps are written by program (walk.py).
-/
import Derived.Test.YtdkhgpdojjdadaaF
set_option linter.unusedSimpArgs false
set_option linter.unusedVariables false
set_option maxHeartbeats 40000000
set_option maxRecDepth 4000
namespace Go.Proofs.Ytdkhgpdojjdadaa
open Go Go.Am

theorem take_gt {α : Type} [Inhabited α] (l : List α) (u : Nat) (h : u < l.length) : l.take (u + 1) = l.take u ++ [gt l u] := by
  rw [gt_eq l u h, List.take_add_one, List.getElem?_eq_getElem h]; rfl
theorem clone_ok (lim : Nat) (H : Heap) (hl : lim ≤ H.length) (rows : List (List Int)) (h1 : rows.length ≤ 100000) (hr : ∀ u, u < rows.length → (gt rows u).length ≤ 1000000) :
    ACall sig lim 25 [rowsAV rows] H fun r H' => ∃ X, H' = H ++ X ∧ OutT H.length H' r rows := by
  refine ACall_own (fa := fa25) rfl rfl rfl rfl ?_
  have tr : ∀ a0 : AV, env0 fa25.keep [a0] = [(0, a0), (2, .any), (3, .any), (5, .any), (6, .any), (7, .any), (8, .any), (9, .any)] := fun a0 => rfl
  refine W_to (tr _) ?_; clear tr
  refine at_seq rfl ?_
  refine rg rfl ?_
  refine Rq ?_
  have tr : ∀ y0 y2 y3 y5 y6 y7 y8 y9 z0 : AV, trim [(2, z0), (0, y0), (2, y2), (3, y3), (5, y5), (6, y6), (7, y7), (8, y8), (9, y9)] [(0, y0), (2, y2), (3, y3), (5, y5), (6, y6), (7, y7), (8, y8), (9, y9)] = [(0, y0), (2, z0), (3, y3), (5, y5), (6, y6), (7, y7), (8, y8), (9, y9)] := fun y0 y2 y3 y5 y6 y7 y8 y9 z0 => rfl
  refine R_nil (tr _ _ _ _ _ _ _ _ _) ?_; clear tr
  refine then_n ?_
  refine at_seq rfl ?_
  refine rg rfl ?_
  refine Rq ?_
  have tr : ∀ y0 y2 y3 y5 y6 y7 y8 y9 z0 : AV, trim [(3, z0), (0, y0), (2, y2), (3, y3), (5, y5), (6, y6), (7, y7), (8, y8), (9, y9)] [(0, y0), (2, y2), (3, y3), (5, y5), (6, y6), (7, y7), (8, y8), (9, y9)] = [(0, y0), (2, y2), (3, z0), (5, y5), (6, y6), (7, y7), (8, y8), (9, y9)] := fun y0 y2 y3 y5 y6 y7 y8 y9 z0 => rfl
  refine R_nil (tr _ _ _ _ _ _ _ _ _) ?_; clear tr
  refine then_n ?_
  refine at_seq rfl ?_
  refine at_seq rfl ?_
  refine rg rfl ?_
  refine Rq ?_
  refine Rq ?_
  refine Rq ?_
  have tr : ∀ y0 y2 y3 y5 y6 y7 y8 y9 z0 z1 z2 : AV, trim [(8, z2), (7, z1), (6, z0), (0, y0), (2, y2), (3, y3), (5, y5), (6, y6), (7, y7), (8, y8), (9, y9)] [(0, y0), (2, y2), (3, y3), (5, y5), (6, y6), (7, y7), (8, y8), (9, y9)] = [(0, y0), (2, y2), (3, y3), (5, y5), (6, z0), (7, z1), (8, z2), (9, y9)] := fun y0 y2 y3 y5 y6 y7 y8 y9 z0 z1 z2 => rfl
  refine R_nil (tr _ _ _ _ _ _ _ _ _ _ _) ?_; clear tr
  refine then_n ?_
  refine at_block rfl ?_
  refine loop_n rfl (fun mm kv H' => ∃ u : Nat, ∃ o : AV, ∃ X : Heap, ∃ x5 x9 : AV, (kv = [(3, o), (5, x5), (8, AV.i u), (9, x9)]) ∧ (mm = rows.length - u) ∧ (H' = H ++ X) ∧ (u ≤ rows.length) ∧ (OutT H.length (H ++ X) o (rows.take u))) ⟨0, _, [], _, _, rfl, rfl, by simp, by omega, by exact Or.inl ⟨rfl, rfl⟩⟩ (by rfl) ?_
  rintro mm kv H2 ⟨u, o, X, x5, x9, rfl, rfl, hX, hu, hO⟩
  have tr : ∀ y0 y2 y3 y5 y6 y7 y8 y9 z3 z5 z8 z9 : AV, upd [(0, y0), (2, y2), (3, y3), (5, y5), (6, y6), (7, y7), (8, y8), (9, y9)] [(3, z3), (5, z5), (8, z8), (9, z9)] = [(0, y0), (2, y2), (3, z3), (5, z5), (6, y6), (7, y7), (8, z8), (9, z9)] := fun y0 y2 y3 y5 y6 y7 y8 y9 z3 z5 z8 z9 => rfl
  refine W_to (tr _ _ _ _ _ _ _ _ _ _ _ _) ?_; clear tr
  subst hX
  refine at_seq rfl ?_
  refine rg rfl ?_
  refine Rq ?_
  have tr : ∀ y0 y2 y3 y5 y6 y7 y8 y9 z0 : AV, trim [(9, z0), (0, y0), (2, y2), (3, y3), (5, y5), (6, y6), (7, y7), (8, y8), (9, y9)] [(0, y0), (2, y2), (3, y3), (5, y5), (6, y6), (7, y7), (8, y8), (9, y9)] = [(0, y0), (2, y2), (3, y3), (5, y5), (6, y6), (7, y7), (8, y8), (9, z0)] := fun y0 y2 y3 y5 y6 y7 y8 y9 z0 => rfl
  refine R_nil (tr _ _ _ _ _ _ _ _ _) ?_; clear tr
  refine then_n ?_
  refine at_seq rfl ?_
  refine cdd (fun h1 => ?_) (fun h1 => ?_)
  · try simp only [decide_eq_true_eq, decide_eq_false_iff_not, Bool.not_eq_true', Bool.not_eq_false', beq_iff_eq, beq_eq_false_iff_ne, ne_eq] at h1
    refine at_skip rfl ?_
    refine then_n ?_
    refine at_seq rfl ?_
    refine at_block rfl ?_
    refine at_seq rfl ?_
    refine rg rfl ?_
    refine Rq ?_
    refine Rq ?_
    refine Rq ?_
    have tr : ∀ y0 y2 y3 y5 y6 y7 y8 y9 z0 z1 z2 : AV, trim [(5, z2), (11, z1), (10, z0), (0, y0), (2, y2), (3, y3), (5, y5), (6, y6), (7, y7), (8, y8), (9, y9)] [(0, y0), (2, y2), (3, y3), (5, y5), (6, y6), (7, y7), (8, y8), (9, y9)] = [(0, y0), (2, y2), (3, y3), (5, z2), (6, y6), (7, y7), (8, y8), (9, y9)] := fun y0 y2 y3 y5 y6 y7 y8 y9 z0 z1 z2 => rfl
    refine R_nil (tr _ _ _ _ _ _ _ _ _ _ _) ?_; clear tr
    refine then_n ?_
    refine rg rfl ?_
    refine Rq ?_
    refine Rq ?_
    refine R_append (by simp only [go_sem, ↓reduceIte, Nat.reduceEqDiff]; exact app37 _ _ _ (hr u (by omega))) ?_
    refine R_buildSlice (bs22 _ _ _ _ _ _ _ _ (by simp only [go_sem, ↓reduceIte, Nat.reduceEqDiff]; rfl)) ?_
    obtain ⟨o', X', hap, hO'⟩ := out_append hl (gt rows u) hO (by rw [List.length_take]; omega)
    refine R_append (by simp only [go_sem, ↓reduceIte, Nat.reduceEqDiff]; exact hap) ?_
    refine Rq ?_
    have tr : ∀ y0 y2 y3 y5 y6 y7 y8 y9 z0 z1 z2 z3 z4 z5 : AV, trim [(3, z5), (16, z4), (15, z3), (14, z2), (13, z1), (12, z0), (0, y0), (2, y2), (3, y3), (5, y5), (6, y6), (7, y7), (8, y8), (9, y9)] [(0, y0), (2, y2), (3, y3), (5, y5), (6, y6), (7, y7), (8, y8), (9, y9)] = [(0, y0), (2, y2), (3, z5), (5, y5), (6, y6), (7, y7), (8, y8), (9, y9)] := fun y0 y2 y3 y5 y6 y7 y8 y9 z0 z1 z2 z3 z4 z5 => rfl
    refine R_nil (tr _ _ _ _ _ _ _ _ _ _ _ _ _ _) ?_; clear tr
    refine blk_n ?_
    refine then_n ?_
    refine rg rfl ?_
    refine Rq ?_
    refine Rq ?_
    have tr : ∀ y0 y2 y3 y5 y6 y7 y8 y9 z0 z1 : AV, trim [(8, z1), (17, z0), (0, y0), (2, y2), (3, y3), (5, y5), (6, y6), (7, y7), (8, y8), (9, y9)] [(0, y0), (2, y2), (3, y3), (5, y5), (6, y6), (7, y7), (8, y8), (9, y9)] = [(0, y0), (2, y2), (3, y3), (5, y5), (6, y6), (7, y7), (8, z1), (9, y9)] := fun y0 y2 y3 y5 y6 y7 y8 y9 z0 z1 => rfl
    refine R_nil (tr _ _ _ _ _ _ _ _ _ _) ?_; clear tr
    refine then_n ?_
    exact ⟨_, _, ⟨u + 1, o', X', _, _, rfl, rfl, by rfl, by omega, by rw [take_gt rows u (by omega)]; exact hO'⟩, by rfl, by omega⟩
  · try simp only [decide_eq_true_eq, decide_eq_false_iff_not, Bool.not_eq_true', Bool.not_eq_false', beq_iff_eq, beq_eq_false_iff_ne, ne_eq] at h1
    refine at_exit rfl ?_
    refine then_x ?_
    refine then_x ?_
    refine blk_x ?_
    refine then_n ?_
    refine at_seq rfl ?_
    refine rg rfl ?_
    refine Rq ?_
    refine Rq ?_
    have tr : ∀ y0 y2 y3 y5 y6 y7 y8 y9 z0 z1 : AV, trim [(2, z1), (18, z0), (0, y0), (2, y2), (3, y3), (5, y5), (6, y6), (7, y7), (8, y8), (9, y9)] [(0, y0), (2, y2), (3, y3), (5, y5), (6, y6), (7, y7), (8, y8), (9, y9)] = [(0, y0), (2, z1), (3, y3), (5, y5), (6, y6), (7, y7), (8, y8), (9, y9)] := fun y0 y2 y3 y5 y6 y7 y8 y9 z0 z1 => rfl
    refine R_nil (tr _ _ _ _ _ _ _ _ _ _) ?_; clear tr
    refine then_n ?_
    refine at_ret rfl ?_
    refine fin_own rfl (by simp only [go_sem, ↓reduceIte, Nat.reduceEqDiff]; rfl) ?_
    exact ⟨X, rfl, by rw [List.take_of_length_le (by omega)] at hO; exact hO⟩

end Go.Proofs.Ytdkhgpdojjdadaa
