/-
  Walks of chapters 37, 39 and 40. The steps are written by program (walk.py).
-/
import Derived.Test.YtaoondlakhocnaaRB
set_option linter.unusedSimpArgs false
set_option linter.unusedVariables false
set_option maxHeartbeats 40000000
set_option maxRecDepth 4000
namespace Go.Proofs.Ytaoondlakhocnaa
open Go Go.Am

theorem ends_ok (lim : Nat) (H : Heap) (rows : List (List Int)) (hs : Shaped rows) :
    ACall sig lim 66 [.agg [rowsAV rows]] H fun r H' => r = AV.i (endsS rows) ∧ H' = H := by
  obtain ⟨g2, g91, g1, g10, gl, gr⟩ := hs
  have gl1 := gl (rows.length - 1) (by omega)
  refine ACall_pure (fa := fa66) rfl rfl rfl rfl ?_
  have tr : ∀ a0 : AV, env0 fa66.keep [a0] = [(0, a0), (1, .any), (2, .any), (4, .any), (8, .any), (9, .any), (10, .any), (11, .any), (15, .any), (27, .any)] := fun a0 => rfl
  refine W_to (tr _) ?_; clear tr
  refine at_seq rfl ?_
  refine rg rfl ?_
  refine R_box rfl (by simp (disch := first | omega | (simp only [List.length_map, List.length_append, List.length_set, List.length_cons, List.length_nil, List.length_take, List.length_drop]; omega)) only [go_sem, ↓reduceIte, Nat.reduceEqDiff, reduceCtorEq]; rfl) rfl rfl ?_
  refine Rq ?_
  have tr : ∀ y0 y1 y2 y4 y8 y9 y10 y11 y15 y27 z0 z1 : AV, trim [(2, z1), (1, z0), (0, y0), (1, y1), (2, y2), (4, y4), (8, y8), (9, y9), (10, y10), (11, y11), (15, y15), (27, y27)] [(0, y0), (1, y1), (2, y2), (4, y4), (8, y8), (9, y9), (10, y10), (11, y11), (15, y15), (27, y27)] = [(0, y0), (1, z0), (2, z1), (4, y4), (8, y8), (9, y9), (10, y10), (11, y11), (15, y15), (27, y27)] := fun y0 y1 y2 y4 y8 y9 y10 y11 y15 y27 z0 z1 => rfl
  refine R_nil (tr _ _ _ _ _ _ _ _ _ _ _ _) ?_; clear tr
  refine then_n ?_
  refine at_seq rfl ?_
  refine at_seq rfl ?_
  refine rg rfl ?_
  refine Rq ?_
  refine Rq ?_
  refine Rq ?_
  refine Rq ?_
  refine Rq ?_
  refine Rq ?_
  have tr : ∀ y0 y1 y2 y4 y8 y9 y10 y11 y15 y27 z0 z1 z2 z3 z4 z5 : AV, trim [(10, z5), (9, z4), (8, z3), (7, z2), (6, z1), (5, z0), (0, y0), (1, y1), (2, y2), (4, y4), (8, y8), (9, y9), (10, y10), (11, y11), (15, y15), (27, y27)] [(0, y0), (1, y1), (2, y2), (4, y4), (8, y8), (9, y9), (10, y10), (11, y11), (15, y15), (27, y27)] = [(0, y0), (1, y1), (2, y2), (4, y4), (8, z3), (9, z4), (10, z5), (11, y11), (15, y15), (27, y27)] := fun y0 y1 y2 y4 y8 y9 y10 y11 y15 y27 z0 z1 z2 z3 z4 z5 => rfl
  refine R_nil (tr _ _ _ _ _ _ _ _ _ _ _ _ _ _ _ _) ?_; clear tr
  refine then_n ?_
  refine at_block rfl ?_
  refine loop_n rfl (fun mm kv H' => ∃ w : Nat, ∃ x2 x4 x11 x15 : AV, (kv = [(2, x2), (4, x4), (10, AV.i w), (11, x11), (15, x15)]) ∧ (mm = (gt rows 0).length - w) ∧ (H' = H ++ [some [rowsAV rows]]) ∧ (w ≤ (gt rows 0).length) ∧ (∀ j, j < w → gt (gt rows 0) j = 0)) ⟨0, _, _, _, _, rfl, rfl, rfl, by omega, by intro i hi; omega⟩ (by rfl) ?_
  rintro mm kv H' ⟨w, x2, x4, x11, x15, rfl, rfl, rfl, hw, hz⟩
  have tr : ∀ y0 y1 y2 y4 y8 y9 y10 y11 y15 y27 z2 z4 z10 z11 z15 : AV, upd [(0, y0), (1, y1), (2, y2), (4, y4), (8, y8), (9, y9), (10, y10), (11, y11), (15, y15), (27, y27)] [(2, z2), (4, z4), (10, z10), (11, z11), (15, z15)] = [(0, y0), (1, y1), (2, z2), (4, z4), (8, y8), (9, y9), (10, z10), (11, z11), (15, z15), (27, y27)] := fun y0 y1 y2 y4 y8 y9 y10 y11 y15 y27 z2 z4 z10 z11 z15 => rfl
  refine W_to (tr _ _ _ _ _ _ _ _ _ _ _ _ _ _ _) ?_; clear tr
  refine at_seq rfl ?_
  refine rg rfl ?_
  refine Rq ?_
  have tr : ∀ y0 y1 y2 y4 y8 y9 y10 y11 y15 y27 z0 : AV, trim [(11, z0), (0, y0), (1, y1), (2, y2), (4, y4), (8, y8), (9, y9), (10, y10), (11, y11), (15, y15), (27, y27)] [(0, y0), (1, y1), (2, y2), (4, y4), (8, y8), (9, y9), (10, y10), (11, y11), (15, y15), (27, y27)] = [(0, y0), (1, y1), (2, y2), (4, y4), (8, y8), (9, y9), (10, y10), (11, z0), (15, y15), (27, y27)] := fun y0 y1 y2 y4 y8 y9 y10 y11 y15 y27 z0 => rfl
  refine R_nil (tr _ _ _ _ _ _ _ _ _ _ _) ?_; clear tr
  refine then_n ?_
  refine at_seq rfl ?_
  refine cdd (fun h1 => ?_) (fun h1 => ?_)
  · try simp only [decide_eq_true_eq, decide_eq_false_iff_not, Bool.not_eq_true', Bool.not_eq_false', beq_iff_eq, beq_eq_false_iff_ne, ne_eq] at h1
    refine at_skip rfl ?_
    refine then_n ?_
    refine at_seq rfl ?_
    refine at_block rfl ?_
    refine at_seq rfl ?_
    refine rg rfl ?_
    refine Rq ?_
    refine Rq ?_
    refine Rq ?_
    have tr : ∀ y0 y1 y2 y4 y8 y9 y10 y11 y15 y27 z0 z1 z2 : AV, trim [(4, z2), (13, z1), (12, z0), (0, y0), (1, y1), (2, y2), (4, y4), (8, y8), (9, y9), (10, y10), (11, y11), (15, y15), (27, y27)] [(0, y0), (1, y1), (2, y2), (4, y4), (8, y8), (9, y9), (10, y10), (11, y11), (15, y15), (27, y27)] = [(0, y0), (1, y1), (2, y2), (4, z2), (8, y8), (9, y9), (10, y10), (11, y11), (15, y15), (27, y27)] := fun y0 y1 y2 y4 y8 y9 y10 y11 y15 y27 z0 z1 z2 => rfl
    refine R_nil (tr _ _ _ _ _ _ _ _ _ _ _ _ _) ?_; clear tr
    refine then_n ?_
    refine at_seq rfl ?_
    refine rg rfl ?_
    refine Rq ?_
    refine Rq ?_
    have tr : ∀ y0 y1 y2 y4 y8 y9 y10 y11 y15 y27 z0 z1 : AV, trim [(15, z1), (14, z0), (0, y0), (1, y1), (2, y2), (4, y4), (8, y8), (9, y9), (10, y10), (11, y11), (15, y15), (27, y27)] [(0, y0), (1, y1), (2, y2), (4, y4), (8, y8), (9, y9), (10, y10), (11, y11), (15, y15), (27, y27)] = [(0, y0), (1, y1), (2, y2), (4, y4), (8, y8), (9, y9), (10, y10), (11, y11), (15, z1), (27, y27)] := fun y0 y1 y2 y4 y8 y9 y10 y11 y15 y27 z0 z1 => rfl
    refine R_nil (tr _ _ _ _ _ _ _ _ _ _ _ _) ?_; clear tr
    refine then_n ?_
    refine cdd (fun h2 => ?_) (fun h2 => ?_)
    · try simp only [decide_eq_true_eq, decide_eq_false_iff_not, Bool.not_eq_true', Bool.not_eq_false', beq_iff_eq, beq_eq_false_iff_ne, ne_eq] at h2
      refine at_seq rfl ?_
      refine rg rfl ?_
      refine Rq ?_
      have tr : ∀ y0 y1 y2 y4 y8 y9 y10 y11 y15 y27 z0 : AV, trim [(2, z0), (0, y0), (1, y1), (2, y2), (4, y4), (8, y8), (9, y9), (10, y10), (11, y11), (15, y15), (27, y27)] [(0, y0), (1, y1), (2, y2), (4, y4), (8, y8), (9, y9), (10, y10), (11, y11), (15, y15), (27, y27)] = [(0, y0), (1, y1), (2, z0), (4, y4), (8, y8), (9, y9), (10, y10), (11, y11), (15, y15), (27, y27)] := fun y0 y1 y2 y4 y8 y9 y10 y11 y15 y27 z0 => rfl
      refine R_nil (tr _ _ _ _ _ _ _ _ _ _ _) ?_; clear tr
      refine then_n ?_
      refine at_ret rfl ?_
      refine blk_r ?_
      refine then_r ?_
      refine then_r ?_
      refine blk_r ?_
      refine then_r ?_
      refine fpure ?_
      refine ⟨?_, rfl⟩
      rw [endsS, if_pos (fun hh => absurd (hh w (by omega)) (by omega))]
    · try simp only [decide_eq_true_eq, decide_eq_false_iff_not, Bool.not_eq_true', Bool.not_eq_false', beq_iff_eq, beq_eq_false_iff_ne, ne_eq] at h2
      refine at_skip rfl ?_
      refine blk_n ?_
      refine then_n ?_
      refine rg rfl ?_
      refine Rq ?_
      refine Rq ?_
      have tr : ∀ y0 y1 y2 y4 y8 y9 y10 y11 y15 y27 z0 z1 : AV, trim [(10, z1), (16, z0), (0, y0), (1, y1), (2, y2), (4, y4), (8, y8), (9, y9), (10, y10), (11, y11), (15, y15), (27, y27)] [(0, y0), (1, y1), (2, y2), (4, y4), (8, y8), (9, y9), (10, y10), (11, y11), (15, y15), (27, y27)] = [(0, y0), (1, y1), (2, y2), (4, y4), (8, y8), (9, y9), (10, z1), (11, y11), (15, y15), (27, y27)] := fun y0 y1 y2 y4 y8 y9 y10 y11 y15 y27 z0 z1 => rfl
      refine R_nil (tr _ _ _ _ _ _ _ _ _ _ _ _) ?_; clear tr
      refine then_n ?_
      exact ⟨_, _, ⟨w + 1, _, _, _, _, rfl, rfl, rfl, by omega, by exact all_step hz (by omega)⟩, by rfl, by omega⟩
  · try simp only [decide_eq_true_eq, decide_eq_false_iff_not, Bool.not_eq_true', Bool.not_eq_false', beq_iff_eq, beq_eq_false_iff_ne, ne_eq] at h1
    refine at_exit rfl ?_
    refine then_x ?_
    refine then_x ?_
    refine blk_x ?_
    refine then_n ?_
    refine at_seq rfl ?_
    refine at_seq rfl ?_
    refine rg rfl ?_
    refine Rq ?_
    refine Rq ?_
    refine Rq ?_
    refine Rq ?_
    refine Rq ?_
    refine Rq ?_
    refine Rq ?_
    refine Rq ?_
    refine Rq ?_
    refine Rq ?_
    refine Rq ?_
    have tr : ∀ y0 y1 y2 y4 y8 y9 y10 y11 y15 y27 z0 z1 z2 z3 z4 z5 z6 z7 z8 z9 z10 : AV, trim [(27, z10), (26, z9), (25, z8), (24, z7), (23, z6), (22, z5), (21, z4), (20, z3), (19, z2), (18, z1), (17, z0), (0, y0), (1, y1), (2, y2), (4, y4), (8, y8), (9, y9), (10, y10), (11, y11), (15, y15), (27, y27)] [(0, y0), (1, y1), (2, y2), (4, y4), (8, y8), (9, y9), (10, y10), (11, y11), (15, y15), (27, y27)] = [(0, y0), (1, y1), (2, y2), (4, y4), (8, y8), (9, y9), (10, y10), (11, y11), (15, y15), (27, z10)] := fun y0 y1 y2 y4 y8 y9 y10 y11 y15 y27 z0 z1 z2 z3 z4 z5 z6 z7 z8 z9 z10 => rfl
    refine R_nil (tr _ _ _ _ _ _ _ _ _ _ _ _ _ _ _ _ _ _ _ _ _) ?_; clear tr
    refine then_n ?_
    refine cdd (fun h3 => ?_) (fun h3 => ?_)
    · try simp only [decide_eq_true_eq, decide_eq_false_iff_not, Bool.not_eq_true', Bool.not_eq_false', beq_iff_eq, beq_eq_false_iff_ne, ne_eq] at h3
      refine at_seq rfl ?_
      refine rg rfl ?_
      refine Rq ?_
      have tr : ∀ y0 y1 y2 y4 y8 y9 y10 y11 y15 y27 z0 : AV, trim [(2, z0), (0, y0), (1, y1), (2, y2), (4, y4), (8, y8), (9, y9), (10, y10), (11, y11), (15, y15), (27, y27)] [(0, y0), (1, y1), (2, y2), (4, y4), (8, y8), (9, y9), (10, y10), (11, y11), (15, y15), (27, y27)] = [(0, y0), (1, y1), (2, z0), (4, y4), (8, y8), (9, y9), (10, y10), (11, y11), (15, y15), (27, y27)] := fun y0 y1 y2 y4 y8 y9 y10 y11 y15 y27 z0 => rfl
      refine R_nil (tr _ _ _ _ _ _ _ _ _ _ _) ?_; clear tr
      refine then_n ?_
      refine at_ret rfl ?_
      refine then_r ?_
      refine fpure ?_
      refine ⟨?_, rfl⟩
      rw [endsS, if_neg (fun hh => hh fun i hi => hz i (by omega)), if_pos (by omega)]
    · try simp only [decide_eq_true_eq, decide_eq_false_iff_not, Bool.not_eq_true', Bool.not_eq_false', beq_iff_eq, beq_eq_false_iff_ne, ne_eq] at h3
      refine at_skip rfl ?_
      refine then_n ?_
      refine at_seq rfl ?_
      refine rg rfl ?_
      refine Rq ?_
      have tr : ∀ y0 y1 y2 y4 y8 y9 y10 y11 y15 y27 z0 : AV, trim [(2, z0), (0, y0), (1, y1), (2, y2), (4, y4), (8, y8), (9, y9), (10, y10), (11, y11), (15, y15), (27, y27)] [(0, y0), (1, y1), (2, y2), (4, y4), (8, y8), (9, y9), (10, y10), (11, y11), (15, y15), (27, y27)] = [(0, y0), (1, y1), (2, z0), (4, y4), (8, y8), (9, y9), (10, y10), (11, y11), (15, y15), (27, y27)] := fun y0 y1 y2 y4 y8 y9 y10 y11 y15 y27 z0 => rfl
      refine R_nil (tr _ _ _ _ _ _ _ _ _ _ _) ?_; clear tr
      refine then_n ?_
      refine at_ret rfl ?_
      refine fpure ?_
      refine ⟨?_, rfl⟩
      rw [endsS, if_neg (fun hh => hh fun i hi => hz i (by omega)), if_neg (by omega)]

end Go.Proofs.Ytaoondlakhocnaa
