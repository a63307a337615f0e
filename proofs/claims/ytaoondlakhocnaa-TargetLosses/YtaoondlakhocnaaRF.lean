/-
  Walks of chapters 37, 39 and 40. The steps are written by program (walk.py).
-/
import Derived.Test.YtaoondlakhocnaaRD
set_option linter.unusedSimpArgs false
set_option linter.unusedVariables false
set_option maxHeartbeats 40000000
set_option maxRecDepth 4000
namespace Go.Proofs.Ytaoondlakhocnaa
open Go Go.Am

theorem check_ok (lim : Nat) (H : Heap) (rows : Tb) :
    ACall sig lim 55 [.agg [rowsAV rows]] H fun r H' => r = AV.i (checkS rows) ∧ H' = H := by
  refine ACall_pure (fa := fa55) rfl rfl rfl rfl ?_
  have tr : ∀ a0 : AV, env0 fa55.keep [a0] = [(0, a0), (1, .any), (2, .any), (3, .any), (4, .any), (5, .any), (6, .any), (7, .any), (8, .any), (9, .any), (10, .any), (11, .any), (15, .any), (20, .any), (23, .any), (24, .any), (25, .any), (26, .any), (30, .any), (31, .any), (32, .any), (33, .any), (67, .any), (74, .any), (81, .any), (82, .any), (83, .any), (84, .any), (118, .any)] := fun a0 => rfl
  refine W_to (tr _) ?_; clear tr
  refine at_seq rfl ?_
  refine rg rfl ?_
  refine R_box rfl (by simp (disch := first | omega | (simp only [List.length_map, List.length_append, List.length_set, List.length_cons, List.length_nil, List.length_take, List.length_drop]; omega)) only [go_sem, ↓reduceIte, Nat.reduceEqDiff, reduceCtorEq]; rfl) rfl rfl ?_
  refine Rq ?_
  have tr : ∀ y0 y1 y2 y3 y4 y5 y6 y7 y8 y9 y10 y11 y15 y20 y23 y24 y25 y26 y30 y31 y32 y33 y67 y74 y81 y82 y83 y84 y118 z0 z1 : AV, trim [(2, z1), (1, z0), (0, y0), (1, y1), (2, y2), (3, y3), (4, y4), (5, y5), (6, y6), (7, y7), (8, y8), (9, y9), (10, y10), (11, y11), (15, y15), (20, y20), (23, y23), (24, y24), (25, y25), (26, y26), (30, y30), (31, y31), (32, y32), (33, y33), (67, y67), (74, y74), (81, y81), (82, y82), (83, y83), (84, y84), (118, y118)] [(0, y0), (1, y1), (2, y2), (3, y3), (4, y4), (5, y5), (6, y6), (7, y7), (8, y8), (9, y9), (10, y10), (11, y11), (15, y15), (20, y20), (23, y23), (24, y24), (25, y25), (26, y26), (30, y30), (31, y31), (32, y32), (33, y33), (67, y67), (74, y74), (81, y81), (82, y82), (83, y83), (84, y84), (118, y118)] = [(0, y0), (1, z0), (2, z1), (3, y3), (4, y4), (5, y5), (6, y6), (7, y7), (8, y8), (9, y9), (10, y10), (11, y11), (15, y15), (20, y20), (23, y23), (24, y24), (25, y25), (26, y26), (30, y30), (31, y31), (32, y32), (33, y33), (67, y67), (74, y74), (81, y81), (82, y82), (83, y83), (84, y84), (118, y118)] := fun y0 y1 y2 y3 y4 y5 y6 y7 y8 y9 y10 y11 y15 y20 y23 y24 y25 y26 y30 y31 y32 y33 y67 y74 y81 y82 y83 y84 y118 z0 z1 => rfl
  refine R_nil (tr _ _ _ _ _ _ _ _ _ _ _ _ _ _ _ _ _ _ _ _ _ _ _ _ _ _ _ _ _ _ _) ?_; clear tr
  refine then_n ?_
  refine at_seq rfl ?_
  refine at_seq rfl ?_
  refine rg rfl ?_
  refine Rq ?_
  refine Rcall ?_
  refine ACall_eq (shape_ok _ _ _) ?_
  refine Rq ?_
  have tr : ∀ y0 y1 y2 y3 y4 y5 y6 y7 y8 y9 y10 y11 y15 y20 y23 y24 y25 y26 y30 y31 y32 y33 y67 y74 y81 y82 y83 y84 y118 z0 z1 z2 : AV, trim [(3, z2), (13, z1), (12, z0), (0, y0), (1, y1), (2, y2), (3, y3), (4, y4), (5, y5), (6, y6), (7, y7), (8, y8), (9, y9), (10, y10), (11, y11), (15, y15), (20, y20), (23, y23), (24, y24), (25, y25), (26, y26), (30, y30), (31, y31), (32, y32), (33, y33), (67, y67), (74, y74), (81, y81), (82, y82), (83, y83), (84, y84), (118, y118)] [(0, y0), (1, y1), (2, y2), (3, y3), (4, y4), (5, y5), (6, y6), (7, y7), (8, y8), (9, y9), (10, y10), (11, y11), (15, y15), (20, y20), (23, y23), (24, y24), (25, y25), (26, y26), (30, y30), (31, y31), (32, y32), (33, y33), (67, y67), (74, y74), (81, y81), (82, y82), (83, y83), (84, y84), (118, y118)] = [(0, y0), (1, y1), (2, y2), (3, z2), (4, y4), (5, y5), (6, y6), (7, y7), (8, y8), (9, y9), (10, y10), (11, y11), (15, y15), (20, y20), (23, y23), (24, y24), (25, y25), (26, y26), (30, y30), (31, y31), (32, y32), (33, y33), (67, y67), (74, y74), (81, y81), (82, y82), (83, y83), (84, y84), (118, y118)] := fun y0 y1 y2 y3 y4 y5 y6 y7 y8 y9 y10 y11 y15 y20 y23 y24 y25 y26 y30 y31 y32 y33 y67 y74 y81 y82 y83 y84 y118 z0 z1 z2 => rfl
  refine R_nil (tr _ _ _ _ _ _ _ _ _ _ _ _ _ _ _ _ _ _ _ _ _ _ _ _ _ _ _ _ _ _ _ _) ?_; clear tr
  refine then_n ?_
  refine at_seq rfl ?_
  refine rg rfl ?_
  refine Rq ?_
  refine Rq ?_
  have tr : ∀ y0 y1 y2 y3 y4 y5 y6 y7 y8 y9 y10 y11 y15 y20 y23 y24 y25 y26 y30 y31 y32 y33 y67 y74 y81 y82 y83 y84 y118 z0 z1 : AV, trim [(15, z1), (14, z0), (0, y0), (1, y1), (2, y2), (3, y3), (4, y4), (5, y5), (6, y6), (7, y7), (8, y8), (9, y9), (10, y10), (11, y11), (15, y15), (20, y20), (23, y23), (24, y24), (25, y25), (26, y26), (30, y30), (31, y31), (32, y32), (33, y33), (67, y67), (74, y74), (81, y81), (82, y82), (83, y83), (84, y84), (118, y118)] [(0, y0), (1, y1), (2, y2), (3, y3), (4, y4), (5, y5), (6, y6), (7, y7), (8, y8), (9, y9), (10, y10), (11, y11), (15, y15), (20, y20), (23, y23), (24, y24), (25, y25), (26, y26), (30, y30), (31, y31), (32, y32), (33, y33), (67, y67), (74, y74), (81, y81), (82, y82), (83, y83), (84, y84), (118, y118)] = [(0, y0), (1, y1), (2, y2), (3, y3), (4, y4), (5, y5), (6, y6), (7, y7), (8, y8), (9, y9), (10, y10), (11, y11), (15, z1), (20, y20), (23, y23), (24, y24), (25, y25), (26, y26), (30, y30), (31, y31), (32, y32), (33, y33), (67, y67), (74, y74), (81, y81), (82, y82), (83, y83), (84, y84), (118, y118)] := fun y0 y1 y2 y3 y4 y5 y6 y7 y8 y9 y10 y11 y15 y20 y23 y24 y25 y26 y30 y31 y32 y33 y67 y74 y81 y82 y83 y84 y118 z0 z1 => rfl
  refine R_nil (tr _ _ _ _ _ _ _ _ _ _ _ _ _ _ _ _ _ _ _ _ _ _ _ _ _ _ _ _ _ _ _) ?_; clear tr
  refine then_n ?_
  refine cdd (fun h1 => ?_) (fun h1 => ?_)
  · try simp only [decide_eq_true_eq, decide_eq_false_iff_not, Bool.not_eq_true', Bool.not_eq_false', beq_iff_eq, beq_eq_false_iff_ne, ne_eq] at h1
    refine at_seq rfl ?_
    refine rg rfl ?_
    refine Rq ?_
    refine Rq ?_
    have tr : ∀ y0 y1 y2 y3 y4 y5 y6 y7 y8 y9 y10 y11 y15 y20 y23 y24 y25 y26 y30 y31 y32 y33 y67 y74 y81 y82 y83 y84 y118 z0 z1 : AV, trim [(2, z1), (16, z0), (0, y0), (1, y1), (2, y2), (3, y3), (4, y4), (5, y5), (6, y6), (7, y7), (8, y8), (9, y9), (10, y10), (11, y11), (15, y15), (20, y20), (23, y23), (24, y24), (25, y25), (26, y26), (30, y30), (31, y31), (32, y32), (33, y33), (67, y67), (74, y74), (81, y81), (82, y82), (83, y83), (84, y84), (118, y118)] [(0, y0), (1, y1), (2, y2), (3, y3), (4, y4), (5, y5), (6, y6), (7, y7), (8, y8), (9, y9), (10, y10), (11, y11), (15, y15), (20, y20), (23, y23), (24, y24), (25, y25), (26, y26), (30, y30), (31, y31), (32, y32), (33, y33), (67, y67), (74, y74), (81, y81), (82, y82), (83, y83), (84, y84), (118, y118)] = [(0, y0), (1, y1), (2, z1), (3, y3), (4, y4), (5, y5), (6, y6), (7, y7), (8, y8), (9, y9), (10, y10), (11, y11), (15, y15), (20, y20), (23, y23), (24, y24), (25, y25), (26, y26), (30, y30), (31, y31), (32, y32), (33, y33), (67, y67), (74, y74), (81, y81), (82, y82), (83, y83), (84, y84), (118, y118)] := fun y0 y1 y2 y3 y4 y5 y6 y7 y8 y9 y10 y11 y15 y20 y23 y24 y25 y26 y30 y31 y32 y33 y67 y74 y81 y82 y83 y84 y118 z0 z1 => rfl
    refine R_nil (tr _ _ _ _ _ _ _ _ _ _ _ _ _ _ _ _ _ _ _ _ _ _ _ _ _ _ _ _ _ _ _) ?_; clear tr
    refine then_n ?_
    refine at_ret rfl ?_
    refine then_r ?_
    refine fpure ?_
    refine ⟨?_, rfl⟩
    rw [checkS, if_pos h1]
  · try simp only [decide_eq_true_eq, decide_eq_false_iff_not, Bool.not_eq_true', Bool.not_eq_false', beq_iff_eq, beq_eq_false_iff_ne, ne_eq] at h1
    refine at_skip rfl ?_
    refine then_n ?_
    refine at_seq rfl ?_
    refine at_seq rfl ?_
    refine rg rfl ?_
    refine Rq ?_
    refine Rcall ?_
    refine ACall_eq (ends_ok _ _ _ (shaped_of h1)) ?_
    refine Rq ?_
    have tr : ∀ y0 y1 y2 y3 y4 y5 y6 y7 y8 y9 y10 y11 y15 y20 y23 y24 y25 y26 y30 y31 y32 y33 y67 y74 y81 y82 y83 y84 y118 z0 z1 z2 : AV, trim [(4, z2), (18, z1), (17, z0), (0, y0), (1, y1), (2, y2), (3, y3), (4, y4), (5, y5), (6, y6), (7, y7), (8, y8), (9, y9), (10, y10), (11, y11), (15, y15), (20, y20), (23, y23), (24, y24), (25, y25), (26, y26), (30, y30), (31, y31), (32, y32), (33, y33), (67, y67), (74, y74), (81, y81), (82, y82), (83, y83), (84, y84), (118, y118)] [(0, y0), (1, y1), (2, y2), (3, y3), (4, y4), (5, y5), (6, y6), (7, y7), (8, y8), (9, y9), (10, y10), (11, y11), (15, y15), (20, y20), (23, y23), (24, y24), (25, y25), (26, y26), (30, y30), (31, y31), (32, y32), (33, y33), (67, y67), (74, y74), (81, y81), (82, y82), (83, y83), (84, y84), (118, y118)] = [(0, y0), (1, y1), (2, y2), (3, y3), (4, z2), (5, y5), (6, y6), (7, y7), (8, y8), (9, y9), (10, y10), (11, y11), (15, y15), (20, y20), (23, y23), (24, y24), (25, y25), (26, y26), (30, y30), (31, y31), (32, y32), (33, y33), (67, y67), (74, y74), (81, y81), (82, y82), (83, y83), (84, y84), (118, y118)] := fun y0 y1 y2 y3 y4 y5 y6 y7 y8 y9 y10 y11 y15 y20 y23 y24 y25 y26 y30 y31 y32 y33 y67 y74 y81 y82 y83 y84 y118 z0 z1 z2 => rfl
    refine R_nil (tr _ _ _ _ _ _ _ _ _ _ _ _ _ _ _ _ _ _ _ _ _ _ _ _ _ _ _ _ _ _ _ _) ?_; clear tr
    refine then_n ?_
    refine at_seq rfl ?_
    refine rg rfl ?_
    refine Rq ?_
    refine Rq ?_
    have tr : ∀ y0 y1 y2 y3 y4 y5 y6 y7 y8 y9 y10 y11 y15 y20 y23 y24 y25 y26 y30 y31 y32 y33 y67 y74 y81 y82 y83 y84 y118 z0 z1 : AV, trim [(20, z1), (19, z0), (0, y0), (1, y1), (2, y2), (3, y3), (4, y4), (5, y5), (6, y6), (7, y7), (8, y8), (9, y9), (10, y10), (11, y11), (15, y15), (20, y20), (23, y23), (24, y24), (25, y25), (26, y26), (30, y30), (31, y31), (32, y32), (33, y33), (67, y67), (74, y74), (81, y81), (82, y82), (83, y83), (84, y84), (118, y118)] [(0, y0), (1, y1), (2, y2), (3, y3), (4, y4), (5, y5), (6, y6), (7, y7), (8, y8), (9, y9), (10, y10), (11, y11), (15, y15), (20, y20), (23, y23), (24, y24), (25, y25), (26, y26), (30, y30), (31, y31), (32, y32), (33, y33), (67, y67), (74, y74), (81, y81), (82, y82), (83, y83), (84, y84), (118, y118)] = [(0, y0), (1, y1), (2, y2), (3, y3), (4, y4), (5, y5), (6, y6), (7, y7), (8, y8), (9, y9), (10, y10), (11, y11), (15, y15), (20, z1), (23, y23), (24, y24), (25, y25), (26, y26), (30, y30), (31, y31), (32, y32), (33, y33), (67, y67), (74, y74), (81, y81), (82, y82), (83, y83), (84, y84), (118, y118)] := fun y0 y1 y2 y3 y4 y5 y6 y7 y8 y9 y10 y11 y15 y20 y23 y24 y25 y26 y30 y31 y32 y33 y67 y74 y81 y82 y83 y84 y118 z0 z1 => rfl
    refine R_nil (tr _ _ _ _ _ _ _ _ _ _ _ _ _ _ _ _ _ _ _ _ _ _ _ _ _ _ _ _ _ _ _) ?_; clear tr
    refine then_n ?_
    refine cdd (fun h2 => ?_) (fun h2 => ?_)
    · try simp only [decide_eq_true_eq, decide_eq_false_iff_not, Bool.not_eq_true', Bool.not_eq_false', beq_iff_eq, beq_eq_false_iff_ne, ne_eq] at h2
      refine at_seq rfl ?_
      refine rg rfl ?_
      refine Rq ?_
      refine Rq ?_
      have tr : ∀ y0 y1 y2 y3 y4 y5 y6 y7 y8 y9 y10 y11 y15 y20 y23 y24 y25 y26 y30 y31 y32 y33 y67 y74 y81 y82 y83 y84 y118 z0 z1 : AV, trim [(2, z1), (21, z0), (0, y0), (1, y1), (2, y2), (3, y3), (4, y4), (5, y5), (6, y6), (7, y7), (8, y8), (9, y9), (10, y10), (11, y11), (15, y15), (20, y20), (23, y23), (24, y24), (25, y25), (26, y26), (30, y30), (31, y31), (32, y32), (33, y33), (67, y67), (74, y74), (81, y81), (82, y82), (83, y83), (84, y84), (118, y118)] [(0, y0), (1, y1), (2, y2), (3, y3), (4, y4), (5, y5), (6, y6), (7, y7), (8, y8), (9, y9), (10, y10), (11, y11), (15, y15), (20, y20), (23, y23), (24, y24), (25, y25), (26, y26), (30, y30), (31, y31), (32, y32), (33, y33), (67, y67), (74, y74), (81, y81), (82, y82), (83, y83), (84, y84), (118, y118)] = [(0, y0), (1, y1), (2, z1), (3, y3), (4, y4), (5, y5), (6, y6), (7, y7), (8, y8), (9, y9), (10, y10), (11, y11), (15, y15), (20, y20), (23, y23), (24, y24), (25, y25), (26, y26), (30, y30), (31, y31), (32, y32), (33, y33), (67, y67), (74, y74), (81, y81), (82, y82), (83, y83), (84, y84), (118, y118)] := fun y0 y1 y2 y3 y4 y5 y6 y7 y8 y9 y10 y11 y15 y20 y23 y24 y25 y26 y30 y31 y32 y33 y67 y74 y81 y82 y83 y84 y118 z0 z1 => rfl
      refine R_nil (tr _ _ _ _ _ _ _ _ _ _ _ _ _ _ _ _ _ _ _ _ _ _ _ _ _ _ _ _ _ _ _) ?_; clear tr
      refine then_n ?_
      refine at_ret rfl ?_
      refine then_r ?_
      refine fpure ?_
      refine ⟨?_, rfl⟩
      rw [checkS, if_neg (fun hh => hh h1), if_pos h2]
    · try simp only [decide_eq_true_eq, decide_eq_false_iff_not, Bool.not_eq_true', Bool.not_eq_false', beq_iff_eq, beq_eq_false_iff_ne, ne_eq] at h2
      refine at_skip rfl ?_
      refine then_n ?_
      refine at_seq rfl ?_
      refine at_seq rfl ?_
      refine rg rfl ?_
      obtain ⟨g2, g91, g1, g10, gl, gr⟩ := shaped_of h1
      refine Rq ?_
      refine Rq ?_
      refine Rq ?_
      refine Rq ?_
      have tr : ∀ y0 y1 y2 y3 y4 y5 y6 y7 y8 y9 y10 y11 y15 y20 y23 y24 y25 y26 y30 y31 y32 y33 y67 y74 y81 y82 y83 y84 y118 z0 z1 z2 z3 : AV, trim [(25, z3), (24, z2), (23, z1), (22, z0), (0, y0), (1, y1), (2, y2), (3, y3), (4, y4), (5, y5), (6, y6), (7, y7), (8, y8), (9, y9), (10, y10), (11, y11), (15, y15), (20, y20), (23, y23), (24, y24), (25, y25), (26, y26), (30, y30), (31, y31), (32, y32), (33, y33), (67, y67), (74, y74), (81, y81), (82, y82), (83, y83), (84, y84), (118, y118)] [(0, y0), (1, y1), (2, y2), (3, y3), (4, y4), (5, y5), (6, y6), (7, y7), (8, y8), (9, y9), (10, y10), (11, y11), (15, y15), (20, y20), (23, y23), (24, y24), (25, y25), (26, y26), (30, y30), (31, y31), (32, y32), (33, y33), (67, y67), (74, y74), (81, y81), (82, y82), (83, y83), (84, y84), (118, y118)] = [(0, y0), (1, y1), (2, y2), (3, y3), (4, y4), (5, y5), (6, y6), (7, y7), (8, y8), (9, y9), (10, y10), (11, y11), (15, y15), (20, y20), (23, z1), (24, z2), (25, z3), (26, y26), (30, y30), (31, y31), (32, y32), (33, y33), (67, y67), (74, y74), (81, y81), (82, y82), (83, y83), (84, y84), (118, y118)] := fun y0 y1 y2 y3 y4 y5 y6 y7 y8 y9 y10 y11 y15 y20 y23 y24 y25 y26 y30 y31 y32 y33 y67 y74 y81 y82 y83 y84 y118 z0 z1 z2 z3 => rfl
      refine R_nil (tr _ _ _ _ _ _ _ _ _ _ _ _ _ _ _ _ _ _ _ _ _ _ _ _ _ _ _ _ _ _ _ _ _) ?_; clear tr
      refine then_n ?_
      refine at_block rfl ?_
      refine loop_n rfl (fun mm kv H' => ∃ u : Nat, ∃ x2 x5 x6 x7 x8 x26 x30 x31 x32 x33 x67 : AV, (kv = [(2, x2), (5, x5), (6, x6), (7, x7), (8, x8), (25, AV.i u), (26, x26), (30, x30), (31, x31), (32, x32), (33, x33), (67, x67)]) ∧ (mm = rows.length - u) ∧ (H' = H ++ [some [rowsAV rows]]) ∧ (u ≤ rows.length) ∧ (∀ i, i < u → ∀ w, w < (gt rows i).length → (0 < i → gt (gt rows (i - 1)) w ≤ gt (gt rows i) w) ∧ (w + 1 < (gt rows i).length → gt (gt rows i) (w + 1) ≤ gt (gt rows i) w))) ⟨0, _, _, _, _, _, _, _, _, _, _, _, rfl, rfl, rfl, by omega, by intro i hi; omega⟩ (by rfl) ?_
      rintro mm kv H' ⟨u, x2, x5, x6, x7, x8, x26, x30, x31, x32, x33, x67, rfl, rfl, rfl, hu, hq⟩
      have tr : ∀ y0 y1 y2 y3 y4 y5 y6 y7 y8 y9 y10 y11 y15 y20 y23 y24 y25 y26 y30 y31 y32 y33 y67 y74 y81 y82 y83 y84 y118 z2 z5 z6 z7 z8 z25 z26 z30 z31 z32 z33 z67 : AV, upd [(0, y0), (1, y1), (2, y2), (3, y3), (4, y4), (5, y5), (6, y6), (7, y7), (8, y8), (9, y9), (10, y10), (11, y11), (15, y15), (20, y20), (23, y23), (24, y24), (25, y25), (26, y26), (30, y30), (31, y31), (32, y32), (33, y33), (67, y67), (74, y74), (81, y81), (82, y82), (83, y83), (84, y84), (118, y118)] [(2, z2), (5, z5), (6, z6), (7, z7), (8, z8), (25, z25), (26, z26), (30, z30), (31, z31), (32, z32), (33, z33), (67, z67)] = [(0, y0), (1, y1), (2, z2), (3, y3), (4, y4), (5, z5), (6, z6), (7, z7), (8, z8), (9, y9), (10, y10), (11, y11), (15, y15), (20, y20), (23, y23), (24, y24), (25, z25), (26, z26), (30, z30), (31, z31), (32, z32), (33, z33), (67, z67), (74, y74), (81, y81), (82, y82), (83, y83), (84, y84), (118, y118)] := fun y0 y1 y2 y3 y4 y5 y6 y7 y8 y9 y10 y11 y15 y20 y23 y24 y25 y26 y30 y31 y32 y33 y67 y74 y81 y82 y83 y84 y118 z2 z5 z6 z7 z8 z25 z26 z30 z31 z32 z33 z67 => rfl
      refine W_to (tr _ _ _ _ _ _ _ _ _ _ _ _ _ _ _ _ _ _ _ _ _ _ _ _ _ _ _ _ _ _ _ _ _ _ _ _ _ _ _ _ _) ?_; clear tr
      refine at_seq rfl ?_
      refine rg rfl ?_
      refine Rq ?_
      have tr : ∀ y0 y1 y2 y3 y4 y5 y6 y7 y8 y9 y10 y11 y15 y20 y23 y24 y25 y26 y30 y31 y32 y33 y67 y74 y81 y82 y83 y84 y118 z0 : AV, trim [(26, z0), (0, y0), (1, y1), (2, y2), (3, y3), (4, y4), (5, y5), (6, y6), (7, y7), (8, y8), (9, y9), (10, y10), (11, y11), (15, y15), (20, y20), (23, y23), (24, y24), (25, y25), (26, y26), (30, y30), (31, y31), (32, y32), (33, y33), (67, y67), (74, y74), (81, y81), (82, y82), (83, y83), (84, y84), (118, y118)] [(0, y0), (1, y1), (2, y2), (3, y3), (4, y4), (5, y5), (6, y6), (7, y7), (8, y8), (9, y9), (10, y10), (11, y11), (15, y15), (20, y20), (23, y23), (24, y24), (25, y25), (26, y26), (30, y30), (31, y31), (32, y32), (33, y33), (67, y67), (74, y74), (81, y81), (82, y82), (83, y83), (84, y84), (118, y118)] = [(0, y0), (1, y1), (2, y2), (3, y3), (4, y4), (5, y5), (6, y6), (7, y7), (8, y8), (9, y9), (10, y10), (11, y11), (15, y15), (20, y20), (23, y23), (24, y24), (25, y25), (26, z0), (30, y30), (31, y31), (32, y32), (33, y33), (67, y67), (74, y74), (81, y81), (82, y82), (83, y83), (84, y84), (118, y118)] := fun y0 y1 y2 y3 y4 y5 y6 y7 y8 y9 y10 y11 y15 y20 y23 y24 y25 y26 y30 y31 y32 y33 y67 y74 y81 y82 y83 y84 y118 z0 => rfl
      refine R_nil (tr _ _ _ _ _ _ _ _ _ _ _ _ _ _ _ _ _ _ _ _ _ _ _ _ _ _ _ _ _ _) ?_; clear tr
      refine then_n ?_
      refine at_seq rfl ?_
      refine cdd (fun h3 => ?_) (fun h3 => ?_)
      · try simp only [decide_eq_true_eq, decide_eq_false_iff_not, Bool.not_eq_true', Bool.not_eq_false', beq_iff_eq, beq_eq_false_iff_ne, ne_eq] at h3
        refine at_skip rfl ?_
        refine then_n ?_
        refine at_seq rfl ?_
        refine at_block rfl ?_
        refine at_seq rfl ?_
        refine rg rfl ?_
        refine Rq ?_
        refine Rq ?_
        refine Rq ?_
        refine Rq ?_
        refine Rq ?_
        have tr : ∀ y0 y1 y2 y3 y4 y5 y6 y7 y8 y9 y10 y11 y15 y20 y23 y24 y25 y26 y30 y31 y32 y33 y67 y74 y81 y82 y83 y84 y118 z0 z1 z2 z3 z4 : AV, trim [(6, z4), (5, z3), (29, z2), (28, z1), (27, z0), (0, y0), (1, y1), (2, y2), (3, y3), (4, y4), (5, y5), (6, y6), (7, y7), (8, y8), (9, y9), (10, y10), (11, y11), (15, y15), (20, y20), (23, y23), (24, y24), (25, y25), (26, y26), (30, y30), (31, y31), (32, y32), (33, y33), (67, y67), (74, y74), (81, y81), (82, y82), (83, y83), (84, y84), (118, y118)] [(0, y0), (1, y1), (2, y2), (3, y3), (4, y4), (5, y5), (6, y6), (7, y7), (8, y8), (9, y9), (10, y10), (11, y11), (15, y15), (20, y20), (23, y23), (24, y24), (25, y25), (26, y26), (30, y30), (31, y31), (32, y32), (33, y33), (67, y67), (74, y74), (81, y81), (82, y82), (83, y83), (84, y84), (118, y118)] = [(0, y0), (1, y1), (2, y2), (3, y3), (4, y4), (5, z3), (6, z4), (7, y7), (8, y8), (9, y9), (10, y10), (11, y11), (15, y15), (20, y20), (23, y23), (24, y24), (25, y25), (26, y26), (30, y30), (31, y31), (32, y32), (33, y33), (67, y67), (74, y74), (81, y81), (82, y82), (83, y83), (84, y84), (118, y118)] := fun y0 y1 y2 y3 y4 y5 y6 y7 y8 y9 y10 y11 y15 y20 y23 y24 y25 y26 y30 y31 y32 y33 y67 y74 y81 y82 y83 y84 y118 z0 z1 z2 z3 z4 => rfl
        refine R_nil (tr _ _ _ _ _ _ _ _ _ _ _ _ _ _ _ _ _ _ _ _ _ _ _ _ _ _ _ _ _ _ _ _ _ _) ?_; clear tr
        refine then_n ?_
        refine at_seq rfl ?_
        refine rg rfl ?_
        have hlu := gl u (by omega)
        have hlu1 := gl (u - 1) (by omega)
        refine Rq ?_
        refine Rq ?_
        refine Rq ?_
        have tr : ∀ y0 y1 y2 y3 y4 y5 y6 y7 y8 y9 y10 y11 y15 y20 y23 y24 y25 y26 y30 y31 y32 y33 y67 y74 y81 y82 y83 y84 y118 z0 z1 z2 : AV, trim [(32, z2), (31, z1), (30, z0), (0, y0), (1, y1), (2, y2), (3, y3), (4, y4), (5, y5), (6, y6), (7, y7), (8, y8), (9, y9), (10, y10), (11, y11), (15, y15), (20, y20), (23, y23), (24, y24), (25, y25), (26, y26), (30, y30), (31, y31), (32, y32), (33, y33), (67, y67), (74, y74), (81, y81), (82, y82), (83, y83), (84, y84), (118, y118)] [(0, y0), (1, y1), (2, y2), (3, y3), (4, y4), (5, y5), (6, y6), (7, y7), (8, y8), (9, y9), (10, y10), (11, y11), (15, y15), (20, y20), (23, y23), (24, y24), (25, y25), (26, y26), (30, y30), (31, y31), (32, y32), (33, y33), (67, y67), (74, y74), (81, y81), (82, y82), (83, y83), (84, y84), (118, y118)] = [(0, y0), (1, y1), (2, y2), (3, y3), (4, y4), (5, y5), (6, y6), (7, y7), (8, y8), (9, y9), (10, y10), (11, y11), (15, y15), (20, y20), (23, y23), (24, y24), (25, y25), (26, y26), (30, z0), (31, z1), (32, z2), (33, y33), (67, y67), (74, y74), (81, y81), (82, y82), (83, y83), (84, y84), (118, y118)] := fun y0 y1 y2 y3 y4 y5 y6 y7 y8 y9 y10 y11 y15 y20 y23 y24 y25 y26 y30 y31 y32 y33 y67 y74 y81 y82 y83 y84 y118 z0 z1 z2 => rfl
        refine R_nil (tr _ _ _ _ _ _ _ _ _ _ _ _ _ _ _ _ _ _ _ _ _ _ _ _ _ _ _ _ _ _ _ _) ?_; clear tr
        refine then_n ?_
        refine at_block rfl ?_
        refine loop_n rfl (fun mm kv H' => ∃ w : Nat, ∃ x2 x7 x8 x33 x67 : AV, (kv = [(2, x2), (7, x7), (8, x8), (32, AV.i w), (33, x33), (67, x67)]) ∧ (mm = (gt rows u).length - w) ∧ (H' = H ++ [some [rowsAV rows]]) ∧ (w ≤ (gt rows u).length) ∧ (∀ j, j < w → (0 < u → gt (gt rows (u - 1)) j ≤ gt (gt rows u) j) ∧ (j + 1 < (gt rows u).length → gt (gt rows u) (j + 1) ≤ gt (gt rows u) j))) ⟨0, _, _, _, _, _, rfl, rfl, rfl, by omega, by intro i hi; omega⟩ (by rfl) ?_
        rintro mm kv H' ⟨w, x2, x7, x8, x33, x67, rfl, rfl, rfl, hw, hs⟩
        have tr : ∀ y0 y1 y2 y3 y4 y5 y6 y7 y8 y9 y10 y11 y15 y20 y23 y24 y25 y26 y30 y31 y32 y33 y67 y74 y81 y82 y83 y84 y118 z2 z7 z8 z32 z33 z67 : AV, upd [(0, y0), (1, y1), (2, y2), (3, y3), (4, y4), (5, y5), (6, y6), (7, y7), (8, y8), (9, y9), (10, y10), (11, y11), (15, y15), (20, y20), (23, y23), (24, y24), (25, y25), (26, y26), (30, y30), (31, y31), (32, y32), (33, y33), (67, y67), (74, y74), (81, y81), (82, y82), (83, y83), (84, y84), (118, y118)] [(2, z2), (7, z7), (8, z8), (32, z32), (33, z33), (67, z67)] = [(0, y0), (1, y1), (2, z2), (3, y3), (4, y4), (5, y5), (6, y6), (7, z7), (8, z8), (9, y9), (10, y10), (11, y11), (15, y15), (20, y20), (23, y23), (24, y24), (25, y25), (26, y26), (30, y30), (31, y31), (32, z32), (33, z33), (67, z67), (74, y74), (81, y81), (82, y82), (83, y83), (84, y84), (118, y118)] := fun y0 y1 y2 y3 y4 y5 y6 y7 y8 y9 y10 y11 y15 y20 y23 y24 y25 y26 y30 y31 y32 y33 y67 y74 y81 y82 y83 y84 y118 z2 z7 z8 z32 z33 z67 => rfl
        refine W_to (tr _ _ _ _ _ _ _ _ _ _ _ _ _ _ _ _ _ _ _ _ _ _ _ _ _ _ _ _ _ _ _ _ _ _ _) ?_; clear tr
        refine at_seq rfl ?_
        refine rg rfl ?_
        refine Rq ?_
        have tr : ∀ y0 y1 y2 y3 y4 y5 y6 y7 y8 y9 y10 y11 y15 y20 y23 y24 y25 y26 y30 y31 y32 y33 y67 y74 y81 y82 y83 y84 y118 z0 : AV, trim [(33, z0), (0, y0), (1, y1), (2, y2), (3, y3), (4, y4), (5, y5), (6, y6), (7, y7), (8, y8), (9, y9), (10, y10), (11, y11), (15, y15), (20, y20), (23, y23), (24, y24), (25, y25), (26, y26), (30, y30), (31, y31), (32, y32), (33, y33), (67, y67), (74, y74), (81, y81), (82, y82), (83, y83), (84, y84), (118, y118)] [(0, y0), (1, y1), (2, y2), (3, y3), (4, y4), (5, y5), (6, y6), (7, y7), (8, y8), (9, y9), (10, y10), (11, y11), (15, y15), (20, y20), (23, y23), (24, y24), (25, y25), (26, y26), (30, y30), (31, y31), (32, y32), (33, y33), (67, y67), (74, y74), (81, y81), (82, y82), (83, y83), (84, y84), (118, y118)] = [(0, y0), (1, y1), (2, y2), (3, y3), (4, y4), (5, y5), (6, y6), (7, y7), (8, y8), (9, y9), (10, y10), (11, y11), (15, y15), (20, y20), (23, y23), (24, y24), (25, y25), (26, y26), (30, y30), (31, y31), (32, y32), (33, z0), (67, y67), (74, y74), (81, y81), (82, y82), (83, y83), (84, y84), (118, y118)] := fun y0 y1 y2 y3 y4 y5 y6 y7 y8 y9 y10 y11 y15 y20 y23 y24 y25 y26 y30 y31 y32 y33 y67 y74 y81 y82 y83 y84 y118 z0 => rfl
        refine R_nil (tr _ _ _ _ _ _ _ _ _ _ _ _ _ _ _ _ _ _ _ _ _ _ _ _ _ _ _ _ _ _) ?_; clear tr
        refine then_n ?_
        refine at_seq rfl ?_
        refine cdd (fun h4 => ?_) (fun h4 => ?_)
        · try simp only [decide_eq_true_eq, decide_eq_false_iff_not, Bool.not_eq_true', Bool.not_eq_false', beq_iff_eq, beq_eq_false_iff_ne, ne_eq] at h4
          refine at_skip rfl ?_
          refine then_n ?_
          refine at_seq rfl ?_
          refine at_block rfl ?_
          refine at_seq rfl ?_
          refine rg rfl ?_
          refine Rq ?_
          refine Rq ?_
          refine Rq ?_
          refine Rq ?_
          refine Rq ?_
          have tr : ∀ y0 y1 y2 y3 y4 y5 y6 y7 y8 y9 y10 y11 y15 y20 y23 y24 y25 y26 y30 y31 y32 y33 y67 y74 y81 y82 y83 y84 y118 z0 z1 z2 z3 z4 : AV, trim [(8, z4), (7, z3), (36, z2), (35, z1), (34, z0), (0, y0), (1, y1), (2, y2), (3, y3), (4, y4), (5, y5), (6, y6), (7, y7), (8, y8), (9, y9), (10, y10), (11, y11), (15, y15), (20, y20), (23, y23), (24, y24), (25, y25), (26, y26), (30, y30), (31, y31), (32, y32), (33, y33), (67, y67), (74, y74), (81, y81), (82, y82), (83, y83), (84, y84), (118, y118)] [(0, y0), (1, y1), (2, y2), (3, y3), (4, y4), (5, y5), (6, y6), (7, y7), (8, y8), (9, y9), (10, y10), (11, y11), (15, y15), (20, y20), (23, y23), (24, y24), (25, y25), (26, y26), (30, y30), (31, y31), (32, y32), (33, y33), (67, y67), (74, y74), (81, y81), (82, y82), (83, y83), (84, y84), (118, y118)] = [(0, y0), (1, y1), (2, y2), (3, y3), (4, y4), (5, y5), (6, y6), (7, z3), (8, z4), (9, y9), (10, y10), (11, y11), (15, y15), (20, y20), (23, y23), (24, y24), (25, y25), (26, y26), (30, y30), (31, y31), (32, y32), (33, y33), (67, y67), (74, y74), (81, y81), (82, y82), (83, y83), (84, y84), (118, y118)] := fun y0 y1 y2 y3 y4 y5 y6 y7 y8 y9 y10 y11 y15 y20 y23 y24 y25 y26 y30 y31 y32 y33 y67 y74 y81 y82 y83 y84 y118 z0 z1 z2 z3 z4 => rfl
          refine R_nil (tr _ _ _ _ _ _ _ _ _ _ _ _ _ _ _ _ _ _ _ _ _ _ _ _ _ _ _ _ _ _ _ _ _ _) ?_; clear tr
          refine then_n ?_
          refine at_seq rfl ?_
          refine rg rfl ?_
          refine Rq ?_
          refine Rq ?_
          refine Rq ?_
          refine Rp_split (fun h5 => ?_) (fun h5 => ?_)
          · try simp only [decide_eq_true_eq, decide_eq_false_iff_not, Bool.not_eq_true', Bool.not_eq_false', beq_iff_eq, beq_eq_false_iff_ne, ne_eq] at h5
            refine Ry ?_
            refine Rq ?_
            refine Ry ?_
            refine Rq ?_
            refine Ry ?_
            refine Rq ?_
            refine Ry ?_
            refine Rq ?_
            refine Ry ?_
            refine Rq ?_
            refine Ry ?_
            refine Rq ?_
            refine Ry ?_
            refine Rq ?_
            refine Ry ?_
            refine Rq ?_
            refine Ry ?_
            refine Rq ?_
            refine Ry ?_
            refine Rq ?_
            refine Ry ?_
            refine Rq ?_
            refine Rq ?_
            refine Rq ?_
            refine Rp_split (fun h6 => ?_) (fun h6 => ?_)
            · try simp only [decide_eq_true_eq, decide_eq_false_iff_not, Bool.not_eq_true', Bool.not_eq_false', beq_iff_eq, beq_eq_false_iff_ne, ne_eq] at h6
              refine Rn ?_
              refine Rn ?_
              refine Rn ?_
              refine Rn ?_
              refine Rn ?_
              refine Rn ?_
              refine Ru ?_
              refine Ru ?_
              refine Ru ?_
              refine Ru ?_
              refine Ru ?_
              refine Ru ?_
              refine Ru ?_
              refine Rn ?_
              refine Rq ?_
              have tr : ∀ y0 y1 y2 y3 y4 y5 y6 y7 y8 y9 y10 y11 y15 y20 y23 y24 y25 y26 y30 y31 y32 y33 y67 y74 y81 y82 y83 y84 y118 z0 z1 z2 z3 z4 z5 z6 z7 z8 z9 z10 z11 z12 z13 z14 z15 z16 z17 z18 z19 z20 z21 z22 z23 z24 z25 z26 z27 z28 z29 z30 : AV, trim [(67, z30), (66, z29), (65, z28), (64, z27), (63, z26), (62, z25), (61, z24), (60, z23), (59, z22), (58, z21), (57, z20), (56, z19), (55, z18), (54, z17), (53, z16), (52, z15), (51, z14), (50, z13), (49, z12), (48, z11), (47, z10), (46, z9), (45, z8), (44, z7), (43, z6), (42, z5), (41, z4), (40, z3), (39, z2), (38, z1), (37, z0), (0, y0), (1, y1), (2, y2), (3, y3), (4, y4), (5, y5), (6, y6), (7, y7), (8, y8), (9, y9), (10, y10), (11, y11), (15, y15), (20, y20), (23, y23), (24, y24), (25, y25), (26, y26), (30, y30), (31, y31), (32, y32), (33, y33), (67, y67), (74, y74), (81, y81), (82, y82), (83, y83), (84, y84), (118, y118)] [(0, y0), (1, y1), (2, y2), (3, y3), (4, y4), (5, y5), (6, y6), (7, y7), (8, y8), (9, y9), (10, y10), (11, y11), (15, y15), (20, y20), (23, y23), (24, y24), (25, y25), (26, y26), (30, y30), (31, y31), (32, y32), (33, y33), (67, y67), (74, y74), (81, y81), (82, y82), (83, y83), (84, y84), (118, y118)] = [(0, y0), (1, y1), (2, y2), (3, y3), (4, y4), (5, y5), (6, y6), (7, y7), (8, y8), (9, y9), (10, y10), (11, y11), (15, y15), (20, y20), (23, y23), (24, y24), (25, y25), (26, y26), (30, y30), (31, y31), (32, y32), (33, y33), (67, z30), (74, y74), (81, y81), (82, y82), (83, y83), (84, y84), (118, y118)] := fun y0 y1 y2 y3 y4 y5 y6 y7 y8 y9 y10 y11 y15 y20 y23 y24 y25 y26 y30 y31 y32 y33 y67 y74 y81 y82 y83 y84 y118 z0 z1 z2 z3 z4 z5 z6 z7 z8 z9 z10 z11 z12 z13 z14 z15 z16 z17 z18 z19 z20 z21 z22 z23 z24 z25 z26 z27 z28 z29 z30 => rfl
              refine R_nil (tr _ _ _ _ _ _ _ _ _ _ _ _ _ _ _ _ _ _ _ _ _ _ _ _ _ _ _ _ _ _ _ _ _ _ _ _ _ _ _ _ _ _ _ _ _ _ _ _ _ _ _ _ _ _ _ _ _ _ _ _) ?_; clear tr
              refine then_n ?_
              refine cdt ?_
              refine at_seq rfl ?_
              refine rg rfl ?_
              refine Rq ?_
              have tr : ∀ y0 y1 y2 y3 y4 y5 y6 y7 y8 y9 y10 y11 y15 y20 y23 y24 y25 y26 y30 y31 y32 y33 y67 y74 y81 y82 y83 y84 y118 z0 : AV, trim [(2, z0), (0, y0), (1, y1), (2, y2), (3, y3), (4, y4), (5, y5), (6, y6), (7, y7), (8, y8), (9, y9), (10, y10), (11, y11), (15, y15), (20, y20), (23, y23), (24, y24), (25, y25), (26, y26), (30, y30), (31, y31), (32, y32), (33, y33), (67, y67), (74, y74), (81, y81), (82, y82), (83, y83), (84, y84), (118, y118)] [(0, y0), (1, y1), (2, y2), (3, y3), (4, y4), (5, y5), (6, y6), (7, y7), (8, y8), (9, y9), (10, y10), (11, y11), (15, y15), (20, y20), (23, y23), (24, y24), (25, y25), (26, y26), (30, y30), (31, y31), (32, y32), (33, y33), (67, y67), (74, y74), (81, y81), (82, y82), (83, y83), (84, y84), (118, y118)] = [(0, y0), (1, y1), (2, z0), (3, y3), (4, y4), (5, y5), (6, y6), (7, y7), (8, y8), (9, y9), (10, y10), (11, y11), (15, y15), (20, y20), (23, y23), (24, y24), (25, y25), (26, y26), (30, y30), (31, y31), (32, y32), (33, y33), (67, y67), (74, y74), (81, y81), (82, y82), (83, y83), (84, y84), (118, y118)] := fun y0 y1 y2 y3 y4 y5 y6 y7 y8 y9 y10 y11 y15 y20 y23 y24 y25 y26 y30 y31 y32 y33 y67 y74 y81 y82 y83 y84 y118 z0 => rfl
              refine R_nil (tr _ _ _ _ _ _ _ _ _ _ _ _ _ _ _ _ _ _ _ _ _ _ _ _ _ _ _ _ _ _) ?_; clear tr
              refine then_n ?_
              refine at_ret rfl ?_
              refine blk_r ?_
              refine then_r ?_
              refine then_r ?_
              refine blk_r ?_
              refine blk_r ?_
              refine then_r ?_
              refine then_r ?_
              refine blk_r ?_
              refine then_r ?_
              refine fpure ?_
              refine ⟨?_, rfl⟩
              rw [checkS, if_neg (fun hh => hh h1), if_neg (fun hh => hh h2), if_pos (fun hh => absurd ((hh u (by omega) w (by omega)).1 (by omega)) (by omega))]
            · try simp only [decide_eq_true_eq, decide_eq_false_iff_not, Bool.not_eq_true', Bool.not_eq_false', beq_iff_eq, beq_eq_false_iff_ne, ne_eq] at h6
              refine Ry ?_
              refine Rq ?_
              refine Ry ?_
              refine Rq ?_
              refine Ry ?_
              refine Rq ?_
              refine Ry ?_
              refine Rq ?_
              refine Ry ?_
              refine Rq ?_
              refine Ry ?_
              refine Rq ?_
              refine Rp_split (fun h7 => ?_) (fun h7 => ?_)
              · try simp only [decide_eq_true_eq, decide_eq_false_iff_not, Bool.not_eq_true', Bool.not_eq_false', beq_iff_eq, beq_eq_false_iff_ne, ne_eq] at h7
                refine Ry ?_
                refine Rq ?_
                refine Ry ?_
                refine Rq ?_
                refine Ry ?_
                refine Rq ?_
                refine Ry ?_
                refine Rq ?_
                refine Ry ?_
                refine Rq ?_
                refine Ry ?_
                refine Rq ?_
                refine Ry ?_
                refine Rq ?_
                refine Ry ?_
                refine Rq ?_
                refine Rq ?_
                have tr : ∀ y0 y1 y2 y3 y4 y5 y6 y7 y8 y9 y10 y11 y15 y20 y23 y24 y25 y26 y30 y31 y32 y33 y67 y74 y81 y82 y83 y84 y118 z0 z1 z2 z3 z4 z5 z6 z7 z8 z9 z10 z11 z12 z13 z14 z15 z16 z17 z18 z19 z20 z21 z22 z23 z24 z25 z26 z27 z28 z29 z30 : AV, trim [(67, z30), (66, z29), (65, z28), (64, z27), (63, z26), (62, z25), (61, z24), (60, z23), (59, z22), (58, z21), (57, z20), (56, z19), (55, z18), (54, z17), (53, z16), (52, z15), (51, z14), (50, z13), (49, z12), (48, z11), (47, z10), (46, z9), (45, z8), (44, z7), (43, z6), (42, z5), (41, z4), (40, z3), (39, z2), (38, z1), (37, z0), (0, y0), (1, y1), (2, y2), (3, y3), (4, y4), (5, y5), (6, y6), (7, y7), (8, y8), (9, y9), (10, y10), (11, y11), (15, y15), (20, y20), (23, y23), (24, y24), (25, y25), (26, y26), (30, y30), (31, y31), (32, y32), (33, y33), (67, y67), (74, y74), (81, y81), (82, y82), (83, y83), (84, y84), (118, y118)] [(0, y0), (1, y1), (2, y2), (3, y3), (4, y4), (5, y5), (6, y6), (7, y7), (8, y8), (9, y9), (10, y10), (11, y11), (15, y15), (20, y20), (23, y23), (24, y24), (25, y25), (26, y26), (30, y30), (31, y31), (32, y32), (33, y33), (67, y67), (74, y74), (81, y81), (82, y82), (83, y83), (84, y84), (118, y118)] = [(0, y0), (1, y1), (2, y2), (3, y3), (4, y4), (5, y5), (6, y6), (7, y7), (8, y8), (9, y9), (10, y10), (11, y11), (15, y15), (20, y20), (23, y23), (24, y24), (25, y25), (26, y26), (30, y30), (31, y31), (32, y32), (33, y33), (67, z30), (74, y74), (81, y81), (82, y82), (83, y83), (84, y84), (118, y118)] := fun y0 y1 y2 y3 y4 y5 y6 y7 y8 y9 y10 y11 y15 y20 y23 y24 y25 y26 y30 y31 y32 y33 y67 y74 y81 y82 y83 y84 y118 z0 z1 z2 z3 z4 z5 z6 z7 z8 z9 z10 z11 z12 z13 z14 z15 z16 z17 z18 z19 z20 z21 z22 z23 z24 z25 z26 z27 z28 z29 z30 => rfl
                refine R_nil (tr _ _ _ _ _ _ _ _ _ _ _ _ _ _ _ _ _ _ _ _ _ _ _ _ _ _ _ _ _ _ _ _ _ _ _ _ _ _ _ _ _ _ _ _ _ _ _ _ _ _ _ _ _ _ _ _ _ _ _ _) ?_; clear tr
                refine then_n ?_
                refine cdd (fun h8 => ?_) (fun h8 => ?_)
                · try simp only [decide_eq_true_eq, decide_eq_false_iff_not, Bool.not_eq_true', Bool.not_eq_false', beq_iff_eq, beq_eq_false_iff_ne, ne_eq] at h8
                  refine at_seq rfl ?_
                  refine rg rfl ?_
                  refine Rq ?_
                  have tr : ∀ y0 y1 y2 y3 y4 y5 y6 y7 y8 y9 y10 y11 y15 y20 y23 y24 y25 y26 y30 y31 y32 y33 y67 y74 y81 y82 y83 y84 y118 z0 : AV, trim [(2, z0), (0, y0), (1, y1), (2, y2), (3, y3), (4, y4), (5, y5), (6, y6), (7, y7), (8, y8), (9, y9), (10, y10), (11, y11), (15, y15), (20, y20), (23, y23), (24, y24), (25, y25), (26, y26), (30, y30), (31, y31), (32, y32), (33, y33), (67, y67), (74, y74), (81, y81), (82, y82), (83, y83), (84, y84), (118, y118)] [(0, y0), (1, y1), (2, y2), (3, y3), (4, y4), (5, y5), (6, y6), (7, y7), (8, y8), (9, y9), (10, y10), (11, y11), (15, y15), (20, y20), (23, y23), (24, y24), (25, y25), (26, y26), (30, y30), (31, y31), (32, y32), (33, y33), (67, y67), (74, y74), (81, y81), (82, y82), (83, y83), (84, y84), (118, y118)] = [(0, y0), (1, y1), (2, z0), (3, y3), (4, y4), (5, y5), (6, y6), (7, y7), (8, y8), (9, y9), (10, y10), (11, y11), (15, y15), (20, y20), (23, y23), (24, y24), (25, y25), (26, y26), (30, y30), (31, y31), (32, y32), (33, y33), (67, y67), (74, y74), (81, y81), (82, y82), (83, y83), (84, y84), (118, y118)] := fun y0 y1 y2 y3 y4 y5 y6 y7 y8 y9 y10 y11 y15 y20 y23 y24 y25 y26 y30 y31 y32 y33 y67 y74 y81 y82 y83 y84 y118 z0 => rfl
                  refine R_nil (tr _ _ _ _ _ _ _ _ _ _ _ _ _ _ _ _ _ _ _ _ _ _ _ _ _ _ _ _ _ _) ?_; clear tr
                  refine then_n ?_
                  refine at_ret rfl ?_
                  refine blk_r ?_
                  refine then_r ?_
                  refine then_r ?_
                  refine blk_r ?_
                  refine blk_r ?_
                  refine then_r ?_
                  refine then_r ?_
                  refine blk_r ?_
                  refine then_r ?_
                  refine fpure ?_
                  refine ⟨?_, rfl⟩
                  rw [checkS, if_neg (fun hh => hh h1), if_neg (fun hh => hh h2), if_pos (fun hh => absurd ((hh u (by omega) w (by omega)).2 (by omega)) (by omega))]
                · try simp only [decide_eq_true_eq, decide_eq_false_iff_not, Bool.not_eq_true', Bool.not_eq_false', beq_iff_eq, beq_eq_false_iff_ne, ne_eq] at h8
                  refine at_skip rfl ?_
                  refine blk_n ?_
                  refine then_n ?_
                  refine rg rfl ?_
                  refine Rq ?_
                  refine Rq ?_
                  have tr : ∀ y0 y1 y2 y3 y4 y5 y6 y7 y8 y9 y10 y11 y15 y20 y23 y24 y25 y26 y30 y31 y32 y33 y67 y74 y81 y82 y83 y84 y118 z0 z1 : AV, trim [(32, z1), (68, z0), (0, y0), (1, y1), (2, y2), (3, y3), (4, y4), (5, y5), (6, y6), (7, y7), (8, y8), (9, y9), (10, y10), (11, y11), (15, y15), (20, y20), (23, y23), (24, y24), (25, y25), (26, y26), (30, y30), (31, y31), (32, y32), (33, y33), (67, y67), (74, y74), (81, y81), (82, y82), (83, y83), (84, y84), (118, y118)] [(0, y0), (1, y1), (2, y2), (3, y3), (4, y4), (5, y5), (6, y6), (7, y7), (8, y8), (9, y9), (10, y10), (11, y11), (15, y15), (20, y20), (23, y23), (24, y24), (25, y25), (26, y26), (30, y30), (31, y31), (32, y32), (33, y33), (67, y67), (74, y74), (81, y81), (82, y82), (83, y83), (84, y84), (118, y118)] = [(0, y0), (1, y1), (2, y2), (3, y3), (4, y4), (5, y5), (6, y6), (7, y7), (8, y8), (9, y9), (10, y10), (11, y11), (15, y15), (20, y20), (23, y23), (24, y24), (25, y25), (26, y26), (30, y30), (31, y31), (32, z1), (33, y33), (67, y67), (74, y74), (81, y81), (82, y82), (83, y83), (84, y84), (118, y118)] := fun y0 y1 y2 y3 y4 y5 y6 y7 y8 y9 y10 y11 y15 y20 y23 y24 y25 y26 y30 y31 y32 y33 y67 y74 y81 y82 y83 y84 y118 z0 z1 => rfl
                  refine R_nil (tr _ _ _ _ _ _ _ _ _ _ _ _ _ _ _ _ _ _ _ _ _ _ _ _ _ _ _ _ _ _ _) ?_; clear tr
                  refine then_n ?_
                  exact ⟨_, _, ⟨w + 1, _, _, _, _, _, rfl, rfl, rfl, by omega, by exact all_step hs ⟨fun _ => by omega, fun _ => by omega⟩⟩, by rfl, by omega⟩
              · try simp only [decide_eq_true_eq, decide_eq_false_iff_not, Bool.not_eq_true', Bool.not_eq_false', beq_iff_eq, beq_eq_false_iff_ne, ne_eq] at h7
                refine Rn ?_
                refine Rn ?_
                refine Rn ?_
                refine Rn ?_
                refine Rn ?_
                refine Rn ?_
                refine Rn ?_
                refine Ry ?_
                refine Rq ?_
                refine Rq ?_
                have tr : ∀ y0 y1 y2 y3 y4 y5 y6 y7 y8 y9 y10 y11 y15 y20 y23 y24 y25 y26 y30 y31 y32 y33 y67 y74 y81 y82 y83 y84 y118 z0 z1 z2 z3 z4 z5 z6 z7 z8 z9 z10 z11 z12 z13 z14 z15 z16 z17 z18 z19 z20 z21 z22 z23 z24 z25 z26 z27 z28 z29 z30 : AV, trim [(67, z30), (66, z29), (65, z28), (64, z27), (63, z26), (62, z25), (61, z24), (60, z23), (59, z22), (58, z21), (57, z20), (56, z19), (55, z18), (54, z17), (53, z16), (52, z15), (51, z14), (50, z13), (49, z12), (48, z11), (47, z10), (46, z9), (45, z8), (44, z7), (43, z6), (42, z5), (41, z4), (40, z3), (39, z2), (38, z1), (37, z0), (0, y0), (1, y1), (2, y2), (3, y3), (4, y4), (5, y5), (6, y6), (7, y7), (8, y8), (9, y9), (10, y10), (11, y11), (15, y15), (20, y20), (23, y23), (24, y24), (25, y25), (26, y26), (30, y30), (31, y31), (32, y32), (33, y33), (67, y67), (74, y74), (81, y81), (82, y82), (83, y83), (84, y84), (118, y118)] [(0, y0), (1, y1), (2, y2), (3, y3), (4, y4), (5, y5), (6, y6), (7, y7), (8, y8), (9, y9), (10, y10), (11, y11), (15, y15), (20, y20), (23, y23), (24, y24), (25, y25), (26, y26), (30, y30), (31, y31), (32, y32), (33, y33), (67, y67), (74, y74), (81, y81), (82, y82), (83, y83), (84, y84), (118, y118)] = [(0, y0), (1, y1), (2, y2), (3, y3), (4, y4), (5, y5), (6, y6), (7, y7), (8, y8), (9, y9), (10, y10), (11, y11), (15, y15), (20, y20), (23, y23), (24, y24), (25, y25), (26, y26), (30, y30), (31, y31), (32, y32), (33, y33), (67, z30), (74, y74), (81, y81), (82, y82), (83, y83), (84, y84), (118, y118)] := fun y0 y1 y2 y3 y4 y5 y6 y7 y8 y9 y10 y11 y15 y20 y23 y24 y25 y26 y30 y31 y32 y33 y67 y74 y81 y82 y83 y84 y118 z0 z1 z2 z3 z4 z5 z6 z7 z8 z9 z10 z11 z12 z13 z14 z15 z16 z17 z18 z19 z20 z21 z22 z23 z24 z25 z26 z27 z28 z29 z30 => rfl
                refine R_nil (tr _ _ _ _ _ _ _ _ _ _ _ _ _ _ _ _ _ _ _ _ _ _ _ _ _ _ _ _ _ _ _ _ _ _ _ _ _ _ _ _ _ _ _ _ _ _ _ _ _ _ _ _ _ _ _ _ _ _ _ _) ?_; clear tr
                refine then_n ?_
                refine cdf ?_
                refine at_skip rfl ?_
                refine blk_n ?_
                refine then_n ?_
                refine rg rfl ?_
                refine Rq ?_
                refine Rq ?_
                have tr : ∀ y0 y1 y2 y3 y4 y5 y6 y7 y8 y9 y10 y11 y15 y20 y23 y24 y25 y26 y30 y31 y32 y33 y67 y74 y81 y82 y83 y84 y118 z0 z1 : AV, trim [(32, z1), (68, z0), (0, y0), (1, y1), (2, y2), (3, y3), (4, y4), (5, y5), (6, y6), (7, y7), (8, y8), (9, y9), (10, y10), (11, y11), (15, y15), (20, y20), (23, y23), (24, y24), (25, y25), (26, y26), (30, y30), (31, y31), (32, y32), (33, y33), (67, y67), (74, y74), (81, y81), (82, y82), (83, y83), (84, y84), (118, y118)] [(0, y0), (1, y1), (2, y2), (3, y3), (4, y4), (5, y5), (6, y6), (7, y7), (8, y8), (9, y9), (10, y10), (11, y11), (15, y15), (20, y20), (23, y23), (24, y24), (25, y25), (26, y26), (30, y30), (31, y31), (32, y32), (33, y33), (67, y67), (74, y74), (81, y81), (82, y82), (83, y83), (84, y84), (118, y118)] = [(0, y0), (1, y1), (2, y2), (3, y3), (4, y4), (5, y5), (6, y6), (7, y7), (8, y8), (9, y9), (10, y10), (11, y11), (15, y15), (20, y20), (23, y23), (24, y24), (25, y25), (26, y26), (30, y30), (31, y31), (32, z1), (33, y33), (67, y67), (74, y74), (81, y81), (82, y82), (83, y83), (84, y84), (118, y118)] := fun y0 y1 y2 y3 y4 y5 y6 y7 y8 y9 y10 y11 y15 y20 y23 y24 y25 y26 y30 y31 y32 y33 y67 y74 y81 y82 y83 y84 y118 z0 z1 => rfl
                refine R_nil (tr _ _ _ _ _ _ _ _ _ _ _ _ _ _ _ _ _ _ _ _ _ _ _ _ _ _ _ _ _ _ _) ?_; clear tr
                refine then_n ?_
                exact ⟨_, _, ⟨w + 1, _, _, _, _, _, rfl, rfl, rfl, by omega, by exact all_step hs ⟨fun _ => by omega, fun _ => by omega⟩⟩, by rfl, by omega⟩
          · try simp only [decide_eq_true_eq, decide_eq_false_iff_not, Bool.not_eq_true', Bool.not_eq_false', beq_iff_eq, beq_eq_false_iff_ne, ne_eq] at h5
            refine Rn ?_
            refine Rn ?_
            refine Rn ?_
            refine Rn ?_
            refine Rn ?_
            refine Rn ?_
            refine Rn ?_
            refine Rn ?_
            refine Rn ?_
            refine Rn ?_
            refine Rn ?_
            refine Rq ?_
            refine Rq ?_
            refine Ry ?_
            refine Rq ?_
            refine Ry ?_
            refine Rq ?_
            refine Ry ?_
            refine Rq ?_
            refine Ry ?_
            refine Rq ?_
            refine Ry ?_
            refine Rq ?_
            refine Ry ?_
            refine Rq ?_
            refine Rp_split (fun h9 => ?_) (fun h9 => ?_)
            · try simp only [decide_eq_true_eq, decide_eq_false_iff_not, Bool.not_eq_true', Bool.not_eq_false', beq_iff_eq, beq_eq_false_iff_ne, ne_eq] at h9
              refine Ry ?_
              refine Rq ?_
              refine Ry ?_
              refine Rq ?_
              refine Ry ?_
              refine Rq ?_
              refine Ry ?_
              refine Rq ?_
              refine Ry ?_
              refine Rq ?_
              refine Ry ?_
              refine Rq ?_
              refine Ry ?_
              refine Rq ?_
              refine Ry ?_
              refine Rq ?_
              refine Rq ?_
              have tr : ∀ y0 y1 y2 y3 y4 y5 y6 y7 y8 y9 y10 y11 y15 y20 y23 y24 y25 y26 y30 y31 y32 y33 y67 y74 y81 y82 y83 y84 y118 z0 z1 z2 z3 z4 z5 z6 z7 z8 z9 z10 z11 z12 z13 z14 z15 z16 z17 z18 z19 z20 z21 z22 z23 z24 z25 z26 z27 z28 z29 z30 : AV, trim [(67, z30), (66, z29), (65, z28), (64, z27), (63, z26), (62, z25), (61, z24), (60, z23), (59, z22), (58, z21), (57, z20), (56, z19), (55, z18), (54, z17), (53, z16), (52, z15), (51, z14), (50, z13), (49, z12), (48, z11), (47, z10), (46, z9), (45, z8), (44, z7), (43, z6), (42, z5), (41, z4), (40, z3), (39, z2), (38, z1), (37, z0), (0, y0), (1, y1), (2, y2), (3, y3), (4, y4), (5, y5), (6, y6), (7, y7), (8, y8), (9, y9), (10, y10), (11, y11), (15, y15), (20, y20), (23, y23), (24, y24), (25, y25), (26, y26), (30, y30), (31, y31), (32, y32), (33, y33), (67, y67), (74, y74), (81, y81), (82, y82), (83, y83), (84, y84), (118, y118)] [(0, y0), (1, y1), (2, y2), (3, y3), (4, y4), (5, y5), (6, y6), (7, y7), (8, y8), (9, y9), (10, y10), (11, y11), (15, y15), (20, y20), (23, y23), (24, y24), (25, y25), (26, y26), (30, y30), (31, y31), (32, y32), (33, y33), (67, y67), (74, y74), (81, y81), (82, y82), (83, y83), (84, y84), (118, y118)] = [(0, y0), (1, y1), (2, y2), (3, y3), (4, y4), (5, y5), (6, y6), (7, y7), (8, y8), (9, y9), (10, y10), (11, y11), (15, y15), (20, y20), (23, y23), (24, y24), (25, y25), (26, y26), (30, y30), (31, y31), (32, y32), (33, y33), (67, z30), (74, y74), (81, y81), (82, y82), (83, y83), (84, y84), (118, y118)] := fun y0 y1 y2 y3 y4 y5 y6 y7 y8 y9 y10 y11 y15 y20 y23 y24 y25 y26 y30 y31 y32 y33 y67 y74 y81 y82 y83 y84 y118 z0 z1 z2 z3 z4 z5 z6 z7 z8 z9 z10 z11 z12 z13 z14 z15 z16 z17 z18 z19 z20 z21 z22 z23 z24 z25 z26 z27 z28 z29 z30 => rfl
              refine R_nil (tr _ _ _ _ _ _ _ _ _ _ _ _ _ _ _ _ _ _ _ _ _ _ _ _ _ _ _ _ _ _ _ _ _ _ _ _ _ _ _ _ _ _ _ _ _ _ _ _ _ _ _ _ _ _ _ _ _ _ _ _) ?_; clear tr
              refine then_n ?_
              refine cdd (fun h10 => ?_) (fun h10 => ?_)
              · try simp only [decide_eq_true_eq, decide_eq_false_iff_not, Bool.not_eq_true', Bool.not_eq_false', beq_iff_eq, beq_eq_false_iff_ne, ne_eq] at h10
                refine at_seq rfl ?_
                refine rg rfl ?_
                refine Rq ?_
                have tr : ∀ y0 y1 y2 y3 y4 y5 y6 y7 y8 y9 y10 y11 y15 y20 y23 y24 y25 y26 y30 y31 y32 y33 y67 y74 y81 y82 y83 y84 y118 z0 : AV, trim [(2, z0), (0, y0), (1, y1), (2, y2), (3, y3), (4, y4), (5, y5), (6, y6), (7, y7), (8, y8), (9, y9), (10, y10), (11, y11), (15, y15), (20, y20), (23, y23), (24, y24), (25, y25), (26, y26), (30, y30), (31, y31), (32, y32), (33, y33), (67, y67), (74, y74), (81, y81), (82, y82), (83, y83), (84, y84), (118, y118)] [(0, y0), (1, y1), (2, y2), (3, y3), (4, y4), (5, y5), (6, y6), (7, y7), (8, y8), (9, y9), (10, y10), (11, y11), (15, y15), (20, y20), (23, y23), (24, y24), (25, y25), (26, y26), (30, y30), (31, y31), (32, y32), (33, y33), (67, y67), (74, y74), (81, y81), (82, y82), (83, y83), (84, y84), (118, y118)] = [(0, y0), (1, y1), (2, z0), (3, y3), (4, y4), (5, y5), (6, y6), (7, y7), (8, y8), (9, y9), (10, y10), (11, y11), (15, y15), (20, y20), (23, y23), (24, y24), (25, y25), (26, y26), (30, y30), (31, y31), (32, y32), (33, y33), (67, y67), (74, y74), (81, y81), (82, y82), (83, y83), (84, y84), (118, y118)] := fun y0 y1 y2 y3 y4 y5 y6 y7 y8 y9 y10 y11 y15 y20 y23 y24 y25 y26 y30 y31 y32 y33 y67 y74 y81 y82 y83 y84 y118 z0 => rfl
                refine R_nil (tr _ _ _ _ _ _ _ _ _ _ _ _ _ _ _ _ _ _ _ _ _ _ _ _ _ _ _ _ _ _) ?_; clear tr
                refine then_n ?_
                refine at_ret rfl ?_
                refine blk_r ?_
                refine then_r ?_
                refine then_r ?_
                refine blk_r ?_
                refine blk_r ?_
                refine then_r ?_
                refine then_r ?_
                refine blk_r ?_
                refine then_r ?_
                refine fpure ?_
                refine ⟨?_, rfl⟩
                rw [checkS, if_neg (fun hh => hh h1), if_neg (fun hh => hh h2), if_pos (fun hh => absurd ((hh u (by omega) w (by omega)).2 (by omega)) (by omega))]
              · try simp only [decide_eq_true_eq, decide_eq_false_iff_not, Bool.not_eq_true', Bool.not_eq_false', beq_iff_eq, beq_eq_false_iff_ne, ne_eq] at h10
                refine at_skip rfl ?_
                refine blk_n ?_
                refine then_n ?_
                refine rg rfl ?_
                refine Rq ?_
                refine Rq ?_
                have tr : ∀ y0 y1 y2 y3 y4 y5 y6 y7 y8 y9 y10 y11 y15 y20 y23 y24 y25 y26 y30 y31 y32 y33 y67 y74 y81 y82 y83 y84 y118 z0 z1 : AV, trim [(32, z1), (68, z0), (0, y0), (1, y1), (2, y2), (3, y3), (4, y4), (5, y5), (6, y6), (7, y7), (8, y8), (9, y9), (10, y10), (11, y11), (15, y15), (20, y20), (23, y23), (24, y24), (25, y25), (26, y26), (30, y30), (31, y31), (32, y32), (33, y33), (67, y67), (74, y74), (81, y81), (82, y82), (83, y83), (84, y84), (118, y118)] [(0, y0), (1, y1), (2, y2), (3, y3), (4, y4), (5, y5), (6, y6), (7, y7), (8, y8), (9, y9), (10, y10), (11, y11), (15, y15), (20, y20), (23, y23), (24, y24), (25, y25), (26, y26), (30, y30), (31, y31), (32, y32), (33, y33), (67, y67), (74, y74), (81, y81), (82, y82), (83, y83), (84, y84), (118, y118)] = [(0, y0), (1, y1), (2, y2), (3, y3), (4, y4), (5, y5), (6, y6), (7, y7), (8, y8), (9, y9), (10, y10), (11, y11), (15, y15), (20, y20), (23, y23), (24, y24), (25, y25), (26, y26), (30, y30), (31, y31), (32, z1), (33, y33), (67, y67), (74, y74), (81, y81), (82, y82), (83, y83), (84, y84), (118, y118)] := fun y0 y1 y2 y3 y4 y5 y6 y7 y8 y9 y10 y11 y15 y20 y23 y24 y25 y26 y30 y31 y32 y33 y67 y74 y81 y82 y83 y84 y118 z0 z1 => rfl
                refine R_nil (tr _ _ _ _ _ _ _ _ _ _ _ _ _ _ _ _ _ _ _ _ _ _ _ _ _ _ _ _ _ _ _) ?_; clear tr
                refine then_n ?_
                exact ⟨_, _, ⟨w + 1, _, _, _, _, _, rfl, rfl, rfl, by omega, by exact all_step hs ⟨fun _ => by omega, fun _ => by omega⟩⟩, by rfl, by omega⟩
            · try simp only [decide_eq_true_eq, decide_eq_false_iff_not, Bool.not_eq_true', Bool.not_eq_false', beq_iff_eq, beq_eq_false_iff_ne, ne_eq] at h9
              refine Rn ?_
              refine Rn ?_
              refine Rn ?_
              refine Rn ?_
              refine Rn ?_
              refine Rn ?_
              refine Rn ?_
              refine Ry ?_
              refine Rq ?_
              refine Rq ?_
              have tr : ∀ y0 y1 y2 y3 y4 y5 y6 y7 y8 y9 y10 y11 y15 y20 y23 y24 y25 y26 y30 y31 y32 y33 y67 y74 y81 y82 y83 y84 y118 z0 z1 z2 z3 z4 z5 z6 z7 z8 z9 z10 z11 z12 z13 z14 z15 z16 z17 z18 z19 z20 z21 z22 z23 z24 z25 z26 z27 z28 z29 z30 : AV, trim [(67, z30), (66, z29), (65, z28), (64, z27), (63, z26), (62, z25), (61, z24), (60, z23), (59, z22), (58, z21), (57, z20), (56, z19), (55, z18), (54, z17), (53, z16), (52, z15), (51, z14), (50, z13), (49, z12), (48, z11), (47, z10), (46, z9), (45, z8), (44, z7), (43, z6), (42, z5), (41, z4), (40, z3), (39, z2), (38, z1), (37, z0), (0, y0), (1, y1), (2, y2), (3, y3), (4, y4), (5, y5), (6, y6), (7, y7), (8, y8), (9, y9), (10, y10), (11, y11), (15, y15), (20, y20), (23, y23), (24, y24), (25, y25), (26, y26), (30, y30), (31, y31), (32, y32), (33, y33), (67, y67), (74, y74), (81, y81), (82, y82), (83, y83), (84, y84), (118, y118)] [(0, y0), (1, y1), (2, y2), (3, y3), (4, y4), (5, y5), (6, y6), (7, y7), (8, y8), (9, y9), (10, y10), (11, y11), (15, y15), (20, y20), (23, y23), (24, y24), (25, y25), (26, y26), (30, y30), (31, y31), (32, y32), (33, y33), (67, y67), (74, y74), (81, y81), (82, y82), (83, y83), (84, y84), (118, y118)] = [(0, y0), (1, y1), (2, y2), (3, y3), (4, y4), (5, y5), (6, y6), (7, y7), (8, y8), (9, y9), (10, y10), (11, y11), (15, y15), (20, y20), (23, y23), (24, y24), (25, y25), (26, y26), (30, y30), (31, y31), (32, y32), (33, y33), (67, z30), (74, y74), (81, y81), (82, y82), (83, y83), (84, y84), (118, y118)] := fun y0 y1 y2 y3 y4 y5 y6 y7 y8 y9 y10 y11 y15 y20 y23 y24 y25 y26 y30 y31 y32 y33 y67 y74 y81 y82 y83 y84 y118 z0 z1 z2 z3 z4 z5 z6 z7 z8 z9 z10 z11 z12 z13 z14 z15 z16 z17 z18 z19 z20 z21 z22 z23 z24 z25 z26 z27 z28 z29 z30 => rfl
              refine R_nil (tr _ _ _ _ _ _ _ _ _ _ _ _ _ _ _ _ _ _ _ _ _ _ _ _ _ _ _ _ _ _ _ _ _ _ _ _ _ _ _ _ _ _ _ _ _ _ _ _ _ _ _ _ _ _ _ _ _ _ _ _) ?_; clear tr
              refine then_n ?_
              refine cdf ?_
              refine at_skip rfl ?_
              refine blk_n ?_
              refine then_n ?_
              refine rg rfl ?_
              refine Rq ?_
              refine Rq ?_
              have tr : ∀ y0 y1 y2 y3 y4 y5 y6 y7 y8 y9 y10 y11 y15 y20 y23 y24 y25 y26 y30 y31 y32 y33 y67 y74 y81 y82 y83 y84 y118 z0 z1 : AV, trim [(32, z1), (68, z0), (0, y0), (1, y1), (2, y2), (3, y3), (4, y4), (5, y5), (6, y6), (7, y7), (8, y8), (9, y9), (10, y10), (11, y11), (15, y15), (20, y20), (23, y23), (24, y24), (25, y25), (26, y26), (30, y30), (31, y31), (32, y32), (33, y33), (67, y67), (74, y74), (81, y81), (82, y82), (83, y83), (84, y84), (118, y118)] [(0, y0), (1, y1), (2, y2), (3, y3), (4, y4), (5, y5), (6, y6), (7, y7), (8, y8), (9, y9), (10, y10), (11, y11), (15, y15), (20, y20), (23, y23), (24, y24), (25, y25), (26, y26), (30, y30), (31, y31), (32, y32), (33, y33), (67, y67), (74, y74), (81, y81), (82, y82), (83, y83), (84, y84), (118, y118)] = [(0, y0), (1, y1), (2, y2), (3, y3), (4, y4), (5, y5), (6, y6), (7, y7), (8, y8), (9, y9), (10, y10), (11, y11), (15, y15), (20, y20), (23, y23), (24, y24), (25, y25), (26, y26), (30, y30), (31, y31), (32, z1), (33, y33), (67, y67), (74, y74), (81, y81), (82, y82), (83, y83), (84, y84), (118, y118)] := fun y0 y1 y2 y3 y4 y5 y6 y7 y8 y9 y10 y11 y15 y20 y23 y24 y25 y26 y30 y31 y32 y33 y67 y74 y81 y82 y83 y84 y118 z0 z1 => rfl
              refine R_nil (tr _ _ _ _ _ _ _ _ _ _ _ _ _ _ _ _ _ _ _ _ _ _ _ _ _ _ _ _ _ _ _) ?_; clear tr
              refine then_n ?_
              exact ⟨_, _, ⟨w + 1, _, _, _, _, _, rfl, rfl, rfl, by omega, by exact all_step hs ⟨fun _ => by omega, fun _ => by omega⟩⟩, by rfl, by omega⟩
        · try simp only [decide_eq_true_eq, decide_eq_false_iff_not, Bool.not_eq_true', Bool.not_eq_false', beq_iff_eq, beq_eq_false_iff_ne, ne_eq] at h4
          refine at_exit rfl ?_
          refine then_x ?_
          refine then_x ?_
          refine blk_x ?_
          refine blk_n ?_
          refine then_n ?_
          refine rg rfl ?_
          refine Rq ?_
          refine Rq ?_
          have tr : ∀ y0 y1 y2 y3 y4 y5 y6 y7 y8 y9 y10 y11 y15 y20 y23 y24 y25 y26 y30 y31 y32 y33 y67 y74 y81 y82 y83 y84 y118 z0 z1 : AV, trim [(25, z1), (69, z0), (0, y0), (1, y1), (2, y2), (3, y3), (4, y4), (5, y5), (6, y6), (7, y7), (8, y8), (9, y9), (10, y10), (11, y11), (15, y15), (20, y20), (23, y23), (24, y24), (25, y25), (26, y26), (30, y30), (31, y31), (32, y32), (33, y33), (67, y67), (74, y74), (81, y81), (82, y82), (83, y83), (84, y84), (118, y118)] [(0, y0), (1, y1), (2, y2), (3, y3), (4, y4), (5, y5), (6, y6), (7, y7), (8, y8), (9, y9), (10, y10), (11, y11), (15, y15), (20, y20), (23, y23), (24, y24), (25, y25), (26, y26), (30, y30), (31, y31), (32, y32), (33, y33), (67, y67), (74, y74), (81, y81), (82, y82), (83, y83), (84, y84), (118, y118)] = [(0, y0), (1, y1), (2, y2), (3, y3), (4, y4), (5, y5), (6, y6), (7, y7), (8, y8), (9, y9), (10, y10), (11, y11), (15, y15), (20, y20), (23, y23), (24, y24), (25, z1), (26, y26), (30, y30), (31, y31), (32, y32), (33, y33), (67, y67), (74, y74), (81, y81), (82, y82), (83, y83), (84, y84), (118, y118)] := fun y0 y1 y2 y3 y4 y5 y6 y7 y8 y9 y10 y11 y15 y20 y23 y24 y25 y26 y30 y31 y32 y33 y67 y74 y81 y82 y83 y84 y118 z0 z1 => rfl
          refine R_nil (tr _ _ _ _ _ _ _ _ _ _ _ _ _ _ _ _ _ _ _ _ _ _ _ _ _ _ _ _ _ _ _) ?_; clear tr
          refine then_n ?_
          exact ⟨_, _, ⟨u + 1, _, _, _, _, _, _, _, _, _, _, _, rfl, rfl, rfl, by omega, by exact all_step hq fun w hw => hs w (by omega)⟩, by rfl, by omega⟩
      · try simp only [decide_eq_true_eq, decide_eq_false_iff_not, Bool.not_eq_true', Bool.not_eq_false', beq_iff_eq, beq_eq_false_iff_ne, ne_eq] at h3
        refine at_exit rfl ?_
        refine then_x ?_
        refine then_x ?_
        refine blk_x ?_
        refine then_n ?_
        refine at_seq rfl ?_
        refine at_seq rfl ?_
        refine rg rfl ?_
        have hdn : Down rows := fun i hi w hw => hq i (by omega) w hw
        refine Rq ?_
        have tr : ∀ y0 y1 y2 y3 y4 y5 y6 y7 y8 y9 y10 y11 y15 y20 y23 y24 y25 y26 y30 y31 y32 y33 y67 y74 y81 y82 y83 y84 y118 z0 : AV, trim [(9, z0), (0, y0), (1, y1), (2, y2), (3, y3), (4, y4), (5, y5), (6, y6), (7, y7), (8, y8), (9, y9), (10, y10), (11, y11), (15, y15), (20, y20), (23, y23), (24, y24), (25, y25), (26, y26), (30, y30), (31, y31), (32, y32), (33, y33), (67, y67), (74, y74), (81, y81), (82, y82), (83, y83), (84, y84), (118, y118)] [(0, y0), (1, y1), (2, y2), (3, y3), (4, y4), (5, y5), (6, y6), (7, y7), (8, y8), (9, y9), (10, y10), (11, y11), (15, y15), (20, y20), (23, y23), (24, y24), (25, y25), (26, y26), (30, y30), (31, y31), (32, y32), (33, y33), (67, y67), (74, y74), (81, y81), (82, y82), (83, y83), (84, y84), (118, y118)] = [(0, y0), (1, y1), (2, y2), (3, y3), (4, y4), (5, y5), (6, y6), (7, y7), (8, y8), (9, z0), (10, y10), (11, y11), (15, y15), (20, y20), (23, y23), (24, y24), (25, y25), (26, y26), (30, y30), (31, y31), (32, y32), (33, y33), (67, y67), (74, y74), (81, y81), (82, y82), (83, y83), (84, y84), (118, y118)] := fun y0 y1 y2 y3 y4 y5 y6 y7 y8 y9 y10 y11 y15 y20 y23 y24 y25 y26 y30 y31 y32 y33 y67 y74 y81 y82 y83 y84 y118 z0 => rfl
        refine R_nil (tr _ _ _ _ _ _ _ _ _ _ _ _ _ _ _ _ _ _ _ _ _ _ _ _ _ _ _ _ _ _) ?_; clear tr
        refine then_n ?_
        refine at_block rfl ?_
        refine loop_n rfl (fun mm kv H' => ∃ v : Nat, ∃ x2 x10 x11 x74 x81 x82 x83 x84 x118 : AV, (kv = [(2, x2), (9, AV.i v), (10, x10), (11, x11), (74, x74), (81, x81), (82, x82), (83, x83), (84, x84), (118, x118)]) ∧ (mm = rows.length - v) ∧ (H' = H ++ [some [rowsAV rows]]) ∧ (2 ≤ v) ∧ (v ≤ rows.length) ∧ (∀ i, i < v → 2 ≤ i → ∀ w, w < (gt rows i).length → gt (gt rows i) w - gt (gt rows (i - 1)) w ≤ gt (gt rows (i - 1)) w - gt (gt rows (i - 2)) w)) ⟨2, _, _, _, _, _, _, _, _, _, rfl, rfl, rfl, by omega, by omega, by intro i hi; omega⟩ (by rfl) ?_
        rintro mm kv H' ⟨v, x2, x10, x11, x74, x81, x82, x83, x84, x118, rfl, rfl, rfl, h2v, hv, hc⟩
        have tr : ∀ y0 y1 y2 y3 y4 y5 y6 y7 y8 y9 y10 y11 y15 y20 y23 y24 y25 y26 y30 y31 y32 y33 y67 y74 y81 y82 y83 y84 y118 z2 z9 z10 z11 z74 z81 z82 z83 z84 z118 : AV, upd [(0, y0), (1, y1), (2, y2), (3, y3), (4, y4), (5, y5), (6, y6), (7, y7), (8, y8), (9, y9), (10, y10), (11, y11), (15, y15), (20, y20), (23, y23), (24, y24), (25, y25), (26, y26), (30, y30), (31, y31), (32, y32), (33, y33), (67, y67), (74, y74), (81, y81), (82, y82), (83, y83), (84, y84), (118, y118)] [(2, z2), (9, z9), (10, z10), (11, z11), (74, z74), (81, z81), (82, z82), (83, z83), (84, z84), (118, z118)] = [(0, y0), (1, y1), (2, z2), (3, y3), (4, y4), (5, y5), (6, y6), (7, y7), (8, y8), (9, z9), (10, z10), (11, z11), (15, y15), (20, y20), (23, y23), (24, y24), (25, y25), (26, y26), (30, y30), (31, y31), (32, y32), (33, y33), (67, y67), (74, z74), (81, z81), (82, z82), (83, z83), (84, z84), (118, z118)] := fun y0 y1 y2 y3 y4 y5 y6 y7 y8 y9 y10 y11 y15 y20 y23 y24 y25 y26 y30 y31 y32 y33 y67 y74 y81 y82 y83 y84 y118 z2 z9 z10 z11 z74 z81 z82 z83 z84 z118 => rfl
        refine W_to (tr _ _ _ _ _ _ _ _ _ _ _ _ _ _ _ _ _ _ _ _ _ _ _ _ _ _ _ _ _ _ _ _ _ _ _ _ _ _ _) ?_; clear tr
        refine at_seq rfl ?_
        refine at_seq rfl ?_
        refine rg rfl ?_
        refine Rq ?_
        refine Rq ?_
        refine Rq ?_
        refine Rq ?_
        refine Rq ?_
        have tr : ∀ y0 y1 y2 y3 y4 y5 y6 y7 y8 y9 y10 y11 y15 y20 y23 y24 y25 y26 y30 y31 y32 y33 y67 y74 y81 y82 y83 y84 y118 z0 z1 z2 z3 z4 : AV, trim [(74, z4), (73, z3), (72, z2), (71, z1), (70, z0), (0, y0), (1, y1), (2, y2), (3, y3), (4, y4), (5, y5), (6, y6), (7, y7), (8, y8), (9, y9), (10, y10), (11, y11), (15, y15), (20, y20), (23, y23), (24, y24), (25, y25), (26, y26), (30, y30), (31, y31), (32, y32), (33, y33), (67, y67), (74, y74), (81, y81), (82, y82), (83, y83), (84, y84), (118, y118)] [(0, y0), (1, y1), (2, y2), (3, y3), (4, y4), (5, y5), (6, y6), (7, y7), (8, y8), (9, y9), (10, y10), (11, y11), (15, y15), (20, y20), (23, y23), (24, y24), (25, y25), (26, y26), (30, y30), (31, y31), (32, y32), (33, y33), (67, y67), (74, y74), (81, y81), (82, y82), (83, y83), (84, y84), (118, y118)] = [(0, y0), (1, y1), (2, y2), (3, y3), (4, y4), (5, y5), (6, y6), (7, y7), (8, y8), (9, y9), (10, y10), (11, y11), (15, y15), (20, y20), (23, y23), (24, y24), (25, y25), (26, y26), (30, y30), (31, y31), (32, y32), (33, y33), (67, y67), (74, z4), (81, y81), (82, y82), (83, y83), (84, y84), (118, y118)] := fun y0 y1 y2 y3 y4 y5 y6 y7 y8 y9 y10 y11 y15 y20 y23 y24 y25 y26 y30 y31 y32 y33 y67 y74 y81 y82 y83 y84 y118 z0 z1 z2 z3 z4 => rfl
        refine R_nil (tr _ _ _ _ _ _ _ _ _ _ _ _ _ _ _ _ _ _ _ _ _ _ _ _ _ _ _ _ _ _ _ _ _ _) ?_; clear tr
        refine then_n ?_
        refine cdd (fun h11 => ?_) (fun h11 => ?_)
        · try simp only [decide_eq_true_eq, decide_eq_false_iff_not, Bool.not_eq_true', Bool.not_eq_false', beq_iff_eq, beq_eq_false_iff_ne, ne_eq] at h11
          refine at_skip rfl ?_
          refine then_n ?_
          refine at_seq rfl ?_
          refine at_block rfl ?_
          refine at_seq rfl ?_
          refine rg rfl ?_
          have hlv := gl v (by omega)
          have hlv1 := gl (v - 1) (by omega)
          have hlv2 := gl (v - 2) (by omega)
          refine Rq ?_
          refine Rq ?_
          refine Rq ?_
          refine Rq ?_
          refine Rq ?_
          refine Rq ?_
          refine Rq ?_
          have tr : ∀ y0 y1 y2 y3 y4 y5 y6 y7 y8 y9 y10 y11 y15 y20 y23 y24 y25 y26 y30 y31 y32 y33 y67 y74 y81 y82 y83 y84 y118 z0 z1 z2 z3 z4 z5 z6 : AV, trim [(83, z6), (82, z5), (81, z4), (80, z3), (79, z2), (78, z1), (77, z0), (0, y0), (1, y1), (2, y2), (3, y3), (4, y4), (5, y5), (6, y6), (7, y7), (8, y8), (9, y9), (10, y10), (11, y11), (15, y15), (20, y20), (23, y23), (24, y24), (25, y25), (26, y26), (30, y30), (31, y31), (32, y32), (33, y33), (67, y67), (74, y74), (81, y81), (82, y82), (83, y83), (84, y84), (118, y118)] [(0, y0), (1, y1), (2, y2), (3, y3), (4, y4), (5, y5), (6, y6), (7, y7), (8, y8), (9, y9), (10, y10), (11, y11), (15, y15), (20, y20), (23, y23), (24, y24), (25, y25), (26, y26), (30, y30), (31, y31), (32, y32), (33, y33), (67, y67), (74, y74), (81, y81), (82, y82), (83, y83), (84, y84), (118, y118)] = [(0, y0), (1, y1), (2, y2), (3, y3), (4, y4), (5, y5), (6, y6), (7, y7), (8, y8), (9, y9), (10, y10), (11, y11), (15, y15), (20, y20), (23, y23), (24, y24), (25, y25), (26, y26), (30, y30), (31, y31), (32, y32), (33, y33), (67, y67), (74, y74), (81, z4), (82, z5), (83, z6), (84, y84), (118, y118)] := fun y0 y1 y2 y3 y4 y5 y6 y7 y8 y9 y10 y11 y15 y20 y23 y24 y25 y26 y30 y31 y32 y33 y67 y74 y81 y82 y83 y84 y118 z0 z1 z2 z3 z4 z5 z6 => rfl
          refine R_nil (tr _ _ _ _ _ _ _ _ _ _ _ _ _ _ _ _ _ _ _ _ _ _ _ _ _ _ _ _ _ _ _ _ _ _ _ _) ?_; clear tr
          refine then_n ?_
          refine at_block rfl ?_
          refine loop_n rfl (fun mm kv H' => ∃ w : Nat, ∃ x2 x10 x11 x84 x118 : AV, (kv = [(2, x2), (10, x10), (11, x11), (83, AV.i w), (84, x84), (118, x118)]) ∧ (mm = (gt rows v).length - w) ∧ (H' = H ++ [some [rowsAV rows]]) ∧ (w ≤ (gt rows v).length) ∧ (∀ j, j < w → gt (gt rows v) j - gt (gt rows (v - 1)) j ≤ gt (gt rows (v - 1)) j - gt (gt rows (v - 2)) j)) ⟨0, _, _, _, _, _, rfl, rfl, rfl, by omega, by intro i hi; omega⟩ (by rfl) ?_
          rintro mm kv H' ⟨w, x2, x10, x11, x84, x118, rfl, rfl, rfl, hw, hd⟩
          have tr : ∀ y0 y1 y2 y3 y4 y5 y6 y7 y8 y9 y10 y11 y15 y20 y23 y24 y25 y26 y30 y31 y32 y33 y67 y74 y81 y82 y83 y84 y118 z2 z10 z11 z83 z84 z118 : AV, upd [(0, y0), (1, y1), (2, y2), (3, y3), (4, y4), (5, y5), (6, y6), (7, y7), (8, y8), (9, y9), (10, y10), (11, y11), (15, y15), (20, y20), (23, y23), (24, y24), (25, y25), (26, y26), (30, y30), (31, y31), (32, y32), (33, y33), (67, y67), (74, y74), (81, y81), (82, y82), (83, y83), (84, y84), (118, y118)] [(2, z2), (10, z10), (11, z11), (83, z83), (84, z84), (118, z118)] = [(0, y0), (1, y1), (2, z2), (3, y3), (4, y4), (5, y5), (6, y6), (7, y7), (8, y8), (9, y9), (10, z10), (11, z11), (15, y15), (20, y20), (23, y23), (24, y24), (25, y25), (26, y26), (30, y30), (31, y31), (32, y32), (33, y33), (67, y67), (74, y74), (81, y81), (82, y82), (83, z83), (84, z84), (118, z118)] := fun y0 y1 y2 y3 y4 y5 y6 y7 y8 y9 y10 y11 y15 y20 y23 y24 y25 y26 y30 y31 y32 y33 y67 y74 y81 y82 y83 y84 y118 z2 z10 z11 z83 z84 z118 => rfl
          refine W_to (tr _ _ _ _ _ _ _ _ _ _ _ _ _ _ _ _ _ _ _ _ _ _ _ _ _ _ _ _ _ _ _ _ _ _ _) ?_; clear tr
          refine at_seq rfl ?_
          refine rg rfl ?_
          refine Rq ?_
          have tr : ∀ y0 y1 y2 y3 y4 y5 y6 y7 y8 y9 y10 y11 y15 y20 y23 y24 y25 y26 y30 y31 y32 y33 y67 y74 y81 y82 y83 y84 y118 z0 : AV, trim [(84, z0), (0, y0), (1, y1), (2, y2), (3, y3), (4, y4), (5, y5), (6, y6), (7, y7), (8, y8), (9, y9), (10, y10), (11, y11), (15, y15), (20, y20), (23, y23), (24, y24), (25, y25), (26, y26), (30, y30), (31, y31), (32, y32), (33, y33), (67, y67), (74, y74), (81, y81), (82, y82), (83, y83), (84, y84), (118, y118)] [(0, y0), (1, y1), (2, y2), (3, y3), (4, y4), (5, y5), (6, y6), (7, y7), (8, y8), (9, y9), (10, y10), (11, y11), (15, y15), (20, y20), (23, y23), (24, y24), (25, y25), (26, y26), (30, y30), (31, y31), (32, y32), (33, y33), (67, y67), (74, y74), (81, y81), (82, y82), (83, y83), (84, y84), (118, y118)] = [(0, y0), (1, y1), (2, y2), (3, y3), (4, y4), (5, y5), (6, y6), (7, y7), (8, y8), (9, y9), (10, y10), (11, y11), (15, y15), (20, y20), (23, y23), (24, y24), (25, y25), (26, y26), (30, y30), (31, y31), (32, y32), (33, y33), (67, y67), (74, y74), (81, y81), (82, y82), (83, y83), (84, z0), (118, y118)] := fun y0 y1 y2 y3 y4 y5 y6 y7 y8 y9 y10 y11 y15 y20 y23 y24 y25 y26 y30 y31 y32 y33 y67 y74 y81 y82 y83 y84 y118 z0 => rfl
          refine R_nil (tr _ _ _ _ _ _ _ _ _ _ _ _ _ _ _ _ _ _ _ _ _ _ _ _ _ _ _ _ _ _) ?_; clear tr
          refine then_n ?_
          refine at_seq rfl ?_
          refine cdd (fun h12 => ?_) (fun h12 => ?_)
          · try simp only [decide_eq_true_eq, decide_eq_false_iff_not, Bool.not_eq_true', Bool.not_eq_false', beq_iff_eq, beq_eq_false_iff_ne, ne_eq] at h12
            refine at_skip rfl ?_
            refine then_n ?_
            refine at_seq rfl ?_
            refine at_block rfl ?_
            refine at_seq rfl ?_
            refine rg rfl ?_
            refine Rq ?_
            refine Rq ?_
            refine Rq ?_
            refine Rq ?_
            refine Rq ?_
            have tr : ∀ y0 y1 y2 y3 y4 y5 y6 y7 y8 y9 y10 y11 y15 y20 y23 y24 y25 y26 y30 y31 y32 y33 y67 y74 y81 y82 y83 y84 y118 z0 z1 z2 z3 z4 : AV, trim [(11, z4), (10, z3), (87, z2), (86, z1), (85, z0), (0, y0), (1, y1), (2, y2), (3, y3), (4, y4), (5, y5), (6, y6), (7, y7), (8, y8), (9, y9), (10, y10), (11, y11), (15, y15), (20, y20), (23, y23), (24, y24), (25, y25), (26, y26), (30, y30), (31, y31), (32, y32), (33, y33), (67, y67), (74, y74), (81, y81), (82, y82), (83, y83), (84, y84), (118, y118)] [(0, y0), (1, y1), (2, y2), (3, y3), (4, y4), (5, y5), (6, y6), (7, y7), (8, y8), (9, y9), (10, y10), (11, y11), (15, y15), (20, y20), (23, y23), (24, y24), (25, y25), (26, y26), (30, y30), (31, y31), (32, y32), (33, y33), (67, y67), (74, y74), (81, y81), (82, y82), (83, y83), (84, y84), (118, y118)] = [(0, y0), (1, y1), (2, y2), (3, y3), (4, y4), (5, y5), (6, y6), (7, y7), (8, y8), (9, y9), (10, z3), (11, z4), (15, y15), (20, y20), (23, y23), (24, y24), (25, y25), (26, y26), (30, y30), (31, y31), (32, y32), (33, y33), (67, y67), (74, y74), (81, y81), (82, y82), (83, y83), (84, y84), (118, y118)] := fun y0 y1 y2 y3 y4 y5 y6 y7 y8 y9 y10 y11 y15 y20 y23 y24 y25 y26 y30 y31 y32 y33 y67 y74 y81 y82 y83 y84 y118 z0 z1 z2 z3 z4 => rfl
            refine R_nil (tr _ _ _ _ _ _ _ _ _ _ _ _ _ _ _ _ _ _ _ _ _ _ _ _ _ _ _ _ _ _ _ _ _ _) ?_; clear tr
            refine then_n ?_
            refine at_seq rfl ?_
            refine rd rfl rfl ?_
            have r0 : 0 ≤ gt (gt rows v) w ∧ gt (gt rows v) w ≤ 10000 := gr v (by omega) w (by omega)
            have r1 : 0 ≤ gt (gt rows (v - 1)) w ∧ gt (gt rows (v - 1)) w ≤ 10000 := gr (v - 1) (by omega) w (by omega)
            have r2 : 0 ≤ gt (gt rows (v - 2)) w ∧ gt (gt rows (v - 2)) w ≤ 10000 := gr (v - 2) (by omega) w (by omega)
            refine Qq ?_
            refine Qq ?_
            refine Qq ?_
            refine Qq ?_
            refine Qq ?_
            refine Qq ?_
            refine Qq ?_
            refine Qq ?_
            refine Qq ?_
            refine Qq ?_
            refine Qq ?_
            refine Qq ?_
            refine Qq ?_
            refine Qq ?_
            refine Qq ?_
            refine Qq ?_
            refine Qq ?_
            refine Qq ?_
            refine Qq ?_
            refine Qq ?_
            refine Qq ?_
            refine Qq ?_
            refine Qq ?_
            refine Qq ?_
            refine Qq ?_
            refine Qq ?_
            refine Qq ?_
            refine Qq ?_
            refine Qq ?_
            refine Qq ?_
            refine Qq ?_
            refine Q_nil ?_
            have tr : ∀ y0 y1 y2 y3 y4 y5 y6 y7 y8 y9 y10 y11 y15 y20 y23 y24 y25 y26 y30 y31 y32 y33 y67 y74 y81 y82 y83 y84 y118 z0 z1 z2 z3 z4 z5 z6 z7 z8 z9 z10 z11 z12 z13 z14 z15 z16 z17 z18 z19 z20 z21 z22 z23 z24 z25 z26 z27 z28 z29 z30 : AV, trim [(118, z30), (117, z29), (116, z28), (115, z27), (114, z26), (113, z25), (112, z24), (111, z23), (110, z22), (109, z21), (108, z20), (107, z19), (106, z18), (105, z17), (104, z16), (103, z15), (102, z14), (101, z13), (100, z12), (99, z11), (98, z10), (97, z9), (96, z8), (95, z7), (94, z6), (93, z5), (92, z4), (91, z3), (90, z2), (89, z1), (88, z0), (0, y0), (1, y1), (2, y2), (3, y3), (4, y4), (5, y5), (6, y6), (7, y7), (8, y8), (9, y9), (10, y10), (11, y11), (15, y15), (20, y20), (23, y23), (24, y24), (25, y25), (26, y26), (30, y30), (31, y31), (32, y32), (33, y33), (67, y67), (74, y74), (81, y81), (82, y82), (83, y83), (84, y84), (118, y118)] [(0, y0), (1, y1), (2, y2), (3, y3), (4, y4), (5, y5), (6, y6), (7, y7), (8, y8), (9, y9), (10, y10), (11, y11), (15, y15), (20, y20), (23, y23), (24, y24), (25, y25), (26, y26), (30, y30), (31, y31), (32, y32), (33, y33), (67, y67), (74, y74), (81, y81), (82, y82), (83, y83), (84, y84), (118, y118)] = [(0, y0), (1, y1), (2, y2), (3, y3), (4, y4), (5, y5), (6, y6), (7, y7), (8, y8), (9, y9), (10, y10), (11, y11), (15, y15), (20, y20), (23, y23), (24, y24), (25, y25), (26, y26), (30, y30), (31, y31), (32, y32), (33, y33), (67, y67), (74, y74), (81, y81), (82, y82), (83, y83), (84, y84), (118, z30)] := fun y0 y1 y2 y3 y4 y5 y6 y7 y8 y9 y10 y11 y15 y20 y23 y24 y25 y26 y30 y31 y32 y33 y67 y74 y81 y82 y83 y84 y118 z0 z1 z2 z3 z4 z5 z6 z7 z8 z9 z10 z11 z12 z13 z14 z15 z16 z17 z18 z19 z20 z21 z22 z23 z24 z25 z26 z27 z28 z29 z30 => rfl
            refine R_nil (tr _ _ _ _ _ _ _ _ _ _ _ _ _ _ _ _ _ _ _ _ _ _ _ _ _ _ _ _ _ _ _ _ _ _ _ _ _ _ _ _ _ _ _ _ _ _ _ _ _ _ _ _ _ _ _ _ _ _ _ _) ?_; clear tr
            refine then_n ?_
            refine cdd (fun h13 => ?_) (fun h13 => ?_)
            · try simp only [decide_eq_true_eq, decide_eq_false_iff_not, Bool.not_eq_true', Bool.not_eq_false', beq_iff_eq, beq_eq_false_iff_ne, ne_eq] at h13
              refine at_seq rfl ?_
              refine rg rfl ?_
              refine Rq ?_
              have tr : ∀ y0 y1 y2 y3 y4 y5 y6 y7 y8 y9 y10 y11 y15 y20 y23 y24 y25 y26 y30 y31 y32 y33 y67 y74 y81 y82 y83 y84 y118 z0 : AV, trim [(2, z0), (0, y0), (1, y1), (2, y2), (3, y3), (4, y4), (5, y5), (6, y6), (7, y7), (8, y8), (9, y9), (10, y10), (11, y11), (15, y15), (20, y20), (23, y23), (24, y24), (25, y25), (26, y26), (30, y30), (31, y31), (32, y32), (33, y33), (67, y67), (74, y74), (81, y81), (82, y82), (83, y83), (84, y84), (118, y118)] [(0, y0), (1, y1), (2, y2), (3, y3), (4, y4), (5, y5), (6, y6), (7, y7), (8, y8), (9, y9), (10, y10), (11, y11), (15, y15), (20, y20), (23, y23), (24, y24), (25, y25), (26, y26), (30, y30), (31, y31), (32, y32), (33, y33), (67, y67), (74, y74), (81, y81), (82, y82), (83, y83), (84, y84), (118, y118)] = [(0, y0), (1, y1), (2, z0), (3, y3), (4, y4), (5, y5), (6, y6), (7, y7), (8, y8), (9, y9), (10, y10), (11, y11), (15, y15), (20, y20), (23, y23), (24, y24), (25, y25), (26, y26), (30, y30), (31, y31), (32, y32), (33, y33), (67, y67), (74, y74), (81, y81), (82, y82), (83, y83), (84, y84), (118, y118)] := fun y0 y1 y2 y3 y4 y5 y6 y7 y8 y9 y10 y11 y15 y20 y23 y24 y25 y26 y30 y31 y32 y33 y67 y74 y81 y82 y83 y84 y118 z0 => rfl
              refine R_nil (tr _ _ _ _ _ _ _ _ _ _ _ _ _ _ _ _ _ _ _ _ _ _ _ _ _ _ _ _ _ _) ?_; clear tr
              refine then_n ?_
              refine at_ret rfl ?_
              refine blk_r ?_
              refine then_r ?_
              refine then_r ?_
              refine blk_r ?_
              refine blk_r ?_
              refine then_r ?_
              refine then_r ?_
              refine blk_r ?_
              refine then_r ?_
              refine fpure ?_
              refine ⟨?_, rfl⟩
              rw [checkS, if_neg (fun hh => hh h1), if_neg (fun hh => hh h2), if_neg (fun hh => hh hdn), if_pos (fun hh => absurd (hh v (by omega) h2v w (by omega)) (by omega))]
            · try simp only [decide_eq_true_eq, decide_eq_false_iff_not, Bool.not_eq_true', Bool.not_eq_false', beq_iff_eq, beq_eq_false_iff_ne, ne_eq] at h13
              refine at_skip rfl ?_
              refine blk_n ?_
              refine then_n ?_
              refine rg rfl ?_
              refine Rq ?_
              refine Rq ?_
              have tr : ∀ y0 y1 y2 y3 y4 y5 y6 y7 y8 y9 y10 y11 y15 y20 y23 y24 y25 y26 y30 y31 y32 y33 y67 y74 y81 y82 y83 y84 y118 z0 z1 : AV, trim [(83, z1), (119, z0), (0, y0), (1, y1), (2, y2), (3, y3), (4, y4), (5, y5), (6, y6), (7, y7), (8, y8), (9, y9), (10, y10), (11, y11), (15, y15), (20, y20), (23, y23), (24, y24), (25, y25), (26, y26), (30, y30), (31, y31), (32, y32), (33, y33), (67, y67), (74, y74), (81, y81), (82, y82), (83, y83), (84, y84), (118, y118)] [(0, y0), (1, y1), (2, y2), (3, y3), (4, y4), (5, y5), (6, y6), (7, y7), (8, y8), (9, y9), (10, y10), (11, y11), (15, y15), (20, y20), (23, y23), (24, y24), (25, y25), (26, y26), (30, y30), (31, y31), (32, y32), (33, y33), (67, y67), (74, y74), (81, y81), (82, y82), (83, y83), (84, y84), (118, y118)] = [(0, y0), (1, y1), (2, y2), (3, y3), (4, y4), (5, y5), (6, y6), (7, y7), (8, y8), (9, y9), (10, y10), (11, y11), (15, y15), (20, y20), (23, y23), (24, y24), (25, y25), (26, y26), (30, y30), (31, y31), (32, y32), (33, y33), (67, y67), (74, y74), (81, y81), (82, y82), (83, z1), (84, y84), (118, y118)] := fun y0 y1 y2 y3 y4 y5 y6 y7 y8 y9 y10 y11 y15 y20 y23 y24 y25 y26 y30 y31 y32 y33 y67 y74 y81 y82 y83 y84 y118 z0 z1 => rfl
              refine R_nil (tr _ _ _ _ _ _ _ _ _ _ _ _ _ _ _ _ _ _ _ _ _ _ _ _ _ _ _ _ _ _ _) ?_; clear tr
              refine then_n ?_
              exact ⟨_, _, ⟨w + 1, _, _, _, _, _, rfl, rfl, rfl, by omega, by exact all_step hd (by omega)⟩, by rfl, by omega⟩
          · try simp only [decide_eq_true_eq, decide_eq_false_iff_not, Bool.not_eq_true', Bool.not_eq_false', beq_iff_eq, beq_eq_false_iff_ne, ne_eq] at h12
            refine at_exit rfl ?_
            refine then_x ?_
            refine then_x ?_
            refine blk_x ?_
            refine blk_n ?_
            refine then_n ?_
            refine rg rfl ?_
            refine Rq ?_
            refine Rq ?_
            refine Rq ?_
            have tr : ∀ y0 y1 y2 y3 y4 y5 y6 y7 y8 y9 y10 y11 y15 y20 y23 y24 y25 y26 y30 y31 y32 y33 y67 y74 y81 y82 y83 y84 y118 z0 z1 z2 : AV, trim [(9, z2), (76, z1), (75, z0), (0, y0), (1, y1), (2, y2), (3, y3), (4, y4), (5, y5), (6, y6), (7, y7), (8, y8), (9, y9), (10, y10), (11, y11), (15, y15), (20, y20), (23, y23), (24, y24), (25, y25), (26, y26), (30, y30), (31, y31), (32, y32), (33, y33), (67, y67), (74, y74), (81, y81), (82, y82), (83, y83), (84, y84), (118, y118)] [(0, y0), (1, y1), (2, y2), (3, y3), (4, y4), (5, y5), (6, y6), (7, y7), (8, y8), (9, y9), (10, y10), (11, y11), (15, y15), (20, y20), (23, y23), (24, y24), (25, y25), (26, y26), (30, y30), (31, y31), (32, y32), (33, y33), (67, y67), (74, y74), (81, y81), (82, y82), (83, y83), (84, y84), (118, y118)] = [(0, y0), (1, y1), (2, y2), (3, y3), (4, y4), (5, y5), (6, y6), (7, y7), (8, y8), (9, z2), (10, y10), (11, y11), (15, y15), (20, y20), (23, y23), (24, y24), (25, y25), (26, y26), (30, y30), (31, y31), (32, y32), (33, y33), (67, y67), (74, y74), (81, y81), (82, y82), (83, y83), (84, y84), (118, y118)] := fun y0 y1 y2 y3 y4 y5 y6 y7 y8 y9 y10 y11 y15 y20 y23 y24 y25 y26 y30 y31 y32 y33 y67 y74 y81 y82 y83 y84 y118 z0 z1 z2 => rfl
            refine R_nil (tr _ _ _ _ _ _ _ _ _ _ _ _ _ _ _ _ _ _ _ _ _ _ _ _ _ _ _ _ _ _ _ _) ?_; clear tr
            refine then_n ?_
            exact ⟨_, _, ⟨v + 1, _, _, _, _, _, _, _, _, _, rfl, rfl, rfl, by omega, by omega, by exact all_step hc fun _ w hw => hd w (by omega)⟩, by rfl, by omega⟩
        · try simp only [decide_eq_true_eq, decide_eq_false_iff_not, Bool.not_eq_true', Bool.not_eq_false', beq_iff_eq, beq_eq_false_iff_ne, ne_eq] at h11
          refine at_exit rfl ?_
          refine then_x ?_
          refine then_x ?_
          refine blk_x ?_
          refine then_n ?_
          refine at_seq rfl ?_
          refine rg rfl ?_
          refine Rq ?_
          have tr : ∀ y0 y1 y2 y3 y4 y5 y6 y7 y8 y9 y10 y11 y15 y20 y23 y24 y25 y26 y30 y31 y32 y33 y67 y74 y81 y82 y83 y84 y118 z0 : AV, trim [(2, z0), (0, y0), (1, y1), (2, y2), (3, y3), (4, y4), (5, y5), (6, y6), (7, y7), (8, y8), (9, y9), (10, y10), (11, y11), (15, y15), (20, y20), (23, y23), (24, y24), (25, y25), (26, y26), (30, y30), (31, y31), (32, y32), (33, y33), (67, y67), (74, y74), (81, y81), (82, y82), (83, y83), (84, y84), (118, y118)] [(0, y0), (1, y1), (2, y2), (3, y3), (4, y4), (5, y5), (6, y6), (7, y7), (8, y8), (9, y9), (10, y10), (11, y11), (15, y15), (20, y20), (23, y23), (24, y24), (25, y25), (26, y26), (30, y30), (31, y31), (32, y32), (33, y33), (67, y67), (74, y74), (81, y81), (82, y82), (83, y83), (84, y84), (118, y118)] = [(0, y0), (1, y1), (2, z0), (3, y3), (4, y4), (5, y5), (6, y6), (7, y7), (8, y8), (9, y9), (10, y10), (11, y11), (15, y15), (20, y20), (23, y23), (24, y24), (25, y25), (26, y26), (30, y30), (31, y31), (32, y32), (33, y33), (67, y67), (74, y74), (81, y81), (82, y82), (83, y83), (84, y84), (118, y118)] := fun y0 y1 y2 y3 y4 y5 y6 y7 y8 y9 y10 y11 y15 y20 y23 y24 y25 y26 y30 y31 y32 y33 y67 y74 y81 y82 y83 y84 y118 z0 => rfl
          refine R_nil (tr _ _ _ _ _ _ _ _ _ _ _ _ _ _ _ _ _ _ _ _ _ _ _ _ _ _ _ _ _ _) ?_; clear tr
          refine then_n ?_
          refine at_ret rfl ?_
          refine fpure ?_
          refine ⟨?_, rfl⟩
          rw [checkS, if_neg (fun hh => hh h1), if_neg (fun hh => hh h2), if_neg (fun hh => hh hdn), if_neg (fun hh => hh fun i hi h2 w hw => hc i (by omega) h2 w hw)]

end Go.Proofs.Ytaoondlakhocnaa
