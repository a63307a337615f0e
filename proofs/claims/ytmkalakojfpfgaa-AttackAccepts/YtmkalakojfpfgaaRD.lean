/-
  Walks of chapter 46. The steps are written by program (walk.py).
-/
import Derived.Test.YtmkalakojfpfgaaRB
set_option linter.unusedSimpArgs false
set_option linter.unusedVariables false
set_option maxHeartbeats 40000000
set_option maxRecDepth 4000
namespace Go.Proofs.Ytmkalakojfpfgaa
open Go Go.Am

theorem cost_ok (lim : Nat) (H : Heap) (rows : Tb) (q la : Int) (l : List Int)  :
    ACall sig lim 11 [.agg [rowsAV rows, AV.i q, AV.i la], .sl l.length (l.map AV.i)] H fun r H' => r = .tup [AV.i (costS rows q la l).1, AV.i (costS rows q la l).2] ∧ H' = H := by
  refine ACall_pure (fa := fa11) rfl rfl rfl rfl ?_
  have tr : ∀ a0 a1 : AV, env0 fa11.keep [a0, a1] = [(0, a0), (1, a1), (2, .any), (4, .any), (5, .any), (6, .any), (7, .any), (8, .any), (9, .any), (10, .any), (11, .any), (15, .any), (22, .any), (31, .any), (32, .any), (33, .any), (34, .any), (38, .any), (47, .any), (51, .any)] := fun a0 a1 => rfl
  refine W_to (tr _ _) ?_; clear tr
  refine at_seq rfl ?_
  refine rg rfl ?_
  refine R_box rfl (by simp (disch := first | omega | (simp only [List.length_map, List.length_append, List.length_set, List.length_cons, List.length_nil, List.length_take, List.length_drop]; omega)) only [go_sem, ↓reduceIte, Nat.reduceEqDiff, reduceCtorEq]; rfl) rfl rfl ?_
  refine Rq ?_
  refine Rq ?_
  have tr : ∀ y0 y1 y2 y4 y5 y6 y7 y8 y9 y10 y11 y15 y22 y31 y32 y33 y34 y38 y47 y51 z0 z1 z2 : AV, trim [(5, z2), (4, z1), (2, z0), (0, y0), (1, y1), (2, y2), (4, y4), (5, y5), (6, y6), (7, y7), (8, y8), (9, y9), (10, y10), (11, y11), (15, y15), (22, y22), (31, y31), (32, y32), (33, y33), (34, y34), (38, y38), (47, y47), (51, y51)] [(0, y0), (1, y1), (2, y2), (4, y4), (5, y5), (6, y6), (7, y7), (8, y8), (9, y9), (10, y10), (11, y11), (15, y15), (22, y22), (31, y31), (32, y32), (33, y33), (34, y34), (38, y38), (47, y47), (51, y51)] = [(0, y0), (1, y1), (2, z0), (4, z1), (5, z2), (6, y6), (7, y7), (8, y8), (9, y9), (10, y10), (11, y11), (15, y15), (22, y22), (31, y31), (32, y32), (33, y33), (34, y34), (38, y38), (47, y47), (51, y51)] := fun y0 y1 y2 y4 y5 y6 y7 y8 y9 y10 y11 y15 y22 y31 y32 y33 y34 y38 y47 y51 z0 z1 z2 => rfl
  refine R_nil (tr _ _ _ _ _ _ _ _ _ _ _ _ _ _ _ _ _ _ _ _ _ _ _) ?_; clear tr
  refine then_n ?_
  refine at_seq rfl ?_
  refine at_seq rfl ?_
  refine rg rfl ?_
  refine Rq ?_
  refine Rcall ?_
  refine ACall_eq (check_ok _ _ rows q la) ?_
  refine Rq ?_
  have tr : ∀ y0 y1 y2 y4 y5 y6 y7 y8 y9 y10 y11 y15 y22 y31 y32 y33 y34 y38 y47 y51 z0 z1 z2 : AV, trim [(6, z2), (13, z1), (12, z0), (0, y0), (1, y1), (2, y2), (4, y4), (5, y5), (6, y6), (7, y7), (8, y8), (9, y9), (10, y10), (11, y11), (15, y15), (22, y22), (31, y31), (32, y32), (33, y33), (34, y34), (38, y38), (47, y47), (51, y51)] [(0, y0), (1, y1), (2, y2), (4, y4), (5, y5), (6, y6), (7, y7), (8, y8), (9, y9), (10, y10), (11, y11), (15, y15), (22, y22), (31, y31), (32, y32), (33, y33), (34, y34), (38, y38), (47, y47), (51, y51)] = [(0, y0), (1, y1), (2, y2), (4, y4), (5, y5), (6, z2), (7, y7), (8, y8), (9, y9), (10, y10), (11, y11), (15, y15), (22, y22), (31, y31), (32, y32), (33, y33), (34, y34), (38, y38), (47, y47), (51, y51)] := fun y0 y1 y2 y4 y5 y6 y7 y8 y9 y10 y11 y15 y22 y31 y32 y33 y34 y38 y47 y51 z0 z1 z2 => rfl
  refine R_nil (tr _ _ _ _ _ _ _ _ _ _ _ _ _ _ _ _ _ _ _ _ _ _ _) ?_; clear tr
  refine then_n ?_
  refine at_seq rfl ?_
  refine rg rfl ?_
  refine Rq ?_
  refine Rq ?_
  have tr : ∀ y0 y1 y2 y4 y5 y6 y7 y8 y9 y10 y11 y15 y22 y31 y32 y33 y34 y38 y47 y51 z0 z1 : AV, trim [(15, z1), (14, z0), (0, y0), (1, y1), (2, y2), (4, y4), (5, y5), (6, y6), (7, y7), (8, y8), (9, y9), (10, y10), (11, y11), (15, y15), (22, y22), (31, y31), (32, y32), (33, y33), (34, y34), (38, y38), (47, y47), (51, y51)] [(0, y0), (1, y1), (2, y2), (4, y4), (5, y5), (6, y6), (7, y7), (8, y8), (9, y9), (10, y10), (11, y11), (15, y15), (22, y22), (31, y31), (32, y32), (33, y33), (34, y34), (38, y38), (47, y47), (51, y51)] = [(0, y0), (1, y1), (2, y2), (4, y4), (5, y5), (6, y6), (7, y7), (8, y8), (9, y9), (10, y10), (11, y11), (15, z1), (22, y22), (31, y31), (32, y32), (33, y33), (34, y34), (38, y38), (47, y47), (51, y51)] := fun y0 y1 y2 y4 y5 y6 y7 y8 y9 y10 y11 y15 y22 y31 y32 y33 y34 y38 y47 y51 z0 z1 => rfl
  refine R_nil (tr _ _ _ _ _ _ _ _ _ _ _ _ _ _ _ _ _ _ _ _ _ _) ?_; clear tr
  refine then_n ?_
  refine cdd (fun h1 => ?_) (fun h1 => ?_)
  · try simp only [decide_eq_true_eq, decide_eq_false_iff_not, Bool.not_eq_true', Bool.not_eq_false', beq_iff_eq, beq_eq_false_iff_ne, ne_eq] at h1
    refine at_seq rfl ?_
    refine rg rfl ?_
    refine Rq ?_
    refine Rq ?_
    refine Rq ?_
    have tr : ∀ y0 y1 y2 y4 y5 y6 y7 y8 y9 y10 y11 y15 y22 y31 y32 y33 y34 y38 y47 y51 z0 z1 z2 : AV, trim [(5, z2), (4, z1), (16, z0), (0, y0), (1, y1), (2, y2), (4, y4), (5, y5), (6, y6), (7, y7), (8, y8), (9, y9), (10, y10), (11, y11), (15, y15), (22, y22), (31, y31), (32, y32), (33, y33), (34, y34), (38, y38), (47, y47), (51, y51)] [(0, y0), (1, y1), (2, y2), (4, y4), (5, y5), (6, y6), (7, y7), (8, y8), (9, y9), (10, y10), (11, y11), (15, y15), (22, y22), (31, y31), (32, y32), (33, y33), (34, y34), (38, y38), (47, y47), (51, y51)] = [(0, y0), (1, y1), (2, y2), (4, z1), (5, z2), (6, y6), (7, y7), (8, y8), (9, y9), (10, y10), (11, y11), (15, y15), (22, y22), (31, y31), (32, y32), (33, y33), (34, y34), (38, y38), (47, y47), (51, y51)] := fun y0 y1 y2 y4 y5 y6 y7 y8 y9 y10 y11 y15 y22 y31 y32 y33 y34 y38 y47 y51 z0 z1 z2 => rfl
    refine R_nil (tr _ _ _ _ _ _ _ _ _ _ _ _ _ _ _ _ _ _ _ _ _ _ _) ?_; clear tr
    refine then_n ?_
    refine at_ret rfl ?_
    refine then_r ?_
    refine fpure ?_
    refine ⟨?_, rfl⟩
    rw [costS, if_pos (by assumption)]
  · try simp only [decide_eq_true_eq, decide_eq_false_iff_not, Bool.not_eq_true', Bool.not_eq_false', beq_iff_eq, beq_eq_false_iff_ne, ne_eq] at h1
    refine at_skip rfl ?_
    refine then_n ?_
    refine at_seq rfl ?_
    refine at_seq rfl ?_
    refine rg rfl ?_
    refine Rq ?_
    refine Rq ?_
    refine Rq ?_
    refine Rq ?_
    refine Rq ?_
    refine Rq ?_
    have tr : ∀ y0 y1 y2 y4 y5 y6 y7 y8 y9 y10 y11 y15 y22 y31 y32 y33 y34 y38 y47 y51 z0 z1 z2 z3 z4 z5 : AV, trim [(22, z5), (21, z4), (20, z3), (19, z2), (18, z1), (17, z0), (0, y0), (1, y1), (2, y2), (4, y4), (5, y5), (6, y6), (7, y7), (8, y8), (9, y9), (10, y10), (11, y11), (15, y15), (22, y22), (31, y31), (32, y32), (33, y33), (34, y34), (38, y38), (47, y47), (51, y51)] [(0, y0), (1, y1), (2, y2), (4, y4), (5, y5), (6, y6), (7, y7), (8, y8), (9, y9), (10, y10), (11, y11), (15, y15), (22, y22), (31, y31), (32, y32), (33, y33), (34, y34), (38, y38), (47, y47), (51, y51)] = [(0, y0), (1, y1), (2, y2), (4, y4), (5, y5), (6, y6), (7, y7), (8, y8), (9, y9), (10, y10), (11, y11), (15, y15), (22, z5), (31, y31), (32, y32), (33, y33), (34, y34), (38, y38), (47, y47), (51, y51)] := fun y0 y1 y2 y4 y5 y6 y7 y8 y9 y10 y11 y15 y22 y31 y32 y33 y34 y38 y47 y51 z0 z1 z2 z3 z4 z5 => rfl
    refine R_nil (tr _ _ _ _ _ _ _ _ _ _ _ _ _ _ _ _ _ _ _ _ _ _ _ _ _ _) ?_; clear tr
    refine then_n ?_
    refine cdd (fun h2 => ?_) (fun h2 => ?_)
    · try simp only [decide_eq_true_eq, decide_eq_false_iff_not, Bool.not_eq_true', Bool.not_eq_false', beq_iff_eq, beq_eq_false_iff_ne, ne_eq] at h2
      refine at_seq rfl ?_
      refine rg rfl ?_
      refine Rq ?_
      refine Rq ?_
      have tr : ∀ y0 y1 y2 y4 y5 y6 y7 y8 y9 y10 y11 y15 y22 y31 y32 y33 y34 y38 y47 y51 z0 z1 : AV, trim [(5, z1), (4, z0), (0, y0), (1, y1), (2, y2), (4, y4), (5, y5), (6, y6), (7, y7), (8, y8), (9, y9), (10, y10), (11, y11), (15, y15), (22, y22), (31, y31), (32, y32), (33, y33), (34, y34), (38, y38), (47, y47), (51, y51)] [(0, y0), (1, y1), (2, y2), (4, y4), (5, y5), (6, y6), (7, y7), (8, y8), (9, y9), (10, y10), (11, y11), (15, y15), (22, y22), (31, y31), (32, y32), (33, y33), (34, y34), (38, y38), (47, y47), (51, y51)] = [(0, y0), (1, y1), (2, y2), (4, z0), (5, z1), (6, y6), (7, y7), (8, y8), (9, y9), (10, y10), (11, y11), (15, y15), (22, y22), (31, y31), (32, y32), (33, y33), (34, y34), (38, y38), (47, y47), (51, y51)] := fun y0 y1 y2 y4 y5 y6 y7 y8 y9 y10 y11 y15 y22 y31 y32 y33 y34 y38 y47 y51 z0 z1 => rfl
      refine R_nil (tr _ _ _ _ _ _ _ _ _ _ _ _ _ _ _ _ _ _ _ _ _ _) ?_; clear tr
      refine then_n ?_
      refine at_ret rfl ?_
      refine then_r ?_
      refine fpure ?_
      refine ⟨?_, rfl⟩
      rw [costS, if_neg (fun hh => hh (by assumption)), costV, if_pos (by omega)]
    · try simp only [decide_eq_true_eq, decide_eq_false_iff_not, Bool.not_eq_true', Bool.not_eq_false', beq_iff_eq, beq_eq_false_iff_ne, ne_eq] at h2
      refine at_skip rfl ?_
      refine then_n ?_
      refine at_seq rfl ?_
      refine rg rfl ?_
      obtain ⟨g1, g2, g3, g4, g5, g6, g7, g8, g9, g10, g11⟩ := good_of (by assumption : checkS rows q la = 0)
      refine Rq ?_
      refine Rq ?_
      refine Rq ?_
      refine Rq ?_
      refine Rq ?_
      refine R_makeSlice (ms25 _ _ (gt rows 0).length _ _ _ (by omega) (by simp (disch := first | omega | (simp only [List.length_map, List.length_append, List.length_set, List.length_cons, List.length_nil, List.length_take, List.length_drop]; omega)) only [go_sem, ↓reduceIte, Nat.reduceEqDiff, reduceCtorEq]) (by simp (disch := first | omega | (simp only [List.length_map, List.length_append, List.length_set, List.length_cons, List.length_nil, List.length_take, List.length_drop]; omega)) only [go_sem, ↓reduceIte, Nat.reduceEqDiff, reduceCtorEq])) ?_
      rw [← cnts_zero (gt rows 0).length l]
      refine Rq ?_
      have tr : ∀ y0 y1 y2 y4 y5 y6 y7 y8 y9 y10 y11 y15 y22 y31 y32 y33 y34 y38 y47 y51 z0 z1 z2 z3 z4 z5 z6 : AV, trim [(7, z6), (28, z5), (27, z4), (26, z3), (25, z2), (24, z1), (23, z0), (0, y0), (1, y1), (2, y2), (4, y4), (5, y5), (6, y6), (7, y7), (8, y8), (9, y9), (10, y10), (11, y11), (15, y15), (22, y22), (31, y31), (32, y32), (33, y33), (34, y34), (38, y38), (47, y47), (51, y51)] [(0, y0), (1, y1), (2, y2), (4, y4), (5, y5), (6, y6), (7, y7), (8, y8), (9, y9), (10, y10), (11, y11), (15, y15), (22, y22), (31, y31), (32, y32), (33, y33), (34, y34), (38, y38), (47, y47), (51, y51)] = [(0, y0), (1, y1), (2, y2), (4, y4), (5, y5), (6, y6), (7, z6), (8, y8), (9, y9), (10, y10), (11, y11), (15, y15), (22, y22), (31, y31), (32, y32), (33, y33), (34, y34), (38, y38), (47, y47), (51, y51)] := fun y0 y1 y2 y4 y5 y6 y7 y8 y9 y10 y11 y15 y22 y31 y32 y33 y34 y38 y47 y51 z0 z1 z2 z3 z4 z5 z6 => rfl
      refine R_nil (tr _ _ _ _ _ _ _ _ _ _ _ _ _ _ _ _ _ _ _ _ _ _ _ _ _ _ _) ?_; clear tr
      refine then_n ?_
      refine at_seq rfl ?_
      refine rg rfl ?_
      refine Rq ?_
      refine Rq ?_
      refine Rq ?_
      refine Rq ?_
      have tr : ∀ y0 y1 y2 y4 y5 y6 y7 y8 y9 y10 y11 y15 y22 y31 y32 y33 y34 y38 y47 y51 z0 z1 z2 z3 : AV, trim [(9, z3), (8, z2), (30, z1), (29, z0), (0, y0), (1, y1), (2, y2), (4, y4), (5, y5), (6, y6), (7, y7), (8, y8), (9, y9), (10, y10), (11, y11), (15, y15), (22, y22), (31, y31), (32, y32), (33, y33), (34, y34), (38, y38), (47, y47), (51, y51)] [(0, y0), (1, y1), (2, y2), (4, y4), (5, y5), (6, y6), (7, y7), (8, y8), (9, y9), (10, y10), (11, y11), (15, y15), (22, y22), (31, y31), (32, y32), (33, y33), (34, y34), (38, y38), (47, y47), (51, y51)] = [(0, y0), (1, y1), (2, y2), (4, y4), (5, y5), (6, y6), (7, y7), (8, z2), (9, z3), (10, y10), (11, y11), (15, y15), (22, y22), (31, y31), (32, y32), (33, y33), (34, y34), (38, y38), (47, y47), (51, y51)] := fun y0 y1 y2 y4 y5 y6 y7 y8 y9 y10 y11 y15 y22 y31 y32 y33 y34 y38 y47 y51 z0 z1 z2 z3 => rfl
      refine R_nil (tr _ _ _ _ _ _ _ _ _ _ _ _ _ _ _ _ _ _ _ _ _ _ _ _) ?_; clear tr
      refine then_n ?_
      refine at_seq rfl ?_
      refine at_seq rfl ?_
      refine rg rfl ?_
      refine Rq ?_
      refine Rq ?_
      refine Rq ?_
      have tr : ∀ y0 y1 y2 y4 y5 y6 y7 y8 y9 y10 y11 y15 y22 y31 y32 y33 y34 y38 y47 y51 z0 z1 z2 : AV, trim [(33, z2), (32, z1), (31, z0), (0, y0), (1, y1), (2, y2), (4, y4), (5, y5), (6, y6), (7, y7), (8, y8), (9, y9), (10, y10), (11, y11), (15, y15), (22, y22), (31, y31), (32, y32), (33, y33), (34, y34), (38, y38), (47, y47), (51, y51)] [(0, y0), (1, y1), (2, y2), (4, y4), (5, y5), (6, y6), (7, y7), (8, y8), (9, y9), (10, y10), (11, y11), (15, y15), (22, y22), (31, y31), (32, y32), (33, y33), (34, y34), (38, y38), (47, y47), (51, y51)] = [(0, y0), (1, y1), (2, y2), (4, y4), (5, y5), (6, y6), (7, y7), (8, y8), (9, y9), (10, y10), (11, y11), (15, y15), (22, y22), (31, z0), (32, z1), (33, z2), (34, y34), (38, y38), (47, y47), (51, y51)] := fun y0 y1 y2 y4 y5 y6 y7 y8 y9 y10 y11 y15 y22 y31 y32 y33 y34 y38 y47 y51 z0 z1 z2 => rfl
      refine R_nil (tr _ _ _ _ _ _ _ _ _ _ _ _ _ _ _ _ _ _ _ _ _ _ _) ?_; clear tr
      refine then_n ?_
      refine at_block rfl ?_
      refine loop_n rfl (fun mm kv H' => ∃ u : Nat, ∃ x : Int, ∃ s : Int, ∃ x4 x5 x10 x11 x34 x38 x47 x51 : AV, (kv = [(4, x4), (5, x5), (8, AV.i x), (9, AV.i s), (10, x10), (11, x11), (33, AV.i u), (34, x34), (38, x38), (47, x47), (51, x51)]) ∧ (mm = l.length - u) ∧ (H' = H ++ [some [rowsAV rows, AV.i q, AV.i la]] ++ [some ((cnts (gt rows 0).length l u).map AV.i)]) ∧ (u ≤ l.length) ∧ (0 ≤ s) ∧ (s ≤ u * 1048576) ∧ (costL rows q l u x s (l.drop u) = costL rows q l 0 la 0 l) ∧ (∀ j, cnt (l.take u) j ≤ q)) ⟨0, la, 0, _, _, _, _, _, _, _, _, rfl, rfl, rfl, by omega, by omega, by omega, by rfl, by intro j; rw [List.take_zero, cnt_nil]; omega⟩ (by rfl) ?_
      rintro mm kv H' ⟨u, x, s, x4, x5, x10, x11, x34, x38, x47, x51, rfl, rfl, rfl, hu, hs0, hs1, hs, hq⟩
      have tr : ∀ y0 y1 y2 y4 y5 y6 y7 y8 y9 y10 y11 y15 y22 y31 y32 y33 y34 y38 y47 y51 z4 z5 z8 z9 z10 z11 z33 z34 z38 z47 z51 : AV, upd [(0, y0), (1, y1), (2, y2), (4, y4), (5, y5), (6, y6), (7, y7), (8, y8), (9, y9), (10, y10), (11, y11), (15, y15), (22, y22), (31, y31), (32, y32), (33, y33), (34, y34), (38, y38), (47, y47), (51, y51)] [(4, z4), (5, z5), (8, z8), (9, z9), (10, z10), (11, z11), (33, z33), (34, z34), (38, z38), (47, z47), (51, z51)] = [(0, y0), (1, y1), (2, y2), (4, z4), (5, z5), (6, y6), (7, y7), (8, z8), (9, z9), (10, z10), (11, z11), (15, y15), (22, y22), (31, y31), (32, y32), (33, z33), (34, z34), (38, z38), (47, z47), (51, z51)] := fun y0 y1 y2 y4 y5 y6 y7 y8 y9 y10 y11 y15 y22 y31 y32 y33 y34 y38 y47 y51 z4 z5 z8 z9 z10 z11 z33 z34 z38 z47 z51 => rfl
      refine W_to (tr _ _ _ _ _ _ _ _ _ _ _ _ _ _ _ _ _ _ _ _ _ _ _ _ _ _ _ _ _ _ _) ?_; clear tr
      refine at_seq rfl ?_
      refine rg rfl ?_
      refine Rq ?_
      have tr : ∀ y0 y1 y2 y4 y5 y6 y7 y8 y9 y10 y11 y15 y22 y31 y32 y33 y34 y38 y47 y51 z0 : AV, trim [(34, z0), (0, y0), (1, y1), (2, y2), (4, y4), (5, y5), (6, y6), (7, y7), (8, y8), (9, y9), (10, y10), (11, y11), (15, y15), (22, y22), (31, y31), (32, y32), (33, y33), (34, y34), (38, y38), (47, y47), (51, y51)] [(0, y0), (1, y1), (2, y2), (4, y4), (5, y5), (6, y6), (7, y7), (8, y8), (9, y9), (10, y10), (11, y11), (15, y15), (22, y22), (31, y31), (32, y32), (33, y33), (34, y34), (38, y38), (47, y47), (51, y51)] = [(0, y0), (1, y1), (2, y2), (4, y4), (5, y5), (6, y6), (7, y7), (8, y8), (9, y9), (10, y10), (11, y11), (15, y15), (22, y22), (31, y31), (32, y32), (33, y33), (34, z0), (38, y38), (47, y47), (51, y51)] := fun y0 y1 y2 y4 y5 y6 y7 y8 y9 y10 y11 y15 y22 y31 y32 y33 y34 y38 y47 y51 z0 => rfl
      refine R_nil (tr _ _ _ _ _ _ _ _ _ _ _ _ _ _ _ _ _ _ _ _ _) ?_; clear tr
      refine then_n ?_
      refine at_seq rfl ?_
      refine cdd (fun h3 => ?_) (fun h3 => ?_)
      · try simp only [decide_eq_true_eq, decide_eq_false_iff_not, Bool.not_eq_true', Bool.not_eq_false', beq_iff_eq, beq_eq_false_iff_ne, ne_eq] at h3
        refine at_skip rfl ?_
        refine then_n ?_
        refine at_seq rfl ?_
        refine at_block rfl ?_
        refine at_seq rfl ?_
        refine rg rfl ?_
        refine Rq ?_
        refine Rq ?_
        refine Rq ?_
        refine Rq ?_
        refine Rq ?_
        have tr : ∀ y0 y1 y2 y4 y5 y6 y7 y8 y9 y10 y11 y15 y22 y31 y32 y33 y34 y38 y47 y51 z0 z1 z2 z3 z4 : AV, trim [(11, z4), (10, z3), (37, z2), (36, z1), (35, z0), (0, y0), (1, y1), (2, y2), (4, y4), (5, y5), (6, y6), (7, y7), (8, y8), (9, y9), (10, y10), (11, y11), (15, y15), (22, y22), (31, y31), (32, y32), (33, y33), (34, y34), (38, y38), (47, y47), (51, y51)] [(0, y0), (1, y1), (2, y2), (4, y4), (5, y5), (6, y6), (7, y7), (8, y8), (9, y9), (10, y10), (11, y11), (15, y15), (22, y22), (31, y31), (32, y32), (33, y33), (34, y34), (38, y38), (47, y47), (51, y51)] = [(0, y0), (1, y1), (2, y2), (4, y4), (5, y5), (6, y6), (7, y7), (8, y8), (9, y9), (10, z3), (11, z4), (15, y15), (22, y22), (31, y31), (32, y32), (33, y33), (34, y34), (38, y38), (47, y47), (51, y51)] := fun y0 y1 y2 y4 y5 y6 y7 y8 y9 y10 y11 y15 y22 y31 y32 y33 y34 y38 y47 y51 z0 z1 z2 z3 z4 => rfl
        refine R_nil (tr _ _ _ _ _ _ _ _ _ _ _ _ _ _ _ _ _ _ _ _ _ _ _ _ _) ?_; clear tr
        refine then_n ?_
        refine at_seq rfl ?_
        refine at_block rfl ?_
        refine at_seq rfl ?_
        refine rg rfl ?_
        refine Rq ?_
        refine Rq ?_
        refine Rq ?_
        refine Rp_split (fun h4 => ?_) (fun h4 => ?_)
        · try simp only [decide_eq_true_eq, decide_eq_false_iff_not, Bool.not_eq_true', Bool.not_eq_false', beq_iff_eq, beq_eq_false_iff_ne, ne_eq] at h4
          refine Rn ?_
          refine Rn ?_
          refine Rn ?_
          refine Rn ?_
          refine Rq ?_
          refine Rq ?_
          have tr : ∀ y0 y1 y2 y4 y5 y6 y7 y8 y9 y10 y11 y15 y22 y31 y32 y33 y34 y38 y47 y51 z0 z1 z2 z3 z4 z5 z6 z7 z8 : AV, trim [(38, z8), (46, z7), (45, z6), (44, z5), (43, z4), (42, z3), (41, z2), (40, z1), (39, z0), (0, y0), (1, y1), (2, y2), (4, y4), (5, y5), (6, y6), (7, y7), (8, y8), (9, y9), (10, y10), (11, y11), (15, y15), (22, y22), (31, y31), (32, y32), (33, y33), (34, y34), (38, y38), (47, y47), (51, y51)] [(0, y0), (1, y1), (2, y2), (4, y4), (5, y5), (6, y6), (7, y7), (8, y8), (9, y9), (10, y10), (11, y11), (15, y15), (22, y22), (31, y31), (32, y32), (33, y33), (34, y34), (38, y38), (47, y47), (51, y51)] = [(0, y0), (1, y1), (2, y2), (4, y4), (5, y5), (6, y6), (7, y7), (8, y8), (9, y9), (10, y10), (11, y11), (15, y15), (22, y22), (31, y31), (32, y32), (33, y33), (34, y34), (38, z8), (47, y47), (51, y51)] := fun y0 y1 y2 y4 y5 y6 y7 y8 y9 y10 y11 y15 y22 y31 y32 y33 y34 y38 y47 y51 z0 z1 z2 z3 z4 z5 z6 z7 z8 => rfl
          refine R_nil (tr _ _ _ _ _ _ _ _ _ _ _ _ _ _ _ _ _ _ _ _ _ _ _ _ _ _ _ _ _) ?_; clear tr
          refine then_n ?_
          refine cdt ?_
          refine at_seq rfl ?_
          refine rg rfl ?_
          refine Rq ?_
          refine Rq ?_
          have tr : ∀ y0 y1 y2 y4 y5 y6 y7 y8 y9 y10 y11 y15 y22 y31 y32 y33 y34 y38 y47 y51 z0 z1 : AV, trim [(5, z1), (4, z0), (0, y0), (1, y1), (2, y2), (4, y4), (5, y5), (6, y6), (7, y7), (8, y8), (9, y9), (10, y10), (11, y11), (15, y15), (22, y22), (31, y31), (32, y32), (33, y33), (34, y34), (38, y38), (47, y47), (51, y51)] [(0, y0), (1, y1), (2, y2), (4, y4), (5, y5), (6, y6), (7, y7), (8, y8), (9, y9), (10, y10), (11, y11), (15, y15), (22, y22), (31, y31), (32, y32), (33, y33), (34, y34), (38, y38), (47, y47), (51, y51)] = [(0, y0), (1, y1), (2, y2), (4, z0), (5, z1), (6, y6), (7, y7), (8, y8), (9, y9), (10, y10), (11, y11), (15, y15), (22, y22), (31, y31), (32, y32), (33, y33), (34, y34), (38, y38), (47, y47), (51, y51)] := fun y0 y1 y2 y4 y5 y6 y7 y8 y9 y10 y11 y15 y22 y31 y32 y33 y34 y38 y47 y51 z0 z1 => rfl
          refine R_nil (tr _ _ _ _ _ _ _ _ _ _ _ _ _ _ _ _ _ _ _ _ _ _) ?_; clear tr
          refine then_n ?_
          refine at_ret rfl ?_
          refine blk_r ?_
          refine then_r ?_
          refine blk_r ?_
          refine then_r ?_
          refine then_r ?_
          refine blk_r ?_
          refine then_r ?_
          refine fpure ?_
          refine ⟨?_, rfl⟩
          rw [costS, if_neg (fun hh => hh (by assumption)), costV, if_neg (fun hh => hh (by omega)), ← hs, costL_rng (by omega) (by omega)]
        · try simp only [decide_eq_true_eq, decide_eq_false_iff_not, Bool.not_eq_true', Bool.not_eq_false', beq_iff_eq, beq_eq_false_iff_ne, ne_eq] at h4
          refine Ry ?_
          refine Rq ?_
          refine Ry ?_
          refine Rq ?_
          refine Ry ?_
          refine Rq ?_
          refine Ry ?_
          refine Rq ?_
          refine Rq ?_
          refine Rq ?_
          have tr : ∀ y0 y1 y2 y4 y5 y6 y7 y8 y9 y10 y11 y15 y22 y31 y32 y33 y34 y38 y47 y51 z0 z1 z2 z3 z4 z5 z6 z7 z8 : AV, trim [(38, z8), (46, z7), (45, z6), (44, z5), (43, z4), (42, z3), (41, z2), (40, z1), (39, z0), (0, y0), (1, y1), (2, y2), (4, y4), (5, y5), (6, y6), (7, y7), (8, y8), (9, y9), (10, y10), (11, y11), (15, y15), (22, y22), (31, y31), (32, y32), (33, y33), (34, y34), (38, y38), (47, y47), (51, y51)] [(0, y0), (1, y1), (2, y2), (4, y4), (5, y5), (6, y6), (7, y7), (8, y8), (9, y9), (10, y10), (11, y11), (15, y15), (22, y22), (31, y31), (32, y32), (33, y33), (34, y34), (38, y38), (47, y47), (51, y51)] = [(0, y0), (1, y1), (2, y2), (4, y4), (5, y5), (6, y6), (7, y7), (8, y8), (9, y9), (10, y10), (11, y11), (15, y15), (22, y22), (31, y31), (32, y32), (33, y33), (34, y34), (38, z8), (47, y47), (51, y51)] := fun y0 y1 y2 y4 y5 y6 y7 y8 y9 y10 y11 y15 y22 y31 y32 y33 y34 y38 y47 y51 z0 z1 z2 z3 z4 z5 z6 z7 z8 => rfl
          refine R_nil (tr _ _ _ _ _ _ _ _ _ _ _ _ _ _ _ _ _ _ _ _ _ _ _ _ _ _ _ _ _) ?_; clear tr
          refine then_n ?_
          refine cdd (fun h5 => ?_) (fun h5 => ?_)
          · try simp only [decide_eq_true_eq, decide_eq_false_iff_not, Bool.not_eq_true', Bool.not_eq_false', beq_iff_eq, beq_eq_false_iff_ne, ne_eq] at h5
            refine at_seq rfl ?_
            refine rg rfl ?_
            refine Rq ?_
            refine Rq ?_
            have tr : ∀ y0 y1 y2 y4 y5 y6 y7 y8 y9 y10 y11 y15 y22 y31 y32 y33 y34 y38 y47 y51 z0 z1 : AV, trim [(5, z1), (4, z0), (0, y0), (1, y1), (2, y2), (4, y4), (5, y5), (6, y6), (7, y7), (8, y8), (9, y9), (10, y10), (11, y11), (15, y15), (22, y22), (31, y31), (32, y32), (33, y33), (34, y34), (38, y38), (47, y47), (51, y51)] [(0, y0), (1, y1), (2, y2), (4, y4), (5, y5), (6, y6), (7, y7), (8, y8), (9, y9), (10, y10), (11, y11), (15, y15), (22, y22), (31, y31), (32, y32), (33, y33), (34, y34), (38, y38), (47, y47), (51, y51)] = [(0, y0), (1, y1), (2, y2), (4, z0), (5, z1), (6, y6), (7, y7), (8, y8), (9, y9), (10, y10), (11, y11), (15, y15), (22, y22), (31, y31), (32, y32), (33, y33), (34, y34), (38, y38), (47, y47), (51, y51)] := fun y0 y1 y2 y4 y5 y6 y7 y8 y9 y10 y11 y15 y22 y31 y32 y33 y34 y38 y47 y51 z0 z1 => rfl
            refine R_nil (tr _ _ _ _ _ _ _ _ _ _ _ _ _ _ _ _ _ _ _ _ _ _) ?_; clear tr
            refine then_n ?_
            refine at_ret rfl ?_
            refine blk_r ?_
            refine then_r ?_
            refine blk_r ?_
            refine then_r ?_
            refine then_r ?_
            refine blk_r ?_
            refine then_r ?_
            refine fpure ?_
            refine ⟨?_, rfl⟩
            rw [costS, if_neg (fun hh => hh (by assumption)), costV, if_neg (fun hh => hh (by omega)), ← hs, costL_rng (by omega) (by omega)]
          · try simp only [decide_eq_true_eq, decide_eq_false_iff_not, Bool.not_eq_true', Bool.not_eq_false', beq_iff_eq, beq_eq_false_iff_ne, ne_eq] at h5
            refine at_seq rfl ?_
            refine rg rfl ?_
            refine Rq ?_
            refine Rq ?_
            refine Rq ?_
            refine Rq ?_
            have tr : ∀ y0 y1 y2 y4 y5 y6 y7 y8 y9 y10 y11 y15 y22 y31 y32 y33 y34 y38 y47 y51 z0 z1 z2 z3 : AV, trim [(47, z3), (50, z2), (49, z1), (48, z0), (0, y0), (1, y1), (2, y2), (4, y4), (5, y5), (6, y6), (7, y7), (8, y8), (9, y9), (10, y10), (11, y11), (15, y15), (22, y22), (31, y31), (32, y32), (33, y33), (34, y34), (38, y38), (47, y47), (51, y51)] [(0, y0), (1, y1), (2, y2), (4, y4), (5, y5), (6, y6), (7, y7), (8, y8), (9, y9), (10, y10), (11, y11), (15, y15), (22, y22), (31, y31), (32, y32), (33, y33), (34, y34), (38, y38), (47, y47), (51, y51)] = [(0, y0), (1, y1), (2, y2), (4, y4), (5, y5), (6, y6), (7, y7), (8, y8), (9, y9), (10, y10), (11, y11), (15, y15), (22, y22), (31, y31), (32, y32), (33, y33), (34, y34), (38, y38), (47, z3), (51, y51)] := fun y0 y1 y2 y4 y5 y6 y7 y8 y9 y10 y11 y15 y22 y31 y32 y33 y34 y38 y47 y51 z0 z1 z2 z3 => rfl
            refine R_nil (tr _ _ _ _ _ _ _ _ _ _ _ _ _ _ _ _ _ _ _ _ _ _ _ _) ?_; clear tr
            refine then_n ?_
            refine cdd (fun h6 => ?_) (fun h6 => ?_)
            · try simp only [decide_eq_true_eq, decide_eq_false_iff_not, Bool.not_eq_true', Bool.not_eq_false', beq_iff_eq, beq_eq_false_iff_ne, ne_eq] at h6
              refine at_seq rfl ?_
              refine rg rfl ?_
              refine Rq ?_
              refine Rq ?_
              have tr : ∀ y0 y1 y2 y4 y5 y6 y7 y8 y9 y10 y11 y15 y22 y31 y32 y33 y34 y38 y47 y51 z0 z1 : AV, trim [(5, z1), (4, z0), (0, y0), (1, y1), (2, y2), (4, y4), (5, y5), (6, y6), (7, y7), (8, y8), (9, y9), (10, y10), (11, y11), (15, y15), (22, y22), (31, y31), (32, y32), (33, y33), (34, y34), (38, y38), (47, y47), (51, y51)] [(0, y0), (1, y1), (2, y2), (4, y4), (5, y5), (6, y6), (7, y7), (8, y8), (9, y9), (10, y10), (11, y11), (15, y15), (22, y22), (31, y31), (32, y32), (33, y33), (34, y34), (38, y38), (47, y47), (51, y51)] = [(0, y0), (1, y1), (2, y2), (4, z0), (5, z1), (6, y6), (7, y7), (8, y8), (9, y9), (10, y10), (11, y11), (15, y15), (22, y22), (31, y31), (32, y32), (33, y33), (34, y34), (38, y38), (47, y47), (51, y51)] := fun y0 y1 y2 y4 y5 y6 y7 y8 y9 y10 y11 y15 y22 y31 y32 y33 y34 y38 y47 y51 z0 z1 => rfl
              refine R_nil (tr _ _ _ _ _ _ _ _ _ _ _ _ _ _ _ _ _ _ _ _ _ _) ?_; clear tr
              refine then_n ?_
              refine at_ret rfl ?_
              refine blk_r ?_
              refine then_r ?_
              refine blk_r ?_
              refine then_r ?_
              refine then_r ?_
              refine blk_r ?_
              refine then_r ?_
              refine fpure ?_
              refine ⟨?_, rfl⟩
              rw [costS, if_neg (fun hh => hh (by assumption)), costV, if_neg (fun hh => hh (by omega)), ← hs, costL_ord (by omega) (by omega) (by omega)]
            · try simp only [decide_eq_true_eq, decide_eq_false_iff_not, Bool.not_eq_true', Bool.not_eq_false', beq_iff_eq, beq_eq_false_iff_ne, ne_eq] at h6
              refine at_seq rfl ?_
              refine rd rfl rfl ?_
              have hcl := cnts_len (gt rows 0).length l u
              have hcg := cnts_get (b := (gt rows 0).length) (l := l) (i := u) (j := gt l u) (by omega) (by omega)
              refine Qq ?_
              refine Qq ?_
              refine Qq ?_
              refine Q_q rfl (by simp (disch := first | omega | (simp only [List.length_map, List.length_append, List.length_set, List.length_cons, List.length_nil, List.length_take, List.length_drop]; omega)) only [go_sem, ↓reduceIte, Nat.reduceEqDiff, reduceCtorEq, Option.join_some, hcg]; rfl) ?_
              refine Qq ?_
              refine Qq ?_
              refine Qq ?_
              refine Qq ?_
              refine Q_nil ?_
              have tr : ∀ y0 y1 y2 y4 y5 y6 y7 y8 y9 y10 y11 y15 y22 y31 y32 y33 y34 y38 y47 y51 z0 z1 z2 z3 z4 z5 z6 z7 : AV, trim [(51, z7), (58, z6), (57, z5), (56, z4), (55, z3), (54, z2), (53, z1), (52, z0), (0, y0), (1, y1), (2, y2), (4, y4), (5, y5), (6, y6), (7, y7), (8, y8), (9, y9), (10, y10), (11, y11), (15, y15), (22, y22), (31, y31), (32, y32), (33, y33), (34, y34), (38, y38), (47, y47), (51, y51)] [(0, y0), (1, y1), (2, y2), (4, y4), (5, y5), (6, y6), (7, y7), (8, y8), (9, y9), (10, y10), (11, y11), (15, y15), (22, y22), (31, y31), (32, y32), (33, y33), (34, y34), (38, y38), (47, y47), (51, y51)] = [(0, y0), (1, y1), (2, y2), (4, y4), (5, y5), (6, y6), (7, y7), (8, y8), (9, y9), (10, y10), (11, y11), (15, y15), (22, y22), (31, y31), (32, y32), (33, y33), (34, y34), (38, y38), (47, y47), (51, z7)] := fun y0 y1 y2 y4 y5 y6 y7 y8 y9 y10 y11 y15 y22 y31 y32 y33 y34 y38 y47 y51 z0 z1 z2 z3 z4 z5 z6 z7 => rfl
              refine R_nil (tr _ _ _ _ _ _ _ _ _ _ _ _ _ _ _ _ _ _ _ _ _ _ _ _ _ _ _ _) ?_; clear tr
              refine then_n ?_
              refine cdd (fun h7 => ?_) (fun h7 => ?_)
              · try simp only [decide_eq_true_eq, decide_eq_false_iff_not, Bool.not_eq_true', Bool.not_eq_false', beq_iff_eq, beq_eq_false_iff_ne, ne_eq] at h7
                refine at_seq rfl ?_
                refine rg rfl ?_
                refine Rq ?_
                refine Rq ?_
                have tr : ∀ y0 y1 y2 y4 y5 y6 y7 y8 y9 y10 y11 y15 y22 y31 y32 y33 y34 y38 y47 y51 z0 z1 : AV, trim [(5, z1), (4, z0), (0, y0), (1, y1), (2, y2), (4, y4), (5, y5), (6, y6), (7, y7), (8, y8), (9, y9), (10, y10), (11, y11), (15, y15), (22, y22), (31, y31), (32, y32), (33, y33), (34, y34), (38, y38), (47, y47), (51, y51)] [(0, y0), (1, y1), (2, y2), (4, y4), (5, y5), (6, y6), (7, y7), (8, y8), (9, y9), (10, y10), (11, y11), (15, y15), (22, y22), (31, y31), (32, y32), (33, y33), (34, y34), (38, y38), (47, y47), (51, y51)] = [(0, y0), (1, y1), (2, y2), (4, z0), (5, z1), (6, y6), (7, y7), (8, y8), (9, y9), (10, y10), (11, y11), (15, y15), (22, y22), (31, y31), (32, y32), (33, y33), (34, y34), (38, y38), (47, y47), (51, y51)] := fun y0 y1 y2 y4 y5 y6 y7 y8 y9 y10 y11 y15 y22 y31 y32 y33 y34 y38 y47 y51 z0 z1 => rfl
                refine R_nil (tr _ _ _ _ _ _ _ _ _ _ _ _ _ _ _ _ _ _ _ _ _ _) ?_; clear tr
                refine then_n ?_
                refine at_ret rfl ?_
                refine blk_r ?_
                refine then_r ?_
                refine blk_r ?_
                refine then_r ?_
                refine then_r ?_
                refine blk_r ?_
                refine then_r ?_
                refine fpure ?_
                refine ⟨?_, rfl⟩
                rw [costS, if_neg (fun hh => hh (by assumption)), costV, if_neg (fun hh => hh (by omega)), ← hs, costL_lim (by omega) (by omega) (by omega) (by omega)]
              · try simp only [decide_eq_true_eq, decide_eq_false_iff_not, Bool.not_eq_true', Bool.not_eq_false', beq_iff_eq, beq_eq_false_iff_ne, ne_eq] at h7
                refine at_skip rfl ?_
                refine blk_n ?_
                refine then_n ?_
                refine at_seq rfl ?_
                refine rg rfl ?_
                have hcq := hq (gt l u)
                have hcnn := cnt_nn (l.take u) (gt l u)
                refine Rq ?_
                refine Rq ?_
                refine Rq ?_
                refine R_q rfl (by simp (disch := first | omega | (simp only [List.length_map, List.length_append, List.length_set, List.length_cons, List.length_nil, List.length_take, List.length_drop]; omega)) only [go_sem, ↓reduceIte, Nat.reduceEqDiff, reduceCtorEq, Option.join_some, hcg]; rfl) ?_
                refine Rq ?_
                refine Rq ?_
                refine R_store ty3 (by simp (disch := first | omega | (simp only [List.length_map, List.length_append, List.length_set, List.length_cons, List.length_nil, List.length_take, List.length_drop]; omega)) only [go_sem, ↓reduceIte, Nat.reduceEqDiff, reduceCtorEq]; rfl) (by simp (disch := first | omega | (simp only [List.length_map, List.length_append, List.length_set, List.length_cons, List.length_nil, List.length_take, List.length_drop]; omega)) only [go_sem, ↓reduceIte, Nat.reduceEqDiff, reduceCtorEq]; rfl) (by simp (disch := first | omega | (simp only [List.length_map, List.length_append, List.length_set, List.length_cons, List.length_nil, List.length_take, List.length_drop]; omega)) only [go_sem, ↓reduceIte, Nat.reduceEqDiff, reduceCtorEq]; rfl) ⟨by simp, rfl, by simp only [List.length_map, hcl]; omega⟩ (k' := (cnts (gt rows 0).length l (u + 1)).map AV.i) (by rw [setL_map, cnts_set (by omega) (by omega) (by omega)]) (by simp (disch := first | omega | (simp only [List.length_map, List.length_append, List.length_set, List.length_cons, List.length_nil, List.length_take, List.length_drop]; omega)) only [go_sem, ↓reduceIte, Nat.reduceEqDiff, reduceCtorEq]; rfl) ?_
                have tr : ∀ y0 y1 y2 y4 y5 y6 y7 y8 y9 y10 y11 y15 y22 y31 y32 y33 y34 y38 y47 y51 z0 z1 z2 z3 z4 z5 : AV, trim [(64, z5), (63, z4), (62, z3), (61, z2), (60, z1), (59, z0), (0, y0), (1, y1), (2, y2), (4, y4), (5, y5), (6, y6), (7, y7), (8, y8), (9, y9), (10, y10), (11, y11), (15, y15), (22, y22), (31, y31), (32, y32), (33, y33), (34, y34), (38, y38), (47, y47), (51, y51)] [(0, y0), (1, y1), (2, y2), (4, y4), (5, y5), (6, y6), (7, y7), (8, y8), (9, y9), (10, y10), (11, y11), (15, y15), (22, y22), (31, y31), (32, y32), (33, y33), (34, y34), (38, y38), (47, y47), (51, y51)] = [(0, y0), (1, y1), (2, y2), (4, y4), (5, y5), (6, y6), (7, y7), (8, y8), (9, y9), (10, y10), (11, y11), (15, y15), (22, y22), (31, y31), (32, y32), (33, y33), (34, y34), (38, y38), (47, y47), (51, y51)] := fun y0 y1 y2 y4 y5 y6 y7 y8 y9 y10 y11 y15 y22 y31 y32 y33 y34 y38 y47 y51 z0 z1 z2 z3 z4 z5 => rfl
                refine R_nil (tr _ _ _ _ _ _ _ _ _ _ _ _ _ _ _ _ _ _ _ _ _ _ _ _ _ _) ?_; clear tr
                refine then_n ?_
                refine at_seq rfl ?_
                refine rg rfl ?_
                refine Rq ?_
                refine Rq ?_
                have tr : ∀ y0 y1 y2 y4 y5 y6 y7 y8 y9 y10 y11 y15 y22 y31 y32 y33 y34 y38 y47 y51 z0 z1 : AV, trim [(8, z1), (65, z0), (0, y0), (1, y1), (2, y2), (4, y4), (5, y5), (6, y6), (7, y7), (8, y8), (9, y9), (10, y10), (11, y11), (15, y15), (22, y22), (31, y31), (32, y32), (33, y33), (34, y34), (38, y38), (47, y47), (51, y51)] [(0, y0), (1, y1), (2, y2), (4, y4), (5, y5), (6, y6), (7, y7), (8, y8), (9, y9), (10, y10), (11, y11), (15, y15), (22, y22), (31, y31), (32, y32), (33, y33), (34, y34), (38, y38), (47, y47), (51, y51)] = [(0, y0), (1, y1), (2, y2), (4, y4), (5, y5), (6, y6), (7, y7), (8, z1), (9, y9), (10, y10), (11, y11), (15, y15), (22, y22), (31, y31), (32, y32), (33, y33), (34, y34), (38, y38), (47, y47), (51, y51)] := fun y0 y1 y2 y4 y5 y6 y7 y8 y9 y10 y11 y15 y22 y31 y32 y33 y34 y38 y47 y51 z0 z1 => rfl
                refine R_nil (tr _ _ _ _ _ _ _ _ _ _ _ _ _ _ _ _ _ _ _ _ _ _) ?_; clear tr
                refine then_n ?_
                refine rg rfl ?_
                have hlen := g5 u (by omega)
                have hok := g6 u (by omega) (gt l u).toNat (by omega)
                unfold okC at hok
                refine Rq ?_
                refine Rq ?_
                refine Rq ?_
                refine Rq ?_
                refine Rq ?_
                refine Rq ?_
                refine Rq ?_
                refine Rq ?_
                refine Rq ?_
                refine Rq ?_
                refine Rq ?_
                have tr : ∀ y0 y1 y2 y4 y5 y6 y7 y8 y9 y10 y11 y15 y22 y31 y32 y33 y34 y38 y47 y51 z0 z1 z2 z3 z4 z5 z6 z7 z8 z9 z10 : AV, trim [(9, z10), (75, z9), (74, z8), (73, z7), (72, z6), (71, z5), (70, z4), (69, z3), (68, z2), (67, z1), (66, z0), (0, y0), (1, y1), (2, y2), (4, y4), (5, y5), (6, y6), (7, y7), (8, y8), (9, y9), (10, y10), (11, y11), (15, y15), (22, y22), (31, y31), (32, y32), (33, y33), (34, y34), (38, y38), (47, y47), (51, y51)] [(0, y0), (1, y1), (2, y2), (4, y4), (5, y5), (6, y6), (7, y7), (8, y8), (9, y9), (10, y10), (11, y11), (15, y15), (22, y22), (31, y31), (32, y32), (33, y33), (34, y34), (38, y38), (47, y47), (51, y51)] = [(0, y0), (1, y1), (2, y2), (4, y4), (5, y5), (6, y6), (7, y7), (8, y8), (9, z10), (10, y10), (11, y11), (15, y15), (22, y22), (31, y31), (32, y32), (33, y33), (34, y34), (38, y38), (47, y47), (51, y51)] := fun y0 y1 y2 y4 y5 y6 y7 y8 y9 y10 y11 y15 y22 y31 y32 y33 y34 y38 y47 y51 z0 z1 z2 z3 z4 z5 z6 z7 z8 z9 z10 => rfl
                refine R_nil (tr _ _ _ _ _ _ _ _ _ _ _ _ _ _ _ _ _ _ _ _ _ _ _ _ _ _ _ _ _ _ _) ?_; clear tr
                refine blk_n ?_
                refine then_n ?_
                refine rg rfl ?_
                refine Rq ?_
                refine Rq ?_
                have tr : ∀ y0 y1 y2 y4 y5 y6 y7 y8 y9 y10 y11 y15 y22 y31 y32 y33 y34 y38 y47 y51 z0 z1 : AV, trim [(33, z1), (76, z0), (0, y0), (1, y1), (2, y2), (4, y4), (5, y5), (6, y6), (7, y7), (8, y8), (9, y9), (10, y10), (11, y11), (15, y15), (22, y22), (31, y31), (32, y32), (33, y33), (34, y34), (38, y38), (47, y47), (51, y51)] [(0, y0), (1, y1), (2, y2), (4, y4), (5, y5), (6, y6), (7, y7), (8, y8), (9, y9), (10, y10), (11, y11), (15, y15), (22, y22), (31, y31), (32, y32), (33, y33), (34, y34), (38, y38), (47, y47), (51, y51)] = [(0, y0), (1, y1), (2, y2), (4, y4), (5, y5), (6, y6), (7, y7), (8, y8), (9, y9), (10, y10), (11, y11), (15, y15), (22, y22), (31, y31), (32, y32), (33, z1), (34, y34), (38, y38), (47, y47), (51, y51)] := fun y0 y1 y2 y4 y5 y6 y7 y8 y9 y10 y11 y15 y22 y31 y32 y33 y34 y38 y47 y51 z0 z1 => rfl
                refine R_nil (tr _ _ _ _ _ _ _ _ _ _ _ _ _ _ _ _ _ _ _ _ _ _) ?_; clear tr
                refine then_n ?_
                exact ⟨_, _, ⟨u + 1, gt l u, s + gt (gt rows u) (gt l u).toNat, _, _, _, _, _, _, _, _, rfl, rfl, rfl, by omega, by omega, by omega, by rw [costL_on (by omega) (by omega) (by omega) (by omega)]; exact hs, by (intro j; rw [take_gt (by omega), cnt_snoc]; by_cases hh : gt l u = j; (rw [if_pos hh, ← hh]; omega); (rw [if_neg hh]; have := hq j; omega))⟩, by rfl, by omega⟩
      · try simp only [decide_eq_true_eq, decide_eq_false_iff_not, Bool.not_eq_true', Bool.not_eq_false', beq_iff_eq, beq_eq_false_iff_ne, ne_eq] at h3
        refine at_exit rfl ?_
        refine then_x ?_
        refine then_x ?_
        refine blk_x ?_
        refine then_n ?_
        refine at_seq rfl ?_
        refine rg rfl ?_
        refine Rq ?_
        refine Rq ?_
        refine Rq ?_
        have tr : ∀ y0 y1 y2 y4 y5 y6 y7 y8 y9 y10 y11 y15 y22 y31 y32 y33 y34 y38 y47 y51 z0 z1 z2 : AV, trim [(5, z2), (4, z1), (77, z0), (0, y0), (1, y1), (2, y2), (4, y4), (5, y5), (6, y6), (7, y7), (8, y8), (9, y9), (10, y10), (11, y11), (15, y15), (22, y22), (31, y31), (32, y32), (33, y33), (34, y34), (38, y38), (47, y47), (51, y51)] [(0, y0), (1, y1), (2, y2), (4, y4), (5, y5), (6, y6), (7, y7), (8, y8), (9, y9), (10, y10), (11, y11), (15, y15), (22, y22), (31, y31), (32, y32), (33, y33), (34, y34), (38, y38), (47, y47), (51, y51)] = [(0, y0), (1, y1), (2, y2), (4, z1), (5, z2), (6, y6), (7, y7), (8, y8), (9, y9), (10, y10), (11, y11), (15, y15), (22, y22), (31, y31), (32, y32), (33, y33), (34, y34), (38, y38), (47, y47), (51, y51)] := fun y0 y1 y2 y4 y5 y6 y7 y8 y9 y10 y11 y15 y22 y31 y32 y33 y34 y38 y47 y51 z0 z1 z2 => rfl
        refine R_nil (tr _ _ _ _ _ _ _ _ _ _ _ _ _ _ _ _ _ _ _ _ _ _ _) ?_; clear tr
        refine then_n ?_
        refine at_ret rfl ?_
        refine fpure ?_
        refine ⟨?_, rfl⟩
        have hn : l.drop u = [] := List.drop_eq_nil_of_le (by omega)
        rw [costS, if_neg (fun hh => hh (by assumption)), costV, if_neg (fun hh => hh (by omega)), ← hs, hn]
        rfl

end Go.Proofs.Ytmkalakojfpfgaa
