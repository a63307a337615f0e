/-
  Walks of chapter 46. The steps are written by program (walk.py).
-/
import Derived.Test.YtmkalakojfpfgaaRA
set_option linter.unusedSimpArgs false
set_option linter.unusedVariables false
set_option maxHeartbeats 40000000
set_option maxRecDepth 4000
namespace Go.Proofs.Ytmkalakojfpfgaa
open Go Go.Am

theorem check_ok (lim : Nat) (H : Heap) (rows : Tb) (q la : Int) :
    ACall sig lim 13 [.agg [rowsAV rows, AV.i q, AV.i la]] H fun r H' => r = AV.i (checkS rows q la) ∧ H' = H := by
  refine ACall_pure (fa := fa13) rfl rfl rfl rfl ?_
  have tr : ∀ a0 : AV, env0 fa13.keep [a0] = [(0, a0), (1, .any), (2, .any), (3, .any), (5, .any), (7, .any), (8, .any), (13, .any), (28, .any), (30, .any), (31, .any), (32, .any), (33, .any), (39, .any), (40, .any), (41, .any), (42, .any), (43, .any), (51, .any), (54, .any), (74, .any)] := fun a0 => rfl
  refine W_to (tr _) ?_; clear tr
  refine at_seq rfl ?_
  refine rg rfl ?_
  refine R_box rfl (by simp (disch := first | omega | (simp only [List.length_map, List.length_append, List.length_set, List.length_cons, List.length_nil, List.length_take, List.length_drop]; omega)) only [go_sem, ↓reduceIte, Nat.reduceEqDiff, reduceCtorEq]; rfl) rfl rfl ?_
  refine Rq ?_
  have tr : ∀ y0 y1 y2 y3 y5 y7 y8 y13 y28 y30 y31 y32 y33 y39 y40 y41 y42 y43 y51 y54 y74 z0 z1 : AV, trim [(2, z1), (1, z0), (0, y0), (1, y1), (2, y2), (3, y3), (5, y5), (7, y7), (8, y8), (13, y13), (28, y28), (30, y30), (31, y31), (32, y32), (33, y33), (39, y39), (40, y40), (41, y41), (42, y42), (43, y43), (51, y51), (54, y54), (74, y74)] [(0, y0), (1, y1), (2, y2), (3, y3), (5, y5), (7, y7), (8, y8), (13, y13), (28, y28), (30, y30), (31, y31), (32, y32), (33, y33), (39, y39), (40, y40), (41, y41), (42, y42), (43, y43), (51, y51), (54, y54), (74, y74)] = [(0, y0), (1, z0), (2, z1), (3, y3), (5, y5), (7, y7), (8, y8), (13, y13), (28, y28), (30, y30), (31, y31), (32, y32), (33, y33), (39, y39), (40, y40), (41, y41), (42, y42), (43, y43), (51, y51), (54, y54), (74, y74)] := fun y0 y1 y2 y3 y5 y7 y8 y13 y28 y30 y31 y32 y33 y39 y40 y41 y42 y43 y51 y54 y74 z0 z1 => rfl
  refine R_nil (tr _ _ _ _ _ _ _ _ _ _ _ _ _ _ _ _ _ _ _ _ _ _ _) ?_; clear tr
  refine then_n ?_
  refine at_seq rfl ?_
  refine at_block rfl ?_
  refine at_seq rfl ?_
  refine rg rfl ?_
  refine Rq ?_
  refine Rq ?_
  refine Rq ?_
  refine Rq ?_
  refine Rq ?_
  have tr : ∀ y0 y1 y2 y3 y5 y7 y8 y13 y28 y30 y31 y32 y33 y39 y40 y41 y42 y43 y51 y54 y74 z0 z1 z2 z3 z4 : AV, trim [(8, z4), (12, z3), (11, z2), (10, z1), (9, z0), (0, y0), (1, y1), (2, y2), (3, y3), (5, y5), (7, y7), (8, y8), (13, y13), (28, y28), (30, y30), (31, y31), (32, y32), (33, y33), (39, y39), (40, y40), (41, y41), (42, y42), (43, y43), (51, y51), (54, y54), (74, y74)] [(0, y0), (1, y1), (2, y2), (3, y3), (5, y5), (7, y7), (8, y8), (13, y13), (28, y28), (30, y30), (31, y31), (32, y32), (33, y33), (39, y39), (40, y40), (41, y41), (42, y42), (43, y43), (51, y51), (54, y54), (74, y74)] = [(0, y0), (1, y1), (2, y2), (3, y3), (5, y5), (7, y7), (8, z4), (13, y13), (28, y28), (30, y30), (31, y31), (32, y32), (33, y33), (39, y39), (40, y40), (41, y41), (42, y42), (43, y43), (51, y51), (54, y54), (74, y74)] := fun y0 y1 y2 y3 y5 y7 y8 y13 y28 y30 y31 y32 y33 y39 y40 y41 y42 y43 y51 y54 y74 z0 z1 z2 z3 z4 => rfl
  refine R_nil (tr _ _ _ _ _ _ _ _ _ _ _ _ _ _ _ _ _ _ _ _ _ _ _ _ _ _) ?_; clear tr
  refine then_n ?_
  refine cdd (fun h1 => ?_) (fun h1 => ?_)
  · try simp only [decide_eq_true_eq, decide_eq_false_iff_not, Bool.not_eq_true', Bool.not_eq_false', beq_iff_eq, beq_eq_false_iff_ne, ne_eq] at h1
    refine at_seq rfl ?_
    refine rg rfl ?_
    refine Rq ?_
    have tr : ∀ y0 y1 y2 y3 y5 y7 y8 y13 y28 y30 y31 y32 y33 y39 y40 y41 y42 y43 y51 y54 y74 z0 : AV, trim [(2, z0), (0, y0), (1, y1), (2, y2), (3, y3), (5, y5), (7, y7), (8, y8), (13, y13), (28, y28), (30, y30), (31, y31), (32, y32), (33, y33), (39, y39), (40, y40), (41, y41), (42, y42), (43, y43), (51, y51), (54, y54), (74, y74)] [(0, y0), (1, y1), (2, y2), (3, y3), (5, y5), (7, y7), (8, y8), (13, y13), (28, y28), (30, y30), (31, y31), (32, y32), (33, y33), (39, y39), (40, y40), (41, y41), (42, y42), (43, y43), (51, y51), (54, y54), (74, y74)] = [(0, y0), (1, y1), (2, z0), (3, y3), (5, y5), (7, y7), (8, y8), (13, y13), (28, y28), (30, y30), (31, y31), (32, y32), (33, y33), (39, y39), (40, y40), (41, y41), (42, y42), (43, y43), (51, y51), (54, y54), (74, y74)] := fun y0 y1 y2 y3 y5 y7 y8 y13 y28 y30 y31 y32 y33 y39 y40 y41 y42 y43 y51 y54 y74 z0 => rfl
    refine R_nil (tr _ _ _ _ _ _ _ _ _ _ _ _ _ _ _ _ _ _ _ _ _ _) ?_; clear tr
    refine then_n ?_
    refine at_ret rfl ?_
    refine blk_r ?_
    refine then_r ?_
    refine fpure ?_
    refine ⟨?_, rfl⟩
    rw [checkS, if_pos (by omega)]
  · try simp only [decide_eq_true_eq, decide_eq_false_iff_not, Bool.not_eq_true', Bool.not_eq_false', beq_iff_eq, beq_eq_false_iff_ne, ne_eq] at h1
    refine at_seq rfl ?_
    refine rg rfl ?_
    refine Rq ?_
    refine Rq ?_
    refine Rq ?_
    refine Rq ?_
    refine Rq ?_
    have tr : ∀ y0 y1 y2 y3 y5 y7 y8 y13 y28 y30 y31 y32 y33 y39 y40 y41 y42 y43 y51 y54 y74 z0 z1 z2 z3 z4 : AV, trim [(13, z4), (17, z3), (16, z2), (15, z1), (14, z0), (0, y0), (1, y1), (2, y2), (3, y3), (5, y5), (7, y7), (8, y8), (13, y13), (28, y28), (30, y30), (31, y31), (32, y32), (33, y33), (39, y39), (40, y40), (41, y41), (42, y42), (43, y43), (51, y51), (54, y54), (74, y74)] [(0, y0), (1, y1), (2, y2), (3, y3), (5, y5), (7, y7), (8, y8), (13, y13), (28, y28), (30, y30), (31, y31), (32, y32), (33, y33), (39, y39), (40, y40), (41, y41), (42, y42), (43, y43), (51, y51), (54, y54), (74, y74)] = [(0, y0), (1, y1), (2, y2), (3, y3), (5, y5), (7, y7), (8, y8), (13, z4), (28, y28), (30, y30), (31, y31), (32, y32), (33, y33), (39, y39), (40, y40), (41, y41), (42, y42), (43, y43), (51, y51), (54, y54), (74, y74)] := fun y0 y1 y2 y3 y5 y7 y8 y13 y28 y30 y31 y32 y33 y39 y40 y41 y42 y43 y51 y54 y74 z0 z1 z2 z3 z4 => rfl
    refine R_nil (tr _ _ _ _ _ _ _ _ _ _ _ _ _ _ _ _ _ _ _ _ _ _ _ _ _ _) ?_; clear tr
    refine then_n ?_
    refine cdd (fun h2 => ?_) (fun h2 => ?_)
    · try simp only [decide_eq_true_eq, decide_eq_false_iff_not, Bool.not_eq_true', Bool.not_eq_false', beq_iff_eq, beq_eq_false_iff_ne, ne_eq] at h2
      refine at_seq rfl ?_
      refine rg rfl ?_
      refine Rq ?_
      have tr : ∀ y0 y1 y2 y3 y5 y7 y8 y13 y28 y30 y31 y32 y33 y39 y40 y41 y42 y43 y51 y54 y74 z0 : AV, trim [(2, z0), (0, y0), (1, y1), (2, y2), (3, y3), (5, y5), (7, y7), (8, y8), (13, y13), (28, y28), (30, y30), (31, y31), (32, y32), (33, y33), (39, y39), (40, y40), (41, y41), (42, y42), (43, y43), (51, y51), (54, y54), (74, y74)] [(0, y0), (1, y1), (2, y2), (3, y3), (5, y5), (7, y7), (8, y8), (13, y13), (28, y28), (30, y30), (31, y31), (32, y32), (33, y33), (39, y39), (40, y40), (41, y41), (42, y42), (43, y43), (51, y51), (54, y54), (74, y74)] = [(0, y0), (1, y1), (2, z0), (3, y3), (5, y5), (7, y7), (8, y8), (13, y13), (28, y28), (30, y30), (31, y31), (32, y32), (33, y33), (39, y39), (40, y40), (41, y41), (42, y42), (43, y43), (51, y51), (54, y54), (74, y74)] := fun y0 y1 y2 y3 y5 y7 y8 y13 y28 y30 y31 y32 y33 y39 y40 y41 y42 y43 y51 y54 y74 z0 => rfl
      refine R_nil (tr _ _ _ _ _ _ _ _ _ _ _ _ _ _ _ _ _ _ _ _ _ _) ?_; clear tr
      refine then_n ?_
      refine at_ret rfl ?_
      refine blk_r ?_
      refine then_r ?_
      refine fpure ?_
      refine ⟨?_, rfl⟩
      rw [checkS, if_neg (by omega), if_pos (by omega)]
    · try simp only [decide_eq_true_eq, decide_eq_false_iff_not, Bool.not_eq_true', Bool.not_eq_false', beq_iff_eq, beq_eq_false_iff_ne, ne_eq] at h2
      refine at_skip rfl ?_
      refine blk_n ?_
      refine then_n ?_
      refine at_seq rfl ?_
      refine rg rfl ?_
      refine Rq ?_
      refine Rq ?_
      refine Rq ?_
      refine Rq ?_
      refine Rq ?_
      refine Rq ?_
      have tr : ∀ y0 y1 y2 y3 y5 y7 y8 y13 y28 y30 y31 y32 y33 y39 y40 y41 y42 y43 y51 y54 y74 z0 z1 z2 z3 z4 z5 : AV, trim [(3, z5), (22, z4), (21, z3), (20, z2), (19, z1), (18, z0), (0, y0), (1, y1), (2, y2), (3, y3), (5, y5), (7, y7), (8, y8), (13, y13), (28, y28), (30, y30), (31, y31), (32, y32), (33, y33), (39, y39), (40, y40), (41, y41), (42, y42), (43, y43), (51, y51), (54, y54), (74, y74)] [(0, y0), (1, y1), (2, y2), (3, y3), (5, y5), (7, y7), (8, y8), (13, y13), (28, y28), (30, y30), (31, y31), (32, y32), (33, y33), (39, y39), (40, y40), (41, y41), (42, y42), (43, y43), (51, y51), (54, y54), (74, y74)] = [(0, y0), (1, y1), (2, y2), (3, z5), (5, y5), (7, y7), (8, y8), (13, y13), (28, y28), (30, y30), (31, y31), (32, y32), (33, y33), (39, y39), (40, y40), (41, y41), (42, y42), (43, y43), (51, y51), (54, y54), (74, y74)] := fun y0 y1 y2 y3 y5 y7 y8 y13 y28 y30 y31 y32 y33 y39 y40 y41 y42 y43 y51 y54 y74 z0 z1 z2 z3 z4 z5 => rfl
      refine R_nil (tr _ _ _ _ _ _ _ _ _ _ _ _ _ _ _ _ _ _ _ _ _ _ _ _ _ _ _) ?_; clear tr
      refine then_n ?_
      refine at_seq rfl ?_
      refine at_seq rfl ?_
      refine rg rfl ?_
      refine Rq ?_
      refine Rq ?_
      refine Rq ?_
      refine Rp_split (fun h3 => ?_) (fun h3 => ?_)
      · try simp only [decide_eq_true_eq, decide_eq_false_iff_not, Bool.not_eq_true', Bool.not_eq_false', beq_iff_eq, beq_eq_false_iff_ne, ne_eq] at h3
        refine Rn ?_
        refine Rn ?_
        refine Rq ?_
        have tr : ∀ y0 y1 y2 y3 y5 y7 y8 y13 y28 y30 y31 y32 y33 y39 y40 y41 y42 y43 y51 y54 y74 z0 z1 z2 z3 z4 z5 : AV, trim [(28, z5), (27, z4), (26, z3), (25, z2), (24, z1), (23, z0), (0, y0), (1, y1), (2, y2), (3, y3), (5, y5), (7, y7), (8, y8), (13, y13), (28, y28), (30, y30), (31, y31), (32, y32), (33, y33), (39, y39), (40, y40), (41, y41), (42, y42), (43, y43), (51, y51), (54, y54), (74, y74)] [(0, y0), (1, y1), (2, y2), (3, y3), (5, y5), (7, y7), (8, y8), (13, y13), (28, y28), (30, y30), (31, y31), (32, y32), (33, y33), (39, y39), (40, y40), (41, y41), (42, y42), (43, y43), (51, y51), (54, y54), (74, y74)] = [(0, y0), (1, y1), (2, y2), (3, y3), (5, y5), (7, y7), (8, y8), (13, y13), (28, z5), (30, y30), (31, y31), (32, y32), (33, y33), (39, y39), (40, y40), (41, y41), (42, y42), (43, y43), (51, y51), (54, y54), (74, y74)] := fun y0 y1 y2 y3 y5 y7 y8 y13 y28 y30 y31 y32 y33 y39 y40 y41 y42 y43 y51 y54 y74 z0 z1 z2 z3 z4 z5 => rfl
        refine R_nil (tr _ _ _ _ _ _ _ _ _ _ _ _ _ _ _ _ _ _ _ _ _ _ _ _ _ _ _) ?_; clear tr
        refine then_n ?_
        refine cdt ?_
        refine at_seq rfl ?_
        refine rg rfl ?_
        refine Rq ?_
        have tr : ∀ y0 y1 y2 y3 y5 y7 y8 y13 y28 y30 y31 y32 y33 y39 y40 y41 y42 y43 y51 y54 y74 z0 : AV, trim [(2, z0), (0, y0), (1, y1), (2, y2), (3, y3), (5, y5), (7, y7), (8, y8), (13, y13), (28, y28), (30, y30), (31, y31), (32, y32), (33, y33), (39, y39), (40, y40), (41, y41), (42, y42), (43, y43), (51, y51), (54, y54), (74, y74)] [(0, y0), (1, y1), (2, y2), (3, y3), (5, y5), (7, y7), (8, y8), (13, y13), (28, y28), (30, y30), (31, y31), (32, y32), (33, y33), (39, y39), (40, y40), (41, y41), (42, y42), (43, y43), (51, y51), (54, y54), (74, y74)] = [(0, y0), (1, y1), (2, z0), (3, y3), (5, y5), (7, y7), (8, y8), (13, y13), (28, y28), (30, y30), (31, y31), (32, y32), (33, y33), (39, y39), (40, y40), (41, y41), (42, y42), (43, y43), (51, y51), (54, y54), (74, y74)] := fun y0 y1 y2 y3 y5 y7 y8 y13 y28 y30 y31 y32 y33 y39 y40 y41 y42 y43 y51 y54 y74 z0 => rfl
        refine R_nil (tr _ _ _ _ _ _ _ _ _ _ _ _ _ _ _ _ _ _ _ _ _ _) ?_; clear tr
        refine then_n ?_
        refine at_ret rfl ?_
        refine then_r ?_
        refine fpure ?_
        refine ⟨?_, rfl⟩
        rw [checkS, if_neg (by omega), if_neg (by omega), if_pos (by omega)]
      · try simp only [decide_eq_true_eq, decide_eq_false_iff_not, Bool.not_eq_true', Bool.not_eq_false', beq_iff_eq, beq_eq_false_iff_ne, ne_eq] at h3
        refine Ry ?_
        refine Rq ?_
        refine Ry ?_
        refine Rq ?_
        refine Rq ?_
        have tr : ∀ y0 y1 y2 y3 y5 y7 y8 y13 y28 y30 y31 y32 y33 y39 y40 y41 y42 y43 y51 y54 y74 z0 z1 z2 z3 z4 z5 : AV, trim [(28, z5), (27, z4), (26, z3), (25, z2), (24, z1), (23, z0), (0, y0), (1, y1), (2, y2), (3, y3), (5, y5), (7, y7), (8, y8), (13, y13), (28, y28), (30, y30), (31, y31), (32, y32), (33, y33), (39, y39), (40, y40), (41, y41), (42, y42), (43, y43), (51, y51), (54, y54), (74, y74)] [(0, y0), (1, y1), (2, y2), (3, y3), (5, y5), (7, y7), (8, y8), (13, y13), (28, y28), (30, y30), (31, y31), (32, y32), (33, y33), (39, y39), (40, y40), (41, y41), (42, y42), (43, y43), (51, y51), (54, y54), (74, y74)] = [(0, y0), (1, y1), (2, y2), (3, y3), (5, y5), (7, y7), (8, y8), (13, y13), (28, z5), (30, y30), (31, y31), (32, y32), (33, y33), (39, y39), (40, y40), (41, y41), (42, y42), (43, y43), (51, y51), (54, y54), (74, y74)] := fun y0 y1 y2 y3 y5 y7 y8 y13 y28 y30 y31 y32 y33 y39 y40 y41 y42 y43 y51 y54 y74 z0 z1 z2 z3 z4 z5 => rfl
        refine R_nil (tr _ _ _ _ _ _ _ _ _ _ _ _ _ _ _ _ _ _ _ _ _ _ _ _ _ _ _) ?_; clear tr
        refine then_n ?_
        refine cdd (fun h4 => ?_) (fun h4 => ?_)
        · try simp only [decide_eq_true_eq, decide_eq_false_iff_not, Bool.not_eq_true', Bool.not_eq_false', beq_iff_eq, beq_eq_false_iff_ne, ne_eq] at h4
          refine at_seq rfl ?_
          refine rg rfl ?_
          refine Rq ?_
          have tr : ∀ y0 y1 y2 y3 y5 y7 y8 y13 y28 y30 y31 y32 y33 y39 y40 y41 y42 y43 y51 y54 y74 z0 : AV, trim [(2, z0), (0, y0), (1, y1), (2, y2), (3, y3), (5, y5), (7, y7), (8, y8), (13, y13), (28, y28), (30, y30), (31, y31), (32, y32), (33, y33), (39, y39), (40, y40), (41, y41), (42, y42), (43, y43), (51, y51), (54, y54), (74, y74)] [(0, y0), (1, y1), (2, y2), (3, y3), (5, y5), (7, y7), (8, y8), (13, y13), (28, y28), (30, y30), (31, y31), (32, y32), (33, y33), (39, y39), (40, y40), (41, y41), (42, y42), (43, y43), (51, y51), (54, y54), (74, y74)] = [(0, y0), (1, y1), (2, z0), (3, y3), (5, y5), (7, y7), (8, y8), (13, y13), (28, y28), (30, y30), (31, y31), (32, y32), (33, y33), (39, y39), (40, y40), (41, y41), (42, y42), (43, y43), (51, y51), (54, y54), (74, y74)] := fun y0 y1 y2 y3 y5 y7 y8 y13 y28 y30 y31 y32 y33 y39 y40 y41 y42 y43 y51 y54 y74 z0 => rfl
          refine R_nil (tr _ _ _ _ _ _ _ _ _ _ _ _ _ _ _ _ _ _ _ _ _ _) ?_; clear tr
          refine then_n ?_
          refine at_ret rfl ?_
          refine then_r ?_
          refine fpure ?_
          refine ⟨?_, rfl⟩
          rw [checkS, if_neg (by omega), if_neg (by omega), if_pos (by omega)]
        · try simp only [decide_eq_true_eq, decide_eq_false_iff_not, Bool.not_eq_true', Bool.not_eq_false', beq_iff_eq, beq_eq_false_iff_ne, ne_eq] at h4
          refine at_skip rfl ?_
          refine then_n ?_
          refine at_seq rfl ?_
          refine at_seq rfl ?_
          refine rg rfl ?_
          refine Rq ?_
          refine Rq ?_
          refine Rq ?_
          refine Rq ?_
          have tr : ∀ y0 y1 y2 y3 y5 y7 y8 y13 y28 y30 y31 y32 y33 y39 y40 y41 y42 y43 y51 y54 y74 z0 z1 z2 z3 : AV, trim [(32, z3), (31, z2), (30, z1), (29, z0), (0, y0), (1, y1), (2, y2), (3, y3), (5, y5), (7, y7), (8, y8), (13, y13), (28, y28), (30, y30), (31, y31), (32, y32), (33, y33), (39, y39), (40, y40), (41, y41), (42, y42), (43, y43), (51, y51), (54, y54), (74, y74)] [(0, y0), (1, y1), (2, y2), (3, y3), (5, y5), (7, y7), (8, y8), (13, y13), (28, y28), (30, y30), (31, y31), (32, y32), (33, y33), (39, y39), (40, y40), (41, y41), (42, y42), (43, y43), (51, y51), (54, y54), (74, y74)] = [(0, y0), (1, y1), (2, y2), (3, y3), (5, y5), (7, y7), (8, y8), (13, y13), (28, y28), (30, z1), (31, z2), (32, z3), (33, y33), (39, y39), (40, y40), (41, y41), (42, y42), (43, y43), (51, y51), (54, y54), (74, y74)] := fun y0 y1 y2 y3 y5 y7 y8 y13 y28 y30 y31 y32 y33 y39 y40 y41 y42 y43 y51 y54 y74 z0 z1 z2 z3 => rfl
          refine R_nil (tr _ _ _ _ _ _ _ _ _ _ _ _ _ _ _ _ _ _ _ _ _ _ _ _ _) ?_; clear tr
          refine then_n ?_
          refine at_block rfl ?_
          refine loop_n rfl (fun mm kv H' => ∃ u : Nat, ∃ x2 x5 x7 x33 x39 x40 x41 x42 x43 x51 : AV, (kv = [(2, x2), (5, x5), (7, x7), (32, AV.i u), (33, x33), (39, x39), (40, x40), (41, x41), (42, x42), (43, x43), (51, x51)]) ∧ (mm = rows.length - u) ∧ (H' = H ++ [some [rowsAV rows, AV.i q, AV.i la]]) ∧ (u ≤ rows.length) ∧ (scanV (gt rows 0).length (rows.drop u) = scanV (gt rows 0).length rows)) ⟨0, _, _, _, _, _, _, _, _, _, _, rfl, rfl, rfl, by omega, by rfl⟩ (by rfl) ?_
          rintro mm kv H' ⟨u, x2, x5, x7, x33, x39, x40, x41, x42, x43, x51, rfl, rfl, rfl, hu, hs⟩
          have tr : ∀ y0 y1 y2 y3 y5 y7 y8 y13 y28 y30 y31 y32 y33 y39 y40 y41 y42 y43 y51 y54 y74 z2 z5 z7 z32 z33 z39 z40 z41 z42 z43 z51 : AV, upd [(0, y0), (1, y1), (2, y2), (3, y3), (5, y5), (7, y7), (8, y8), (13, y13), (28, y28), (30, y30), (31, y31), (32, y32), (33, y33), (39, y39), (40, y40), (41, y41), (42, y42), (43, y43), (51, y51), (54, y54), (74, y74)] [(2, z2), (5, z5), (7, z7), (32, z32), (33, z33), (39, z39), (40, z40), (41, z41), (42, z42), (43, z43), (51, z51)] = [(0, y0), (1, y1), (2, z2), (3, y3), (5, z5), (7, z7), (8, y8), (13, y13), (28, y28), (30, y30), (31, y31), (32, z32), (33, z33), (39, z39), (40, z40), (41, z41), (42, z42), (43, z43), (51, z51), (54, y54), (74, y74)] := fun y0 y1 y2 y3 y5 y7 y8 y13 y28 y30 y31 y32 y33 y39 y40 y41 y42 y43 y51 y54 y74 z2 z5 z7 z32 z33 z39 z40 z41 z42 z43 z51 => rfl
          refine W_to (tr _ _ _ _ _ _ _ _ _ _ _ _ _ _ _ _ _ _ _ _ _ _ _ _ _ _ _ _ _ _ _ _) ?_; clear tr
          refine at_seq rfl ?_
          refine rg rfl ?_
          refine Rq ?_
          have tr : ∀ y0 y1 y2 y3 y5 y7 y8 y13 y28 y30 y31 y32 y33 y39 y40 y41 y42 y43 y51 y54 y74 z0 : AV, trim [(33, z0), (0, y0), (1, y1), (2, y2), (3, y3), (5, y5), (7, y7), (8, y8), (13, y13), (28, y28), (30, y30), (31, y31), (32, y32), (33, y33), (39, y39), (40, y40), (41, y41), (42, y42), (43, y43), (51, y51), (54, y54), (74, y74)] [(0, y0), (1, y1), (2, y2), (3, y3), (5, y5), (7, y7), (8, y8), (13, y13), (28, y28), (30, y30), (31, y31), (32, y32), (33, y33), (39, y39), (40, y40), (41, y41), (42, y42), (43, y43), (51, y51), (54, y54), (74, y74)] = [(0, y0), (1, y1), (2, y2), (3, y3), (5, y5), (7, y7), (8, y8), (13, y13), (28, y28), (30, y30), (31, y31), (32, y32), (33, z0), (39, y39), (40, y40), (41, y41), (42, y42), (43, y43), (51, y51), (54, y54), (74, y74)] := fun y0 y1 y2 y3 y5 y7 y8 y13 y28 y30 y31 y32 y33 y39 y40 y41 y42 y43 y51 y54 y74 z0 => rfl
          refine R_nil (tr _ _ _ _ _ _ _ _ _ _ _ _ _ _ _ _ _ _ _ _ _ _) ?_; clear tr
          refine then_n ?_
          refine at_seq rfl ?_
          refine cdd (fun h5 => ?_) (fun h5 => ?_)
          · try simp only [decide_eq_true_eq, decide_eq_false_iff_not, Bool.not_eq_true', Bool.not_eq_false', beq_iff_eq, beq_eq_false_iff_ne, ne_eq] at h5
            refine at_skip rfl ?_
            refine then_n ?_
            refine at_seq rfl ?_
            refine at_block rfl ?_
            refine at_seq rfl ?_
            refine rg rfl ?_
            refine Rq ?_
            refine Rq ?_
            refine Rq ?_
            have tr : ∀ y0 y1 y2 y3 y5 y7 y8 y13 y28 y30 y31 y32 y33 y39 y40 y41 y42 y43 y51 y54 y74 z0 z1 z2 : AV, trim [(5, z2), (35, z1), (34, z0), (0, y0), (1, y1), (2, y2), (3, y3), (5, y5), (7, y7), (8, y8), (13, y13), (28, y28), (30, y30), (31, y31), (32, y32), (33, y33), (39, y39), (40, y40), (41, y41), (42, y42), (43, y43), (51, y51), (54, y54), (74, y74)] [(0, y0), (1, y1), (2, y2), (3, y3), (5, y5), (7, y7), (8, y8), (13, y13), (28, y28), (30, y30), (31, y31), (32, y32), (33, y33), (39, y39), (40, y40), (41, y41), (42, y42), (43, y43), (51, y51), (54, y54), (74, y74)] = [(0, y0), (1, y1), (2, y2), (3, y3), (5, z2), (7, y7), (8, y8), (13, y13), (28, y28), (30, y30), (31, y31), (32, y32), (33, y33), (39, y39), (40, y40), (41, y41), (42, y42), (43, y43), (51, y51), (54, y54), (74, y74)] := fun y0 y1 y2 y3 y5 y7 y8 y13 y28 y30 y31 y32 y33 y39 y40 y41 y42 y43 y51 y54 y74 z0 z1 z2 => rfl
            refine R_nil (tr _ _ _ _ _ _ _ _ _ _ _ _ _ _ _ _ _ _ _ _ _ _ _ _) ?_; clear tr
            refine then_n ?_
            refine at_seq rfl ?_
            refine at_seq rfl ?_
            refine rg rfl ?_
            refine Rq ?_
            refine Rq ?_
            refine Rq ?_
            refine Rq ?_
            have tr : ∀ y0 y1 y2 y3 y5 y7 y8 y13 y28 y30 y31 y32 y33 y39 y40 y41 y42 y43 y51 y54 y74 z0 z1 z2 z3 : AV, trim [(39, z3), (38, z2), (37, z1), (36, z0), (0, y0), (1, y1), (2, y2), (3, y3), (5, y5), (7, y7), (8, y8), (13, y13), (28, y28), (30, y30), (31, y31), (32, y32), (33, y33), (39, y39), (40, y40), (41, y41), (42, y42), (43, y43), (51, y51), (54, y54), (74, y74)] [(0, y0), (1, y1), (2, y2), (3, y3), (5, y5), (7, y7), (8, y8), (13, y13), (28, y28), (30, y30), (31, y31), (32, y32), (33, y33), (39, y39), (40, y40), (41, y41), (42, y42), (43, y43), (51, y51), (54, y54), (74, y74)] = [(0, y0), (1, y1), (2, y2), (3, y3), (5, y5), (7, y7), (8, y8), (13, y13), (28, y28), (30, y30), (31, y31), (32, y32), (33, y33), (39, z3), (40, y40), (41, y41), (42, y42), (43, y43), (51, y51), (54, y54), (74, y74)] := fun y0 y1 y2 y3 y5 y7 y8 y13 y28 y30 y31 y32 y33 y39 y40 y41 y42 y43 y51 y54 y74 z0 z1 z2 z3 => rfl
            refine R_nil (tr _ _ _ _ _ _ _ _ _ _ _ _ _ _ _ _ _ _ _ _ _ _ _ _ _) ?_; clear tr
            refine then_n ?_
            refine cdd (fun h6 => ?_) (fun h6 => ?_)
            · try simp only [decide_eq_true_eq, decide_eq_false_iff_not, Bool.not_eq_true', Bool.not_eq_false', beq_iff_eq, beq_eq_false_iff_ne, ne_eq] at h6
              refine at_seq rfl ?_
              refine rg rfl ?_
              refine Rq ?_
              have tr : ∀ y0 y1 y2 y3 y5 y7 y8 y13 y28 y30 y31 y32 y33 y39 y40 y41 y42 y43 y51 y54 y74 z0 : AV, trim [(2, z0), (0, y0), (1, y1), (2, y2), (3, y3), (5, y5), (7, y7), (8, y8), (13, y13), (28, y28), (30, y30), (31, y31), (32, y32), (33, y33), (39, y39), (40, y40), (41, y41), (42, y42), (43, y43), (51, y51), (54, y54), (74, y74)] [(0, y0), (1, y1), (2, y2), (3, y3), (5, y5), (7, y7), (8, y8), (13, y13), (28, y28), (30, y30), (31, y31), (32, y32), (33, y33), (39, y39), (40, y40), (41, y41), (42, y42), (43, y43), (51, y51), (54, y54), (74, y74)] = [(0, y0), (1, y1), (2, z0), (3, y3), (5, y5), (7, y7), (8, y8), (13, y13), (28, y28), (30, y30), (31, y31), (32, y32), (33, y33), (39, y39), (40, y40), (41, y41), (42, y42), (43, y43), (51, y51), (54, y54), (74, y74)] := fun y0 y1 y2 y3 y5 y7 y8 y13 y28 y30 y31 y32 y33 y39 y40 y41 y42 y43 y51 y54 y74 z0 => rfl
              refine R_nil (tr _ _ _ _ _ _ _ _ _ _ _ _ _ _ _ _ _ _ _ _ _ _) ?_; clear tr
              refine then_n ?_
              refine at_ret rfl ?_
              refine then_r ?_
              refine blk_r ?_
              refine then_r ?_
              refine then_r ?_
              refine blk_r ?_
              refine then_r ?_
              refine fpure ?_
              refine ⟨?_, rfl⟩
              have he := rowE_len (b := (gt rows 0).length) (l := gt rows u) (by omega)
              have hc : scanV (gt rows 0).length rows ≠ 0 ∧ scanV (gt rows 0).length rows = 1 := by rw [← hs, scan_bad (by omega) (by rw [he]; decide), he]; exact ⟨by decide, rfl⟩
              rw [checkS, if_neg (by omega), if_neg (by omega), if_neg (by omega), if_pos hc.1, hc.2]
            · try simp only [decide_eq_true_eq, decide_eq_false_iff_not, Bool.not_eq_true', Bool.not_eq_false', beq_iff_eq, beq_eq_false_iff_ne, ne_eq] at h6
              refine at_skip rfl ?_
              refine then_n ?_
              refine at_seq rfl ?_
              refine rg rfl ?_
              refine Rq ?_
              refine Rq ?_
              refine Rq ?_
              have tr : ∀ y0 y1 y2 y3 y5 y7 y8 y13 y28 y30 y31 y32 y33 y39 y40 y41 y42 y43 y51 y54 y74 z0 z1 z2 : AV, trim [(42, z2), (41, z1), (40, z0), (0, y0), (1, y1), (2, y2), (3, y3), (5, y5), (7, y7), (8, y8), (13, y13), (28, y28), (30, y30), (31, y31), (32, y32), (33, y33), (39, y39), (40, y40), (41, y41), (42, y42), (43, y43), (51, y51), (54, y54), (74, y74)] [(0, y0), (1, y1), (2, y2), (3, y3), (5, y5), (7, y7), (8, y8), (13, y13), (28, y28), (30, y30), (31, y31), (32, y32), (33, y33), (39, y39), (40, y40), (41, y41), (42, y42), (43, y43), (51, y51), (54, y54), (74, y74)] = [(0, y0), (1, y1), (2, y2), (3, y3), (5, y5), (7, y7), (8, y8), (13, y13), (28, y28), (30, y30), (31, y31), (32, y32), (33, y33), (39, y39), (40, z0), (41, z1), (42, z2), (43, y43), (51, y51), (54, y54), (74, y74)] := fun y0 y1 y2 y3 y5 y7 y8 y13 y28 y30 y31 y32 y33 y39 y40 y41 y42 y43 y51 y54 y74 z0 z1 z2 => rfl
              refine R_nil (tr _ _ _ _ _ _ _ _ _ _ _ _ _ _ _ _ _ _ _ _ _ _ _ _) ?_; clear tr
              refine then_n ?_
              refine at_block rfl ?_
              refine loop_n rfl (fun mm kv H' => ∃ w : Nat, ∃ x2 x7 x43 x51 : AV, (kv = [(2, x2), (7, x7), (42, AV.i w), (43, x43), (51, x51)]) ∧ (mm = (gt rows u).length - w) ∧ (H' = H ++ [some [rowsAV rows, AV.i q, AV.i la]]) ∧ (w ≤ (gt rows u).length) ∧ (∀ j, j < w → okC (gt (gt rows u) j))) ⟨0, _, _, _, _, rfl, rfl, rfl, by omega, by intro j hj; omega⟩ (by rfl) ?_
              rintro mm kv H' ⟨w, x2, x7, x43, x51, rfl, rfl, rfl, hw, hw2⟩
              have tr : ∀ y0 y1 y2 y3 y5 y7 y8 y13 y28 y30 y31 y32 y33 y39 y40 y41 y42 y43 y51 y54 y74 z2 z7 z42 z43 z51 : AV, upd [(0, y0), (1, y1), (2, y2), (3, y3), (5, y5), (7, y7), (8, y8), (13, y13), (28, y28), (30, y30), (31, y31), (32, y32), (33, y33), (39, y39), (40, y40), (41, y41), (42, y42), (43, y43), (51, y51), (54, y54), (74, y74)] [(2, z2), (7, z7), (42, z42), (43, z43), (51, z51)] = [(0, y0), (1, y1), (2, z2), (3, y3), (5, y5), (7, z7), (8, y8), (13, y13), (28, y28), (30, y30), (31, y31), (32, y32), (33, y33), (39, y39), (40, y40), (41, y41), (42, z42), (43, z43), (51, z51), (54, y54), (74, y74)] := fun y0 y1 y2 y3 y5 y7 y8 y13 y28 y30 y31 y32 y33 y39 y40 y41 y42 y43 y51 y54 y74 z2 z7 z42 z43 z51 => rfl
              refine W_to (tr _ _ _ _ _ _ _ _ _ _ _ _ _ _ _ _ _ _ _ _ _ _ _ _ _ _) ?_; clear tr
              refine at_seq rfl ?_
              refine rg rfl ?_
              refine Rq ?_
              have tr : ∀ y0 y1 y2 y3 y5 y7 y8 y13 y28 y30 y31 y32 y33 y39 y40 y41 y42 y43 y51 y54 y74 z0 : AV, trim [(43, z0), (0, y0), (1, y1), (2, y2), (3, y3), (5, y5), (7, y7), (8, y8), (13, y13), (28, y28), (30, y30), (31, y31), (32, y32), (33, y33), (39, y39), (40, y40), (41, y41), (42, y42), (43, y43), (51, y51), (54, y54), (74, y74)] [(0, y0), (1, y1), (2, y2), (3, y3), (5, y5), (7, y7), (8, y8), (13, y13), (28, y28), (30, y30), (31, y31), (32, y32), (33, y33), (39, y39), (40, y40), (41, y41), (42, y42), (43, y43), (51, y51), (54, y54), (74, y74)] = [(0, y0), (1, y1), (2, y2), (3, y3), (5, y5), (7, y7), (8, y8), (13, y13), (28, y28), (30, y30), (31, y31), (32, y32), (33, y33), (39, y39), (40, y40), (41, y41), (42, y42), (43, z0), (51, y51), (54, y54), (74, y74)] := fun y0 y1 y2 y3 y5 y7 y8 y13 y28 y30 y31 y32 y33 y39 y40 y41 y42 y43 y51 y54 y74 z0 => rfl
              refine R_nil (tr _ _ _ _ _ _ _ _ _ _ _ _ _ _ _ _ _ _ _ _ _ _) ?_; clear tr
              refine then_n ?_
              refine at_seq rfl ?_
              refine cdd (fun h7 => ?_) (fun h7 => ?_)
              · try simp only [decide_eq_true_eq, decide_eq_false_iff_not, Bool.not_eq_true', Bool.not_eq_false', beq_iff_eq, beq_eq_false_iff_ne, ne_eq] at h7
                refine at_skip rfl ?_
                refine then_n ?_
                refine at_seq rfl ?_
                refine at_block rfl ?_
                refine at_seq rfl ?_
                refine rg rfl ?_
                refine Rq ?_
                refine Rq ?_
                refine Rq ?_
                have tr : ∀ y0 y1 y2 y3 y5 y7 y8 y13 y28 y30 y31 y32 y33 y39 y40 y41 y42 y43 y51 y54 y74 z0 z1 z2 : AV, trim [(7, z2), (45, z1), (44, z0), (0, y0), (1, y1), (2, y2), (3, y3), (5, y5), (7, y7), (8, y8), (13, y13), (28, y28), (30, y30), (31, y31), (32, y32), (33, y33), (39, y39), (40, y40), (41, y41), (42, y42), (43, y43), (51, y51), (54, y54), (74, y74)] [(0, y0), (1, y1), (2, y2), (3, y3), (5, y5), (7, y7), (8, y8), (13, y13), (28, y28), (30, y30), (31, y31), (32, y32), (33, y33), (39, y39), (40, y40), (41, y41), (42, y42), (43, y43), (51, y51), (54, y54), (74, y74)] = [(0, y0), (1, y1), (2, y2), (3, y3), (5, y5), (7, z2), (8, y8), (13, y13), (28, y28), (30, y30), (31, y31), (32, y32), (33, y33), (39, y39), (40, y40), (41, y41), (42, y42), (43, y43), (51, y51), (54, y54), (74, y74)] := fun y0 y1 y2 y3 y5 y7 y8 y13 y28 y30 y31 y32 y33 y39 y40 y41 y42 y43 y51 y54 y74 z0 z1 z2 => rfl
                refine R_nil (tr _ _ _ _ _ _ _ _ _ _ _ _ _ _ _ _ _ _ _ _ _ _ _ _) ?_; clear tr
                refine then_n ?_
                refine at_seq rfl ?_
                refine rg rfl ?_
                refine Rq ?_
                refine Rq ?_
                refine Rq ?_
                refine Rp_split (fun h8 => ?_) (fun h8 => ?_)
                · try simp only [decide_eq_true_eq, decide_eq_false_iff_not, Bool.not_eq_true', Bool.not_eq_false', beq_iff_eq, beq_eq_false_iff_ne, ne_eq] at h8
                  refine Rn ?_
                  refine Rn ?_
                  refine Rq ?_
                  have tr : ∀ y0 y1 y2 y3 y5 y7 y8 y13 y28 y30 y31 y32 y33 y39 y40 y41 y42 y43 y51 y54 y74 z0 z1 z2 z3 z4 z5 : AV, trim [(51, z5), (50, z4), (49, z3), (48, z2), (47, z1), (46, z0), (0, y0), (1, y1), (2, y2), (3, y3), (5, y5), (7, y7), (8, y8), (13, y13), (28, y28), (30, y30), (31, y31), (32, y32), (33, y33), (39, y39), (40, y40), (41, y41), (42, y42), (43, y43), (51, y51), (54, y54), (74, y74)] [(0, y0), (1, y1), (2, y2), (3, y3), (5, y5), (7, y7), (8, y8), (13, y13), (28, y28), (30, y30), (31, y31), (32, y32), (33, y33), (39, y39), (40, y40), (41, y41), (42, y42), (43, y43), (51, y51), (54, y54), (74, y74)] = [(0, y0), (1, y1), (2, y2), (3, y3), (5, y5), (7, y7), (8, y8), (13, y13), (28, y28), (30, y30), (31, y31), (32, y32), (33, y33), (39, y39), (40, y40), (41, y41), (42, y42), (43, y43), (51, z5), (54, y54), (74, y74)] := fun y0 y1 y2 y3 y5 y7 y8 y13 y28 y30 y31 y32 y33 y39 y40 y41 y42 y43 y51 y54 y74 z0 z1 z2 z3 z4 z5 => rfl
                  refine R_nil (tr _ _ _ _ _ _ _ _ _ _ _ _ _ _ _ _ _ _ _ _ _ _ _ _ _ _ _) ?_; clear tr
                  refine then_n ?_
                  refine cdt ?_
                  refine at_seq rfl ?_
                  refine rg rfl ?_
                  refine Rq ?_
                  have tr : ∀ y0 y1 y2 y3 y5 y7 y8 y13 y28 y30 y31 y32 y33 y39 y40 y41 y42 y43 y51 y54 y74 z0 : AV, trim [(2, z0), (0, y0), (1, y1), (2, y2), (3, y3), (5, y5), (7, y7), (8, y8), (13, y13), (28, y28), (30, y30), (31, y31), (32, y32), (33, y33), (39, y39), (40, y40), (41, y41), (42, y42), (43, y43), (51, y51), (54, y54), (74, y74)] [(0, y0), (1, y1), (2, y2), (3, y3), (5, y5), (7, y7), (8, y8), (13, y13), (28, y28), (30, y30), (31, y31), (32, y32), (33, y33), (39, y39), (40, y40), (41, y41), (42, y42), (43, y43), (51, y51), (54, y54), (74, y74)] = [(0, y0), (1, y1), (2, z0), (3, y3), (5, y5), (7, y7), (8, y8), (13, y13), (28, y28), (30, y30), (31, y31), (32, y32), (33, y33), (39, y39), (40, y40), (41, y41), (42, y42), (43, y43), (51, y51), (54, y54), (74, y74)] := fun y0 y1 y2 y3 y5 y7 y8 y13 y28 y30 y31 y32 y33 y39 y40 y41 y42 y43 y51 y54 y74 z0 => rfl
                  refine R_nil (tr _ _ _ _ _ _ _ _ _ _ _ _ _ _ _ _ _ _ _ _ _ _) ?_; clear tr
                  refine then_n ?_
                  refine at_ret rfl ?_
                  refine blk_r ?_
                  refine then_r ?_
                  refine then_r ?_
                  refine blk_r ?_
                  refine blk_r ?_
                  refine then_r ?_
                  refine then_r ?_
                  refine blk_r ?_
                  refine then_r ?_
                  refine fpure ?_
                  refine ⟨?_, rfl⟩
                  have he := rowE_bad (b := (gt rows 0).length) (l := gt rows u) (by omega) (j := w) (by omega) (by unfold okC; omega)
                  have hc : scanV (gt rows 0).length rows ≠ 0 ∧ scanV (gt rows 0).length rows = 2 := by rw [← hs, scan_bad (by omega) (by rw [he]; decide), he]; exact ⟨by decide, rfl⟩
                  rw [checkS, if_neg (by omega), if_neg (by omega), if_neg (by omega), if_pos hc.1, hc.2]
                · try simp only [decide_eq_true_eq, decide_eq_false_iff_not, Bool.not_eq_true', Bool.not_eq_false', beq_iff_eq, beq_eq_false_iff_ne, ne_eq] at h8
                  refine Ry ?_
                  refine Rq ?_
                  refine Ry ?_
                  refine Rq ?_
                  refine Rq ?_
                  have tr : ∀ y0 y1 y2 y3 y5 y7 y8 y13 y28 y30 y31 y32 y33 y39 y40 y41 y42 y43 y51 y54 y74 z0 z1 z2 z3 z4 z5 : AV, trim [(51, z5), (50, z4), (49, z3), (48, z2), (47, z1), (46, z0), (0, y0), (1, y1), (2, y2), (3, y3), (5, y5), (7, y7), (8, y8), (13, y13), (28, y28), (30, y30), (31, y31), (32, y32), (33, y33), (39, y39), (40, y40), (41, y41), (42, y42), (43, y43), (51, y51), (54, y54), (74, y74)] [(0, y0), (1, y1), (2, y2), (3, y3), (5, y5), (7, y7), (8, y8), (13, y13), (28, y28), (30, y30), (31, y31), (32, y32), (33, y33), (39, y39), (40, y40), (41, y41), (42, y42), (43, y43), (51, y51), (54, y54), (74, y74)] = [(0, y0), (1, y1), (2, y2), (3, y3), (5, y5), (7, y7), (8, y8), (13, y13), (28, y28), (30, y30), (31, y31), (32, y32), (33, y33), (39, y39), (40, y40), (41, y41), (42, y42), (43, y43), (51, z5), (54, y54), (74, y74)] := fun y0 y1 y2 y3 y5 y7 y8 y13 y28 y30 y31 y32 y33 y39 y40 y41 y42 y43 y51 y54 y74 z0 z1 z2 z3 z4 z5 => rfl
                  refine R_nil (tr _ _ _ _ _ _ _ _ _ _ _ _ _ _ _ _ _ _ _ _ _ _ _ _ _ _ _) ?_; clear tr
                  refine then_n ?_
                  refine cdd (fun h9 => ?_) (fun h9 => ?_)
                  · try simp only [decide_eq_true_eq, decide_eq_false_iff_not, Bool.not_eq_true', Bool.not_eq_false', beq_iff_eq, beq_eq_false_iff_ne, ne_eq] at h9
                    refine at_seq rfl ?_
                    refine rg rfl ?_
                    refine Rq ?_
                    have tr : ∀ y0 y1 y2 y3 y5 y7 y8 y13 y28 y30 y31 y32 y33 y39 y40 y41 y42 y43 y51 y54 y74 z0 : AV, trim [(2, z0), (0, y0), (1, y1), (2, y2), (3, y3), (5, y5), (7, y7), (8, y8), (13, y13), (28, y28), (30, y30), (31, y31), (32, y32), (33, y33), (39, y39), (40, y40), (41, y41), (42, y42), (43, y43), (51, y51), (54, y54), (74, y74)] [(0, y0), (1, y1), (2, y2), (3, y3), (5, y5), (7, y7), (8, y8), (13, y13), (28, y28), (30, y30), (31, y31), (32, y32), (33, y33), (39, y39), (40, y40), (41, y41), (42, y42), (43, y43), (51, y51), (54, y54), (74, y74)] = [(0, y0), (1, y1), (2, z0), (3, y3), (5, y5), (7, y7), (8, y8), (13, y13), (28, y28), (30, y30), (31, y31), (32, y32), (33, y33), (39, y39), (40, y40), (41, y41), (42, y42), (43, y43), (51, y51), (54, y54), (74, y74)] := fun y0 y1 y2 y3 y5 y7 y8 y13 y28 y30 y31 y32 y33 y39 y40 y41 y42 y43 y51 y54 y74 z0 => rfl
                    refine R_nil (tr _ _ _ _ _ _ _ _ _ _ _ _ _ _ _ _ _ _ _ _ _ _) ?_; clear tr
                    refine then_n ?_
                    refine at_ret rfl ?_
                    refine blk_r ?_
                    refine then_r ?_
                    refine then_r ?_
                    refine blk_r ?_
                    refine blk_r ?_
                    refine then_r ?_
                    refine then_r ?_
                    refine blk_r ?_
                    refine then_r ?_
                    refine fpure ?_
                    refine ⟨?_, rfl⟩
                    have he := rowE_bad (b := (gt rows 0).length) (l := gt rows u) (by omega) (j := w) (by omega) (by unfold okC; omega)
                    have hc : scanV (gt rows 0).length rows ≠ 0 ∧ scanV (gt rows 0).length rows = 2 := by rw [← hs, scan_bad (by omega) (by rw [he]; decide), he]; exact ⟨by decide, rfl⟩
                    rw [checkS, if_neg (by omega), if_neg (by omega), if_neg (by omega), if_pos hc.1, hc.2]
                  · try simp only [decide_eq_true_eq, decide_eq_false_iff_not, Bool.not_eq_true', Bool.not_eq_false', beq_iff_eq, beq_eq_false_iff_ne, ne_eq] at h9
                    refine at_skip rfl ?_
                    refine blk_n ?_
                    refine then_n ?_
                    refine rg rfl ?_
                    refine Rq ?_
                    refine Rq ?_
                    have tr : ∀ y0 y1 y2 y3 y5 y7 y8 y13 y28 y30 y31 y32 y33 y39 y40 y41 y42 y43 y51 y54 y74 z0 z1 : AV, trim [(42, z1), (52, z0), (0, y0), (1, y1), (2, y2), (3, y3), (5, y5), (7, y7), (8, y8), (13, y13), (28, y28), (30, y30), (31, y31), (32, y32), (33, y33), (39, y39), (40, y40), (41, y41), (42, y42), (43, y43), (51, y51), (54, y54), (74, y74)] [(0, y0), (1, y1), (2, y2), (3, y3), (5, y5), (7, y7), (8, y8), (13, y13), (28, y28), (30, y30), (31, y31), (32, y32), (33, y33), (39, y39), (40, y40), (41, y41), (42, y42), (43, y43), (51, y51), (54, y54), (74, y74)] = [(0, y0), (1, y1), (2, y2), (3, y3), (5, y5), (7, y7), (8, y8), (13, y13), (28, y28), (30, y30), (31, y31), (32, y32), (33, y33), (39, y39), (40, y40), (41, y41), (42, z1), (43, y43), (51, y51), (54, y54), (74, y74)] := fun y0 y1 y2 y3 y5 y7 y8 y13 y28 y30 y31 y32 y33 y39 y40 y41 y42 y43 y51 y54 y74 z0 z1 => rfl
                    refine R_nil (tr _ _ _ _ _ _ _ _ _ _ _ _ _ _ _ _ _ _ _ _ _ _ _) ?_; clear tr
                    refine then_n ?_
                    exact ⟨_, _, ⟨w + 1, _, _, _, _, rfl, rfl, rfl, by omega, by exact all_step hw2 (by unfold okC; omega)⟩, by rfl, by omega⟩
              · try simp only [decide_eq_true_eq, decide_eq_false_iff_not, Bool.not_eq_true', Bool.not_eq_false', beq_iff_eq, beq_eq_false_iff_ne, ne_eq] at h7
                refine at_exit rfl ?_
                refine then_x ?_
                refine then_x ?_
                refine blk_x ?_
                refine blk_n ?_
                refine then_n ?_
                refine rg rfl ?_
                refine Rq ?_
                refine Rq ?_
                have tr : ∀ y0 y1 y2 y3 y5 y7 y8 y13 y28 y30 y31 y32 y33 y39 y40 y41 y42 y43 y51 y54 y74 z0 z1 : AV, trim [(32, z1), (53, z0), (0, y0), (1, y1), (2, y2), (3, y3), (5, y5), (7, y7), (8, y8), (13, y13), (28, y28), (30, y30), (31, y31), (32, y32), (33, y33), (39, y39), (40, y40), (41, y41), (42, y42), (43, y43), (51, y51), (54, y54), (74, y74)] [(0, y0), (1, y1), (2, y2), (3, y3), (5, y5), (7, y7), (8, y8), (13, y13), (28, y28), (30, y30), (31, y31), (32, y32), (33, y33), (39, y39), (40, y40), (41, y41), (42, y42), (43, y43), (51, y51), (54, y54), (74, y74)] = [(0, y0), (1, y1), (2, y2), (3, y3), (5, y5), (7, y7), (8, y8), (13, y13), (28, y28), (30, y30), (31, y31), (32, z1), (33, y33), (39, y39), (40, y40), (41, y41), (42, y42), (43, y43), (51, y51), (54, y54), (74, y74)] := fun y0 y1 y2 y3 y5 y7 y8 y13 y28 y30 y31 y32 y33 y39 y40 y41 y42 y43 y51 y54 y74 z0 z1 => rfl
                refine R_nil (tr _ _ _ _ _ _ _ _ _ _ _ _ _ _ _ _ _ _ _ _ _ _ _) ?_; clear tr
                refine then_n ?_
                exact ⟨_, _, ⟨u + 1, _, _, _, _, _, _, _, _, _, _, rfl, rfl, rfl, by omega, by rw [scan_on (by omega) (rowE_ok (by omega) fun j hj => hw2 j (by omega))]; exact hs⟩, by rfl, by omega⟩
          · try simp only [decide_eq_true_eq, decide_eq_false_iff_not, Bool.not_eq_true', Bool.not_eq_false', beq_iff_eq, beq_eq_false_iff_ne, ne_eq] at h5
            refine at_exit rfl ?_
            refine then_x ?_
            refine then_x ?_
            refine blk_x ?_
            refine then_n ?_
            refine at_seq rfl ?_
            refine at_block rfl ?_
            refine at_seq rfl ?_
            refine rg rfl ?_
            have h0 : scanV (gt rows 0).length rows = 0 := by rw [← hs, List.drop_eq_nil_of_le (by omega)]; rfl
            refine Rq ?_
            refine Rq ?_
            refine Rq ?_
            refine Rq ?_
            refine Rp_split (fun h10 => ?_) (fun h10 => ?_)
            · try simp only [decide_eq_true_eq, decide_eq_false_iff_not, Bool.not_eq_true', Bool.not_eq_false', beq_iff_eq, beq_eq_false_iff_ne, ne_eq] at h10
              refine Rn ?_
              refine Rn ?_
              refine Rn ?_
              refine Rq ?_
              refine Rq ?_
              refine Rn ?_
              refine Rn ?_
              refine Rn ?_
              refine Rq ?_
              refine Rq ?_
              refine Rn ?_
              refine Rn ?_
              refine Rn ?_
              refine Rn ?_
              refine Rq ?_
              refine Rq ?_
              have tr : ∀ y0 y1 y2 y3 y5 y7 y8 y13 y28 y30 y31 y32 y33 y39 y40 y41 y42 y43 y51 y54 y74 z0 z1 z2 z3 z4 z5 z6 z7 z8 z9 z10 z11 z12 z13 z14 z15 z16 z17 z18 z19 : AV, trim [(54, z19), (73, z18), (72, z17), (71, z16), (70, z15), (69, z14), (68, z13), (67, z12), (66, z11), (65, z10), (64, z9), (63, z8), (62, z7), (61, z6), (60, z5), (59, z4), (58, z3), (57, z2), (56, z1), (55, z0), (0, y0), (1, y1), (2, y2), (3, y3), (5, y5), (7, y7), (8, y8), (13, y13), (28, y28), (30, y30), (31, y31), (32, y32), (33, y33), (39, y39), (40, y40), (41, y41), (42, y42), (43, y43), (51, y51), (54, y54), (74, y74)] [(0, y0), (1, y1), (2, y2), (3, y3), (5, y5), (7, y7), (8, y8), (13, y13), (28, y28), (30, y30), (31, y31), (32, y32), (33, y33), (39, y39), (40, y40), (41, y41), (42, y42), (43, y43), (51, y51), (54, y54), (74, y74)] = [(0, y0), (1, y1), (2, y2), (3, y3), (5, y5), (7, y7), (8, y8), (13, y13), (28, y28), (30, y30), (31, y31), (32, y32), (33, y33), (39, y39), (40, y40), (41, y41), (42, y42), (43, y43), (51, y51), (54, z19), (74, y74)] := fun y0 y1 y2 y3 y5 y7 y8 y13 y28 y30 y31 y32 y33 y39 y40 y41 y42 y43 y51 y54 y74 z0 z1 z2 z3 z4 z5 z6 z7 z8 z9 z10 z11 z12 z13 z14 z15 z16 z17 z18 z19 => rfl
              refine R_nil (tr _ _ _ _ _ _ _ _ _ _ _ _ _ _ _ _ _ _ _ _ _ _ _ _ _ _ _ _ _ _ _ _ _ _ _ _ _ _ _ _ _) ?_; clear tr
              refine then_n ?_
              refine cdt ?_
              refine at_seq rfl ?_
              refine rg rfl ?_
              refine Rq ?_
              have tr : ∀ y0 y1 y2 y3 y5 y7 y8 y13 y28 y30 y31 y32 y33 y39 y40 y41 y42 y43 y51 y54 y74 z0 : AV, trim [(2, z0), (0, y0), (1, y1), (2, y2), (3, y3), (5, y5), (7, y7), (8, y8), (13, y13), (28, y28), (30, y30), (31, y31), (32, y32), (33, y33), (39, y39), (40, y40), (41, y41), (42, y42), (43, y43), (51, y51), (54, y54), (74, y74)] [(0, y0), (1, y1), (2, y2), (3, y3), (5, y5), (7, y7), (8, y8), (13, y13), (28, y28), (30, y30), (31, y31), (32, y32), (33, y33), (39, y39), (40, y40), (41, y41), (42, y42), (43, y43), (51, y51), (54, y54), (74, y74)] = [(0, y0), (1, y1), (2, z0), (3, y3), (5, y5), (7, y7), (8, y8), (13, y13), (28, y28), (30, y30), (31, y31), (32, y32), (33, y33), (39, y39), (40, y40), (41, y41), (42, y42), (43, y43), (51, y51), (54, y54), (74, y74)] := fun y0 y1 y2 y3 y5 y7 y8 y13 y28 y30 y31 y32 y33 y39 y40 y41 y42 y43 y51 y54 y74 z0 => rfl
              refine R_nil (tr _ _ _ _ _ _ _ _ _ _ _ _ _ _ _ _ _ _ _ _ _ _) ?_; clear tr
              refine then_n ?_
              refine at_ret rfl ?_
              refine blk_r ?_
              refine then_r ?_
              refine fpure ?_
              refine ⟨?_, rfl⟩
              rw [checkS, if_neg (by omega), if_neg (by omega), if_neg (by omega), if_neg (fun hh => hh h0), if_pos (by unfold paramBad; omega)]
            · try simp only [decide_eq_true_eq, decide_eq_false_iff_not, Bool.not_eq_true', Bool.not_eq_false', beq_iff_eq, beq_eq_false_iff_ne, ne_eq] at h10
              refine Ry ?_
              refine Rq ?_
              refine Ry ?_
              refine Rq ?_
              refine Ry ?_
              refine Rq ?_
              refine Rq ?_
              refine Rq ?_
              refine Rp_split (fun h11 => ?_) (fun h11 => ?_)
              · try simp only [decide_eq_true_eq, decide_eq_false_iff_not, Bool.not_eq_true', Bool.not_eq_false', beq_iff_eq, beq_eq_false_iff_ne, ne_eq] at h11
                refine Rn ?_
                refine Rn ?_
                refine Rn ?_
                refine Rq ?_
                refine Rq ?_
                refine Rn ?_
                refine Rn ?_
                refine Rn ?_
                refine Rn ?_
                refine Rq ?_
                refine Rq ?_
                have tr : ∀ y0 y1 y2 y3 y5 y7 y8 y13 y28 y30 y31 y32 y33 y39 y40 y41 y42 y43 y51 y54 y74 z0 z1 z2 z3 z4 z5 z6 z7 z8 z9 z10 z11 z12 z13 z14 z15 z16 z17 z18 z19 : AV, trim [(54, z19), (73, z18), (72, z17), (71, z16), (70, z15), (69, z14), (68, z13), (67, z12), (66, z11), (65, z10), (64, z9), (63, z8), (62, z7), (61, z6), (60, z5), (59, z4), (58, z3), (57, z2), (56, z1), (55, z0), (0, y0), (1, y1), (2, y2), (3, y3), (5, y5), (7, y7), (8, y8), (13, y13), (28, y28), (30, y30), (31, y31), (32, y32), (33, y33), (39, y39), (40, y40), (41, y41), (42, y42), (43, y43), (51, y51), (54, y54), (74, y74)] [(0, y0), (1, y1), (2, y2), (3, y3), (5, y5), (7, y7), (8, y8), (13, y13), (28, y28), (30, y30), (31, y31), (32, y32), (33, y33), (39, y39), (40, y40), (41, y41), (42, y42), (43, y43), (51, y51), (54, y54), (74, y74)] = [(0, y0), (1, y1), (2, y2), (3, y3), (5, y5), (7, y7), (8, y8), (13, y13), (28, y28), (30, y30), (31, y31), (32, y32), (33, y33), (39, y39), (40, y40), (41, y41), (42, y42), (43, y43), (51, y51), (54, z19), (74, y74)] := fun y0 y1 y2 y3 y5 y7 y8 y13 y28 y30 y31 y32 y33 y39 y40 y41 y42 y43 y51 y54 y74 z0 z1 z2 z3 z4 z5 z6 z7 z8 z9 z10 z11 z12 z13 z14 z15 z16 z17 z18 z19 => rfl
                refine R_nil (tr _ _ _ _ _ _ _ _ _ _ _ _ _ _ _ _ _ _ _ _ _ _ _ _ _ _ _ _ _ _ _ _ _ _ _ _ _ _ _ _ _) ?_; clear tr
                refine then_n ?_
                refine cdt ?_
                refine at_seq rfl ?_
                refine rg rfl ?_
                refine Rq ?_
                have tr : ∀ y0 y1 y2 y3 y5 y7 y8 y13 y28 y30 y31 y32 y33 y39 y40 y41 y42 y43 y51 y54 y74 z0 : AV, trim [(2, z0), (0, y0), (1, y1), (2, y2), (3, y3), (5, y5), (7, y7), (8, y8), (13, y13), (28, y28), (30, y30), (31, y31), (32, y32), (33, y33), (39, y39), (40, y40), (41, y41), (42, y42), (43, y43), (51, y51), (54, y54), (74, y74)] [(0, y0), (1, y1), (2, y2), (3, y3), (5, y5), (7, y7), (8, y8), (13, y13), (28, y28), (30, y30), (31, y31), (32, y32), (33, y33), (39, y39), (40, y40), (41, y41), (42, y42), (43, y43), (51, y51), (54, y54), (74, y74)] = [(0, y0), (1, y1), (2, z0), (3, y3), (5, y5), (7, y7), (8, y8), (13, y13), (28, y28), (30, y30), (31, y31), (32, y32), (33, y33), (39, y39), (40, y40), (41, y41), (42, y42), (43, y43), (51, y51), (54, y54), (74, y74)] := fun y0 y1 y2 y3 y5 y7 y8 y13 y28 y30 y31 y32 y33 y39 y40 y41 y42 y43 y51 y54 y74 z0 => rfl
                refine R_nil (tr _ _ _ _ _ _ _ _ _ _ _ _ _ _ _ _ _ _ _ _ _ _) ?_; clear tr
                refine then_n ?_
                refine at_ret rfl ?_
                refine blk_r ?_
                refine then_r ?_
                refine fpure ?_
                refine ⟨?_, rfl⟩
                rw [checkS, if_neg (by omega), if_neg (by omega), if_neg (by omega), if_neg (fun hh => hh h0), if_pos (by unfold paramBad; omega)]
              · try simp only [decide_eq_true_eq, decide_eq_false_iff_not, Bool.not_eq_true', Bool.not_eq_false', beq_iff_eq, beq_eq_false_iff_ne, ne_eq] at h11
                refine Ry ?_
                refine Rq ?_
                refine Ry ?_
                refine Rq ?_
                refine Ry ?_
                refine Rq ?_
                refine Rq ?_
                refine Rq ?_
                refine Rp_split (fun h12 => ?_) (fun h12 => ?_)
                · try simp only [decide_eq_true_eq, decide_eq_false_iff_not, Bool.not_eq_true', Bool.not_eq_false', beq_iff_eq, beq_eq_false_iff_ne, ne_eq] at h12
                  refine Rn ?_
                  refine Rn ?_
                  refine Rn ?_
                  refine Rn ?_
                  refine Rq ?_
                  refine Rq ?_
                  have tr : ∀ y0 y1 y2 y3 y5 y7 y8 y13 y28 y30 y31 y32 y33 y39 y40 y41 y42 y43 y51 y54 y74 z0 z1 z2 z3 z4 z5 z6 z7 z8 z9 z10 z11 z12 z13 z14 z15 z16 z17 z18 z19 : AV, trim [(54, z19), (73, z18), (72, z17), (71, z16), (70, z15), (69, z14), (68, z13), (67, z12), (66, z11), (65, z10), (64, z9), (63, z8), (62, z7), (61, z6), (60, z5), (59, z4), (58, z3), (57, z2), (56, z1), (55, z0), (0, y0), (1, y1), (2, y2), (3, y3), (5, y5), (7, y7), (8, y8), (13, y13), (28, y28), (30, y30), (31, y31), (32, y32), (33, y33), (39, y39), (40, y40), (41, y41), (42, y42), (43, y43), (51, y51), (54, y54), (74, y74)] [(0, y0), (1, y1), (2, y2), (3, y3), (5, y5), (7, y7), (8, y8), (13, y13), (28, y28), (30, y30), (31, y31), (32, y32), (33, y33), (39, y39), (40, y40), (41, y41), (42, y42), (43, y43), (51, y51), (54, y54), (74, y74)] = [(0, y0), (1, y1), (2, y2), (3, y3), (5, y5), (7, y7), (8, y8), (13, y13), (28, y28), (30, y30), (31, y31), (32, y32), (33, y33), (39, y39), (40, y40), (41, y41), (42, y42), (43, y43), (51, y51), (54, z19), (74, y74)] := fun y0 y1 y2 y3 y5 y7 y8 y13 y28 y30 y31 y32 y33 y39 y40 y41 y42 y43 y51 y54 y74 z0 z1 z2 z3 z4 z5 z6 z7 z8 z9 z10 z11 z12 z13 z14 z15 z16 z17 z18 z19 => rfl
                  refine R_nil (tr _ _ _ _ _ _ _ _ _ _ _ _ _ _ _ _ _ _ _ _ _ _ _ _ _ _ _ _ _ _ _ _ _ _ _ _ _ _ _ _ _) ?_; clear tr
                  refine then_n ?_
                  refine cdt ?_
                  refine at_seq rfl ?_
                  refine rg rfl ?_
                  refine Rq ?_
                  have tr : ∀ y0 y1 y2 y3 y5 y7 y8 y13 y28 y30 y31 y32 y33 y39 y40 y41 y42 y43 y51 y54 y74 z0 : AV, trim [(2, z0), (0, y0), (1, y1), (2, y2), (3, y3), (5, y5), (7, y7), (8, y8), (13, y13), (28, y28), (30, y30), (31, y31), (32, y32), (33, y33), (39, y39), (40, y40), (41, y41), (42, y42), (43, y43), (51, y51), (54, y54), (74, y74)] [(0, y0), (1, y1), (2, y2), (3, y3), (5, y5), (7, y7), (8, y8), (13, y13), (28, y28), (30, y30), (31, y31), (32, y32), (33, y33), (39, y39), (40, y40), (41, y41), (42, y42), (43, y43), (51, y51), (54, y54), (74, y74)] = [(0, y0), (1, y1), (2, z0), (3, y3), (5, y5), (7, y7), (8, y8), (13, y13), (28, y28), (30, y30), (31, y31), (32, y32), (33, y33), (39, y39), (40, y40), (41, y41), (42, y42), (43, y43), (51, y51), (54, y54), (74, y74)] := fun y0 y1 y2 y3 y5 y7 y8 y13 y28 y30 y31 y32 y33 y39 y40 y41 y42 y43 y51 y54 y74 z0 => rfl
                  refine R_nil (tr _ _ _ _ _ _ _ _ _ _ _ _ _ _ _ _ _ _ _ _ _ _) ?_; clear tr
                  refine then_n ?_
                  refine at_ret rfl ?_
                  refine blk_r ?_
                  refine then_r ?_
                  refine fpure ?_
                  refine ⟨?_, rfl⟩
                  rw [checkS, if_neg (by omega), if_neg (by omega), if_neg (by omega), if_neg (fun hh => hh h0), if_pos (by unfold paramBad; omega)]
                · try simp only [decide_eq_true_eq, decide_eq_false_iff_not, Bool.not_eq_true', Bool.not_eq_false', beq_iff_eq, beq_eq_false_iff_ne, ne_eq] at h12
                  refine Ry ?_
                  refine Rq ?_
                  refine Ry ?_
                  refine Rq ?_
                  refine Ry ?_
                  refine Rq ?_
                  refine Ry ?_
                  refine Rq ?_
                  refine Rq ?_
                  refine Rq ?_
                  have tr : ∀ y0 y1 y2 y3 y5 y7 y8 y13 y28 y30 y31 y32 y33 y39 y40 y41 y42 y43 y51 y54 y74 z0 z1 z2 z3 z4 z5 z6 z7 z8 z9 z10 z11 z12 z13 z14 z15 z16 z17 z18 z19 : AV, trim [(54, z19), (73, z18), (72, z17), (71, z16), (70, z15), (69, z14), (68, z13), (67, z12), (66, z11), (65, z10), (64, z9), (63, z8), (62, z7), (61, z6), (60, z5), (59, z4), (58, z3), (57, z2), (56, z1), (55, z0), (0, y0), (1, y1), (2, y2), (3, y3), (5, y5), (7, y7), (8, y8), (13, y13), (28, y28), (30, y30), (31, y31), (32, y32), (33, y33), (39, y39), (40, y40), (41, y41), (42, y42), (43, y43), (51, y51), (54, y54), (74, y74)] [(0, y0), (1, y1), (2, y2), (3, y3), (5, y5), (7, y7), (8, y8), (13, y13), (28, y28), (30, y30), (31, y31), (32, y32), (33, y33), (39, y39), (40, y40), (41, y41), (42, y42), (43, y43), (51, y51), (54, y54), (74, y74)] = [(0, y0), (1, y1), (2, y2), (3, y3), (5, y5), (7, y7), (8, y8), (13, y13), (28, y28), (30, y30), (31, y31), (32, y32), (33, y33), (39, y39), (40, y40), (41, y41), (42, y42), (43, y43), (51, y51), (54, z19), (74, y74)] := fun y0 y1 y2 y3 y5 y7 y8 y13 y28 y30 y31 y32 y33 y39 y40 y41 y42 y43 y51 y54 y74 z0 z1 z2 z3 z4 z5 z6 z7 z8 z9 z10 z11 z12 z13 z14 z15 z16 z17 z18 z19 => rfl
                  refine R_nil (tr _ _ _ _ _ _ _ _ _ _ _ _ _ _ _ _ _ _ _ _ _ _ _ _ _ _ _ _ _ _ _ _ _ _ _ _ _ _ _ _ _) ?_; clear tr
                  refine then_n ?_
                  refine cdd (fun h13 => ?_) (fun h13 => ?_)
                  · try simp only [decide_eq_true_eq, decide_eq_false_iff_not, Bool.not_eq_true', Bool.not_eq_false', beq_iff_eq, beq_eq_false_iff_ne, ne_eq] at h13
                    refine at_seq rfl ?_
                    refine rg rfl ?_
                    refine Rq ?_
                    have tr : ∀ y0 y1 y2 y3 y5 y7 y8 y13 y28 y30 y31 y32 y33 y39 y40 y41 y42 y43 y51 y54 y74 z0 : AV, trim [(2, z0), (0, y0), (1, y1), (2, y2), (3, y3), (5, y5), (7, y7), (8, y8), (13, y13), (28, y28), (30, y30), (31, y31), (32, y32), (33, y33), (39, y39), (40, y40), (41, y41), (42, y42), (43, y43), (51, y51), (54, y54), (74, y74)] [(0, y0), (1, y1), (2, y2), (3, y3), (5, y5), (7, y7), (8, y8), (13, y13), (28, y28), (30, y30), (31, y31), (32, y32), (33, y33), (39, y39), (40, y40), (41, y41), (42, y42), (43, y43), (51, y51), (54, y54), (74, y74)] = [(0, y0), (1, y1), (2, z0), (3, y3), (5, y5), (7, y7), (8, y8), (13, y13), (28, y28), (30, y30), (31, y31), (32, y32), (33, y33), (39, y39), (40, y40), (41, y41), (42, y42), (43, y43), (51, y51), (54, y54), (74, y74)] := fun y0 y1 y2 y3 y5 y7 y8 y13 y28 y30 y31 y32 y33 y39 y40 y41 y42 y43 y51 y54 y74 z0 => rfl
                    refine R_nil (tr _ _ _ _ _ _ _ _ _ _ _ _ _ _ _ _ _ _ _ _ _ _) ?_; clear tr
                    refine then_n ?_
                    refine at_ret rfl ?_
                    refine blk_r ?_
                    refine then_r ?_
                    refine fpure ?_
                    refine ⟨?_, rfl⟩
                    rw [checkS, if_neg (by omega), if_neg (by omega), if_neg (by omega), if_neg (fun hh => hh h0), if_pos (by unfold paramBad; omega)]
                  · try simp only [decide_eq_true_eq, decide_eq_false_iff_not, Bool.not_eq_true', Bool.not_eq_false', beq_iff_eq, beq_eq_false_iff_ne, ne_eq] at h13
                    refine at_seq rfl ?_
                    refine rg rfl ?_
                    refine Rq ?_
                    refine Rq ?_
                    refine Rq ?_
                    refine Rcall ?_
                    refine ACall_eq (states_ok _ _ q (gt rows 0).length (by omega) (by omega) (by omega) (by omega)) ?_
                    refine Rq ?_
                    refine Rq ?_
                    have tr : ∀ y0 y1 y2 y3 y5 y7 y8 y13 y28 y30 y31 y32 y33 y39 y40 y41 y42 y43 y51 y54 y74 z0 z1 z2 z3 z4 z5 : AV, trim [(74, z5), (79, z4), (78, z3), (77, z2), (76, z1), (75, z0), (0, y0), (1, y1), (2, y2), (3, y3), (5, y5), (7, y7), (8, y8), (13, y13), (28, y28), (30, y30), (31, y31), (32, y32), (33, y33), (39, y39), (40, y40), (41, y41), (42, y42), (43, y43), (51, y51), (54, y54), (74, y74)] [(0, y0), (1, y1), (2, y2), (3, y3), (5, y5), (7, y7), (8, y8), (13, y13), (28, y28), (30, y30), (31, y31), (32, y32), (33, y33), (39, y39), (40, y40), (41, y41), (42, y42), (43, y43), (51, y51), (54, y54), (74, y74)] = [(0, y0), (1, y1), (2, y2), (3, y3), (5, y5), (7, y7), (8, y8), (13, y13), (28, y28), (30, y30), (31, y31), (32, y32), (33, y33), (39, y39), (40, y40), (41, y41), (42, y42), (43, y43), (51, y51), (54, y54), (74, z5)] := fun y0 y1 y2 y3 y5 y7 y8 y13 y28 y30 y31 y32 y33 y39 y40 y41 y42 y43 y51 y54 y74 z0 z1 z2 z3 z4 z5 => rfl
                    refine R_nil (tr _ _ _ _ _ _ _ _ _ _ _ _ _ _ _ _ _ _ _ _ _ _ _ _ _ _ _) ?_; clear tr
                    refine then_n ?_
                    refine cdd (fun h14 => ?_) (fun h14 => ?_)
                    · try simp only [decide_eq_true_eq, decide_eq_false_iff_not, Bool.not_eq_true', Bool.not_eq_false', beq_iff_eq, beq_eq_false_iff_ne, ne_eq] at h14
                      refine at_seq rfl ?_
                      refine rg rfl ?_
                      refine Rq ?_
                      have tr : ∀ y0 y1 y2 y3 y5 y7 y8 y13 y28 y30 y31 y32 y33 y39 y40 y41 y42 y43 y51 y54 y74 z0 : AV, trim [(2, z0), (0, y0), (1, y1), (2, y2), (3, y3), (5, y5), (7, y7), (8, y8), (13, y13), (28, y28), (30, y30), (31, y31), (32, y32), (33, y33), (39, y39), (40, y40), (41, y41), (42, y42), (43, y43), (51, y51), (54, y54), (74, y74)] [(0, y0), (1, y1), (2, y2), (3, y3), (5, y5), (7, y7), (8, y8), (13, y13), (28, y28), (30, y30), (31, y31), (32, y32), (33, y33), (39, y39), (40, y40), (41, y41), (42, y42), (43, y43), (51, y51), (54, y54), (74, y74)] = [(0, y0), (1, y1), (2, z0), (3, y3), (5, y5), (7, y7), (8, y8), (13, y13), (28, y28), (30, y30), (31, y31), (32, y32), (33, y33), (39, y39), (40, y40), (41, y41), (42, y42), (43, y43), (51, y51), (54, y54), (74, y74)] := fun y0 y1 y2 y3 y5 y7 y8 y13 y28 y30 y31 y32 y33 y39 y40 y41 y42 y43 y51 y54 y74 z0 => rfl
                      refine R_nil (tr _ _ _ _ _ _ _ _ _ _ _ _ _ _ _ _ _ _ _ _ _ _) ?_; clear tr
                      refine then_n ?_
                      refine at_ret rfl ?_
                      refine blk_r ?_
                      refine then_r ?_
                      refine fpure ?_
                      refine ⟨?_, rfl⟩
                      rw [checkS, if_neg (by omega), if_neg (by omega), if_neg (by omega), if_neg (fun hh => hh h0), if_neg (by unfold paramBad; omega), if_pos (by assumption)]
                    · try simp only [decide_eq_true_eq, decide_eq_false_iff_not, Bool.not_eq_true', Bool.not_eq_false', beq_iff_eq, beq_eq_false_iff_ne, ne_eq] at h14
                      refine at_skip rfl ?_
                      refine blk_n ?_
                      refine then_n ?_
                      refine at_seq rfl ?_
                      refine rg rfl ?_
                      refine Rq ?_
                      have tr : ∀ y0 y1 y2 y3 y5 y7 y8 y13 y28 y30 y31 y32 y33 y39 y40 y41 y42 y43 y51 y54 y74 z0 : AV, trim [(2, z0), (0, y0), (1, y1), (2, y2), (3, y3), (5, y5), (7, y7), (8, y8), (13, y13), (28, y28), (30, y30), (31, y31), (32, y32), (33, y33), (39, y39), (40, y40), (41, y41), (42, y42), (43, y43), (51, y51), (54, y54), (74, y74)] [(0, y0), (1, y1), (2, y2), (3, y3), (5, y5), (7, y7), (8, y8), (13, y13), (28, y28), (30, y30), (31, y31), (32, y32), (33, y33), (39, y39), (40, y40), (41, y41), (42, y42), (43, y43), (51, y51), (54, y54), (74, y74)] = [(0, y0), (1, y1), (2, z0), (3, y3), (5, y5), (7, y7), (8, y8), (13, y13), (28, y28), (30, y30), (31, y31), (32, y32), (33, y33), (39, y39), (40, y40), (41, y41), (42, y42), (43, y43), (51, y51), (54, y54), (74, y74)] := fun y0 y1 y2 y3 y5 y7 y8 y13 y28 y30 y31 y32 y33 y39 y40 y41 y42 y43 y51 y54 y74 z0 => rfl
                      refine R_nil (tr _ _ _ _ _ _ _ _ _ _ _ _ _ _ _ _ _ _ _ _ _ _) ?_; clear tr
                      refine then_n ?_
                      refine at_ret rfl ?_
                      refine fpure ?_
                      refine ⟨?_, rfl⟩
                      rw [checkS, if_neg (by omega), if_neg (by omega), if_neg (by omega), if_neg (fun hh => hh h0), if_neg (by unfold paramBad; omega), if_neg (by omega)]

theorem rcheck_ok (lim : Nat) (H : Heap) (rows : Tb) (q la : Int) :
    ACall sig lim 14 [.agg [rowsAV rows, AV.i q, AV.i la]] H fun r H' => r = AV.i (checkS rows q la) ∧ H' = H := by
  refine ACall_pure (fa := fa14) rfl rfl rfl rfl ?_
  have tr : ∀ a0 : AV, env0 fa14.keep [a0] = [(0, a0), (1, .any), (2, .any), (4, .any), (6, .any), (10, .any), (30, .any), (32, .any), (33, .any), (34, .any), (35, .any), (45, .any), (46, .any), (47, .any), (48, .any), (49, .any), (57, .any), (82, .any), (85, .any)] := fun a0 => rfl
  refine W_to (tr _) ?_; clear tr
  refine at_seq rfl ?_
  refine rg rfl ?_
  refine R_box rfl (by simp (disch := first | omega | (simp only [List.length_map, List.length_append, List.length_set, List.length_cons, List.length_nil, List.length_take, List.length_drop]; omega)) only [go_sem, ↓reduceIte, Nat.reduceEqDiff, reduceCtorEq]; rfl) rfl rfl ?_
  refine Rq ?_
  have tr : ∀ y0 y1 y2 y4 y6 y10 y30 y32 y33 y34 y35 y45 y46 y47 y48 y49 y57 y82 y85 z0 z1 : AV, trim [(2, z1), (1, z0), (0, y0), (1, y1), (2, y2), (4, y4), (6, y6), (10, y10), (30, y30), (32, y32), (33, y33), (34, y34), (35, y35), (45, y45), (46, y46), (47, y47), (48, y48), (49, y49), (57, y57), (82, y82), (85, y85)] [(0, y0), (1, y1), (2, y2), (4, y4), (6, y6), (10, y10), (30, y30), (32, y32), (33, y33), (34, y34), (35, y35), (45, y45), (46, y46), (47, y47), (48, y48), (49, y49), (57, y57), (82, y82), (85, y85)] = [(0, y0), (1, z0), (2, z1), (4, y4), (6, y6), (10, y10), (30, y30), (32, y32), (33, y33), (34, y34), (35, y35), (45, y45), (46, y46), (47, y47), (48, y48), (49, y49), (57, y57), (82, y82), (85, y85)] := fun y0 y1 y2 y4 y6 y10 y30 y32 y33 y34 y35 y45 y46 y47 y48 y49 y57 y82 y85 z0 z1 => rfl
  refine R_nil (tr _ _ _ _ _ _ _ _ _ _ _ _ _ _ _ _ _ _ _ _ _) ?_; clear tr
  refine then_n ?_
  refine at_seq rfl ?_
  refine at_seq rfl ?_
  refine rg rfl ?_
  refine Rq ?_
  refine Rq ?_
  refine Rq ?_
  refine Rq ?_
  have tr : ∀ y0 y1 y2 y4 y6 y10 y30 y32 y33 y34 y35 y45 y46 y47 y48 y49 y57 y82 y85 z0 z1 z2 z3 : AV, trim [(10, z3), (9, z2), (8, z1), (7, z0), (0, y0), (1, y1), (2, y2), (4, y4), (6, y6), (10, y10), (30, y30), (32, y32), (33, y33), (34, y34), (35, y35), (45, y45), (46, y46), (47, y47), (48, y48), (49, y49), (57, y57), (82, y82), (85, y85)] [(0, y0), (1, y1), (2, y2), (4, y4), (6, y6), (10, y10), (30, y30), (32, y32), (33, y33), (34, y34), (35, y35), (45, y45), (46, y46), (47, y47), (48, y48), (49, y49), (57, y57), (82, y82), (85, y85)] = [(0, y0), (1, y1), (2, y2), (4, y4), (6, y6), (10, z3), (30, y30), (32, y32), (33, y33), (34, y34), (35, y35), (45, y45), (46, y46), (47, y47), (48, y48), (49, y49), (57, y57), (82, y82), (85, y85)] := fun y0 y1 y2 y4 y6 y10 y30 y32 y33 y34 y35 y45 y46 y47 y48 y49 y57 y82 y85 z0 z1 z2 z3 => rfl
  refine R_nil (tr _ _ _ _ _ _ _ _ _ _ _ _ _ _ _ _ _ _ _ _ _ _ _) ?_; clear tr
  refine then_n ?_
  refine cdd (fun h1 => ?_) (fun h1 => ?_)
  · try simp only [decide_eq_true_eq, decide_eq_false_iff_not, Bool.not_eq_true', Bool.not_eq_false', beq_iff_eq, beq_eq_false_iff_ne, ne_eq] at h1
    refine at_seq rfl ?_
    refine rg rfl ?_
    refine Rq ?_
    have tr : ∀ y0 y1 y2 y4 y6 y10 y30 y32 y33 y34 y35 y45 y46 y47 y48 y49 y57 y82 y85 z0 : AV, trim [(2, z0), (0, y0), (1, y1), (2, y2), (4, y4), (6, y6), (10, y10), (30, y30), (32, y32), (33, y33), (34, y34), (35, y35), (45, y45), (46, y46), (47, y47), (48, y48), (49, y49), (57, y57), (82, y82), (85, y85)] [(0, y0), (1, y1), (2, y2), (4, y4), (6, y6), (10, y10), (30, y30), (32, y32), (33, y33), (34, y34), (35, y35), (45, y45), (46, y46), (47, y47), (48, y48), (49, y49), (57, y57), (82, y82), (85, y85)] = [(0, y0), (1, y1), (2, z0), (4, y4), (6, y6), (10, y10), (30, y30), (32, y32), (33, y33), (34, y34), (35, y35), (45, y45), (46, y46), (47, y47), (48, y48), (49, y49), (57, y57), (82, y82), (85, y85)] := fun y0 y1 y2 y4 y6 y10 y30 y32 y33 y34 y35 y45 y46 y47 y48 y49 y57 y82 y85 z0 => rfl
    refine R_nil (tr _ _ _ _ _ _ _ _ _ _ _ _ _ _ _ _ _ _ _ _) ?_; clear tr
    refine then_n ?_
    refine at_ret rfl ?_
    refine then_r ?_
    refine fpure ?_
    refine ⟨?_, rfl⟩
    rw [checkS, if_pos (by omega)]
  · try simp only [decide_eq_true_eq, decide_eq_false_iff_not, Bool.not_eq_true', Bool.not_eq_false', beq_iff_eq, beq_eq_false_iff_ne, ne_eq] at h1
    refine at_skip rfl ?_
    refine then_n ?_
    refine at_seq rfl ?_
    refine at_seq rfl ?_
    refine rg rfl ?_
    refine Rq ?_
    refine Rq ?_
    refine Rq ?_
    refine Rq ?_
    refine Rq ?_
    refine Rp_split (fun h2 => ?_) (fun h2 => ?_)
    · try simp only [decide_eq_true_eq, decide_eq_false_iff_not, Bool.not_eq_true', Bool.not_eq_false', beq_iff_eq, beq_eq_false_iff_ne, ne_eq] at h2
      refine Rn ?_
      refine Rn ?_
      refine Rn ?_
      refine Rn ?_
      refine Rn ?_
      refine Rn ?_
      refine Rq ?_
      refine Rq ?_
      refine Rn ?_
      refine Rn ?_
      refine Rn ?_
      refine Rn ?_
      refine Rn ?_
      refine Rn ?_
      refine Rq ?_
      have tr : ∀ y0 y1 y2 y4 y6 y10 y30 y32 y33 y34 y35 y45 y46 y47 y48 y49 y57 y82 y85 z0 z1 z2 z3 z4 z5 z6 z7 z8 z9 z10 z11 z12 z13 z14 z15 z16 z17 z18 z19 : AV, trim [(30, z19), (29, z18), (28, z17), (27, z16), (26, z15), (25, z14), (24, z13), (23, z12), (22, z11), (21, z10), (20, z9), (19, z8), (18, z7), (17, z6), (16, z5), (15, z4), (14, z3), (13, z2), (12, z1), (11, z0), (0, y0), (1, y1), (2, y2), (4, y4), (6, y6), (10, y10), (30, y30), (32, y32), (33, y33), (34, y34), (35, y35), (45, y45), (46, y46), (47, y47), (48, y48), (49, y49), (57, y57), (82, y82), (85, y85)] [(0, y0), (1, y1), (2, y2), (4, y4), (6, y6), (10, y10), (30, y30), (32, y32), (33, y33), (34, y34), (35, y35), (45, y45), (46, y46), (47, y47), (48, y48), (49, y49), (57, y57), (82, y82), (85, y85)] = [(0, y0), (1, y1), (2, y2), (4, y4), (6, y6), (10, y10), (30, z19), (32, y32), (33, y33), (34, y34), (35, y35), (45, y45), (46, y46), (47, y47), (48, y48), (49, y49), (57, y57), (82, y82), (85, y85)] := fun y0 y1 y2 y4 y6 y10 y30 y32 y33 y34 y35 y45 y46 y47 y48 y49 y57 y82 y85 z0 z1 z2 z3 z4 z5 z6 z7 z8 z9 z10 z11 z12 z13 z14 z15 z16 z17 z18 z19 => rfl
      refine R_nil (tr _ _ _ _ _ _ _ _ _ _ _ _ _ _ _ _ _ _ _ _ _ _ _ _ _ _ _ _ _ _ _ _ _ _ _ _ _ _ _) ?_; clear tr
      refine then_n ?_
      refine cdt ?_
      refine at_seq rfl ?_
      refine rg rfl ?_
      refine Rq ?_
      have tr : ∀ y0 y1 y2 y4 y6 y10 y30 y32 y33 y34 y35 y45 y46 y47 y48 y49 y57 y82 y85 z0 : AV, trim [(2, z0), (0, y0), (1, y1), (2, y2), (4, y4), (6, y6), (10, y10), (30, y30), (32, y32), (33, y33), (34, y34), (35, y35), (45, y45), (46, y46), (47, y47), (48, y48), (49, y49), (57, y57), (82, y82), (85, y85)] [(0, y0), (1, y1), (2, y2), (4, y4), (6, y6), (10, y10), (30, y30), (32, y32), (33, y33), (34, y34), (35, y35), (45, y45), (46, y46), (47, y47), (48, y48), (49, y49), (57, y57), (82, y82), (85, y85)] = [(0, y0), (1, y1), (2, z0), (4, y4), (6, y6), (10, y10), (30, y30), (32, y32), (33, y33), (34, y34), (35, y35), (45, y45), (46, y46), (47, y47), (48, y48), (49, y49), (57, y57), (82, y82), (85, y85)] := fun y0 y1 y2 y4 y6 y10 y30 y32 y33 y34 y35 y45 y46 y47 y48 y49 y57 y82 y85 z0 => rfl
      refine R_nil (tr _ _ _ _ _ _ _ _ _ _ _ _ _ _ _ _ _ _ _ _) ?_; clear tr
      refine then_n ?_
      refine at_ret rfl ?_
      refine then_r ?_
      refine fpure ?_
      refine ⟨?_, rfl⟩
      rw [checkS, if_neg (by omega), if_pos (by omega)]
    · try simp only [decide_eq_true_eq, decide_eq_false_iff_not, Bool.not_eq_true', Bool.not_eq_false', beq_iff_eq, beq_eq_false_iff_ne, ne_eq] at h2
      refine Ry ?_
      refine Rq ?_
      refine Ry ?_
      refine Rq ?_
      refine Ry ?_
      refine Rq ?_
      refine Ry ?_
      refine Rq ?_
      refine Ry ?_
      refine Rq ?_
      refine Ry ?_
      refine Rq ?_
      refine Rq ?_
      refine Rq ?_
      refine Rp_split (fun h3 => ?_) (fun h3 => ?_)
      · try simp only [decide_eq_true_eq, decide_eq_false_iff_not, Bool.not_eq_true', Bool.not_eq_false', beq_iff_eq, beq_eq_false_iff_ne, ne_eq] at h3
        refine Rn ?_
        refine Rn ?_
        refine Rn ?_
        refine Rn ?_
        refine Rn ?_
        refine Rn ?_
        refine Rq ?_
        have tr : ∀ y0 y1 y2 y4 y6 y10 y30 y32 y33 y34 y35 y45 y46 y47 y48 y49 y57 y82 y85 z0 z1 z2 z3 z4 z5 z6 z7 z8 z9 z10 z11 z12 z13 z14 z15 z16 z17 z18 z19 : AV, trim [(30, z19), (29, z18), (28, z17), (27, z16), (26, z15), (25, z14), (24, z13), (23, z12), (22, z11), (21, z10), (20, z9), (19, z8), (18, z7), (17, z6), (16, z5), (15, z4), (14, z3), (13, z2), (12, z1), (11, z0), (0, y0), (1, y1), (2, y2), (4, y4), (6, y6), (10, y10), (30, y30), (32, y32), (33, y33), (34, y34), (35, y35), (45, y45), (46, y46), (47, y47), (48, y48), (49, y49), (57, y57), (82, y82), (85, y85)] [(0, y0), (1, y1), (2, y2), (4, y4), (6, y6), (10, y10), (30, y30), (32, y32), (33, y33), (34, y34), (35, y35), (45, y45), (46, y46), (47, y47), (48, y48), (49, y49), (57, y57), (82, y82), (85, y85)] = [(0, y0), (1, y1), (2, y2), (4, y4), (6, y6), (10, y10), (30, z19), (32, y32), (33, y33), (34, y34), (35, y35), (45, y45), (46, y46), (47, y47), (48, y48), (49, y49), (57, y57), (82, y82), (85, y85)] := fun y0 y1 y2 y4 y6 y10 y30 y32 y33 y34 y35 y45 y46 y47 y48 y49 y57 y82 y85 z0 z1 z2 z3 z4 z5 z6 z7 z8 z9 z10 z11 z12 z13 z14 z15 z16 z17 z18 z19 => rfl
        refine R_nil (tr _ _ _ _ _ _ _ _ _ _ _ _ _ _ _ _ _ _ _ _ _ _ _ _ _ _ _ _ _ _ _ _ _ _ _ _ _ _ _) ?_; clear tr
        refine then_n ?_
        refine cdt ?_
        refine at_seq rfl ?_
        refine rg rfl ?_
        refine Rq ?_
        have tr : ∀ y0 y1 y2 y4 y6 y10 y30 y32 y33 y34 y35 y45 y46 y47 y48 y49 y57 y82 y85 z0 : AV, trim [(2, z0), (0, y0), (1, y1), (2, y2), (4, y4), (6, y6), (10, y10), (30, y30), (32, y32), (33, y33), (34, y34), (35, y35), (45, y45), (46, y46), (47, y47), (48, y48), (49, y49), (57, y57), (82, y82), (85, y85)] [(0, y0), (1, y1), (2, y2), (4, y4), (6, y6), (10, y10), (30, y30), (32, y32), (33, y33), (34, y34), (35, y35), (45, y45), (46, y46), (47, y47), (48, y48), (49, y49), (57, y57), (82, y82), (85, y85)] = [(0, y0), (1, y1), (2, z0), (4, y4), (6, y6), (10, y10), (30, y30), (32, y32), (33, y33), (34, y34), (35, y35), (45, y45), (46, y46), (47, y47), (48, y48), (49, y49), (57, y57), (82, y82), (85, y85)] := fun y0 y1 y2 y4 y6 y10 y30 y32 y33 y34 y35 y45 y46 y47 y48 y49 y57 y82 y85 z0 => rfl
        refine R_nil (tr _ _ _ _ _ _ _ _ _ _ _ _ _ _ _ _ _ _ _ _) ?_; clear tr
        refine then_n ?_
        refine at_ret rfl ?_
        refine then_r ?_
        refine fpure ?_
        refine ⟨?_, rfl⟩
        rw [checkS, if_neg (by omega), if_neg (by omega), if_pos (by omega)]
      · try simp only [decide_eq_true_eq, decide_eq_false_iff_not, Bool.not_eq_true', Bool.not_eq_false', beq_iff_eq, beq_eq_false_iff_ne, ne_eq] at h3
        refine Ry ?_
        refine Rq ?_
        refine Ry ?_
        refine Rq ?_
        refine Ry ?_
        refine Rq ?_
        refine Ry ?_
        refine Rq ?_
        refine Ry ?_
        refine Rq ?_
        refine Ry ?_
        refine Rq ?_
        refine Rq ?_
        have tr : ∀ y0 y1 y2 y4 y6 y10 y30 y32 y33 y34 y35 y45 y46 y47 y48 y49 y57 y82 y85 z0 z1 z2 z3 z4 z5 z6 z7 z8 z9 z10 z11 z12 z13 z14 z15 z16 z17 z18 z19 : AV, trim [(30, z19), (29, z18), (28, z17), (27, z16), (26, z15), (25, z14), (24, z13), (23, z12), (22, z11), (21, z10), (20, z9), (19, z8), (18, z7), (17, z6), (16, z5), (15, z4), (14, z3), (13, z2), (12, z1), (11, z0), (0, y0), (1, y1), (2, y2), (4, y4), (6, y6), (10, y10), (30, y30), (32, y32), (33, y33), (34, y34), (35, y35), (45, y45), (46, y46), (47, y47), (48, y48), (49, y49), (57, y57), (82, y82), (85, y85)] [(0, y0), (1, y1), (2, y2), (4, y4), (6, y6), (10, y10), (30, y30), (32, y32), (33, y33), (34, y34), (35, y35), (45, y45), (46, y46), (47, y47), (48, y48), (49, y49), (57, y57), (82, y82), (85, y85)] = [(0, y0), (1, y1), (2, y2), (4, y4), (6, y6), (10, y10), (30, z19), (32, y32), (33, y33), (34, y34), (35, y35), (45, y45), (46, y46), (47, y47), (48, y48), (49, y49), (57, y57), (82, y82), (85, y85)] := fun y0 y1 y2 y4 y6 y10 y30 y32 y33 y34 y35 y45 y46 y47 y48 y49 y57 y82 y85 z0 z1 z2 z3 z4 z5 z6 z7 z8 z9 z10 z11 z12 z13 z14 z15 z16 z17 z18 z19 => rfl
        refine R_nil (tr _ _ _ _ _ _ _ _ _ _ _ _ _ _ _ _ _ _ _ _ _ _ _ _ _ _ _ _ _ _ _ _ _ _ _ _ _ _ _) ?_; clear tr
        refine then_n ?_
        refine cdd (fun h4 => ?_) (fun h4 => ?_)
        · try simp only [decide_eq_true_eq, decide_eq_false_iff_not, Bool.not_eq_true', Bool.not_eq_false', beq_iff_eq, beq_eq_false_iff_ne, ne_eq] at h4
          refine at_seq rfl ?_
          refine rg rfl ?_
          refine Rq ?_
          have tr : ∀ y0 y1 y2 y4 y6 y10 y30 y32 y33 y34 y35 y45 y46 y47 y48 y49 y57 y82 y85 z0 : AV, trim [(2, z0), (0, y0), (1, y1), (2, y2), (4, y4), (6, y6), (10, y10), (30, y30), (32, y32), (33, y33), (34, y34), (35, y35), (45, y45), (46, y46), (47, y47), (48, y48), (49, y49), (57, y57), (82, y82), (85, y85)] [(0, y0), (1, y1), (2, y2), (4, y4), (6, y6), (10, y10), (30, y30), (32, y32), (33, y33), (34, y34), (35, y35), (45, y45), (46, y46), (47, y47), (48, y48), (49, y49), (57, y57), (82, y82), (85, y85)] = [(0, y0), (1, y1), (2, z0), (4, y4), (6, y6), (10, y10), (30, y30), (32, y32), (33, y33), (34, y34), (35, y35), (45, y45), (46, y46), (47, y47), (48, y48), (49, y49), (57, y57), (82, y82), (85, y85)] := fun y0 y1 y2 y4 y6 y10 y30 y32 y33 y34 y35 y45 y46 y47 y48 y49 y57 y82 y85 z0 => rfl
          refine R_nil (tr _ _ _ _ _ _ _ _ _ _ _ _ _ _ _ _ _ _ _ _) ?_; clear tr
          refine then_n ?_
          refine at_ret rfl ?_
          refine then_r ?_
          refine fpure ?_
          refine ⟨?_, rfl⟩
          rw [checkS, if_neg (by omega), if_neg (by omega), if_pos (by omega)]
        · try simp only [decide_eq_true_eq, decide_eq_false_iff_not, Bool.not_eq_true', Bool.not_eq_false', beq_iff_eq, beq_eq_false_iff_ne, ne_eq] at h4
          refine at_skip rfl ?_
          refine then_n ?_
          refine at_seq rfl ?_
          refine at_seq rfl ?_
          refine rg rfl ?_
          refine Rq ?_
          refine Rq ?_
          refine Rq ?_
          refine Rq ?_
          have tr : ∀ y0 y1 y2 y4 y6 y10 y30 y32 y33 y34 y35 y45 y46 y47 y48 y49 y57 y82 y85 z0 z1 z2 z3 : AV, trim [(34, z3), (33, z2), (32, z1), (31, z0), (0, y0), (1, y1), (2, y2), (4, y4), (6, y6), (10, y10), (30, y30), (32, y32), (33, y33), (34, y34), (35, y35), (45, y45), (46, y46), (47, y47), (48, y48), (49, y49), (57, y57), (82, y82), (85, y85)] [(0, y0), (1, y1), (2, y2), (4, y4), (6, y6), (10, y10), (30, y30), (32, y32), (33, y33), (34, y34), (35, y35), (45, y45), (46, y46), (47, y47), (48, y48), (49, y49), (57, y57), (82, y82), (85, y85)] = [(0, y0), (1, y1), (2, y2), (4, y4), (6, y6), (10, y10), (30, y30), (32, z1), (33, z2), (34, z3), (35, y35), (45, y45), (46, y46), (47, y47), (48, y48), (49, y49), (57, y57), (82, y82), (85, y85)] := fun y0 y1 y2 y4 y6 y10 y30 y32 y33 y34 y35 y45 y46 y47 y48 y49 y57 y82 y85 z0 z1 z2 z3 => rfl
          refine R_nil (tr _ _ _ _ _ _ _ _ _ _ _ _ _ _ _ _ _ _ _ _ _ _ _) ?_; clear tr
          refine then_n ?_
          refine at_block rfl ?_
          refine loop_n rfl (fun mm kv H' => ∃ u : Nat, ∃ x2 x4 x6 x35 x45 x46 x47 x48 x49 x57 : AV, (kv = [(2, x2), (4, x4), (6, x6), (34, AV.i u), (35, x35), (45, x45), (46, x46), (47, x47), (48, x48), (49, x49), (57, x57)]) ∧ (mm = rows.length - u) ∧ (H' = H ++ [some [rowsAV rows, AV.i q, AV.i la]]) ∧ (u ≤ rows.length) ∧ (scanV (gt rows 0).length (rows.drop u) = scanV (gt rows 0).length rows)) ⟨0, _, _, _, _, _, _, _, _, _, _, rfl, rfl, rfl, by omega, by rfl⟩ (by rfl) ?_
          rintro mm kv H' ⟨u, x2, x4, x6, x35, x45, x46, x47, x48, x49, x57, rfl, rfl, rfl, hu, hs⟩
          have tr : ∀ y0 y1 y2 y4 y6 y10 y30 y32 y33 y34 y35 y45 y46 y47 y48 y49 y57 y82 y85 z2 z4 z6 z34 z35 z45 z46 z47 z48 z49 z57 : AV, upd [(0, y0), (1, y1), (2, y2), (4, y4), (6, y6), (10, y10), (30, y30), (32, y32), (33, y33), (34, y34), (35, y35), (45, y45), (46, y46), (47, y47), (48, y48), (49, y49), (57, y57), (82, y82), (85, y85)] [(2, z2), (4, z4), (6, z6), (34, z34), (35, z35), (45, z45), (46, z46), (47, z47), (48, z48), (49, z49), (57, z57)] = [(0, y0), (1, y1), (2, z2), (4, z4), (6, z6), (10, y10), (30, y30), (32, y32), (33, y33), (34, z34), (35, z35), (45, z45), (46, z46), (47, z47), (48, z48), (49, z49), (57, z57), (82, y82), (85, y85)] := fun y0 y1 y2 y4 y6 y10 y30 y32 y33 y34 y35 y45 y46 y47 y48 y49 y57 y82 y85 z2 z4 z6 z34 z35 z45 z46 z47 z48 z49 z57 => rfl
          refine W_to (tr _ _ _ _ _ _ _ _ _ _ _ _ _ _ _ _ _ _ _ _ _ _ _ _ _ _ _ _ _ _) ?_; clear tr
          refine at_seq rfl ?_
          refine rg rfl ?_
          refine Rq ?_
          have tr : ∀ y0 y1 y2 y4 y6 y10 y30 y32 y33 y34 y35 y45 y46 y47 y48 y49 y57 y82 y85 z0 : AV, trim [(35, z0), (0, y0), (1, y1), (2, y2), (4, y4), (6, y6), (10, y10), (30, y30), (32, y32), (33, y33), (34, y34), (35, y35), (45, y45), (46, y46), (47, y47), (48, y48), (49, y49), (57, y57), (82, y82), (85, y85)] [(0, y0), (1, y1), (2, y2), (4, y4), (6, y6), (10, y10), (30, y30), (32, y32), (33, y33), (34, y34), (35, y35), (45, y45), (46, y46), (47, y47), (48, y48), (49, y49), (57, y57), (82, y82), (85, y85)] = [(0, y0), (1, y1), (2, y2), (4, y4), (6, y6), (10, y10), (30, y30), (32, y32), (33, y33), (34, y34), (35, z0), (45, y45), (46, y46), (47, y47), (48, y48), (49, y49), (57, y57), (82, y82), (85, y85)] := fun y0 y1 y2 y4 y6 y10 y30 y32 y33 y34 y35 y45 y46 y47 y48 y49 y57 y82 y85 z0 => rfl
          refine R_nil (tr _ _ _ _ _ _ _ _ _ _ _ _ _ _ _ _ _ _ _ _) ?_; clear tr
          refine then_n ?_
          refine at_seq rfl ?_
          refine cdd (fun h5 => ?_) (fun h5 => ?_)
          · try simp only [decide_eq_true_eq, decide_eq_false_iff_not, Bool.not_eq_true', Bool.not_eq_false', beq_iff_eq, beq_eq_false_iff_ne, ne_eq] at h5
            refine at_skip rfl ?_
            refine then_n ?_
            refine at_seq rfl ?_
            refine at_block rfl ?_
            refine at_seq rfl ?_
            refine rg rfl ?_
            refine Rq ?_
            refine Rq ?_
            refine Rq ?_
            have tr : ∀ y0 y1 y2 y4 y6 y10 y30 y32 y33 y34 y35 y45 y46 y47 y48 y49 y57 y82 y85 z0 z1 z2 : AV, trim [(4, z2), (37, z1), (36, z0), (0, y0), (1, y1), (2, y2), (4, y4), (6, y6), (10, y10), (30, y30), (32, y32), (33, y33), (34, y34), (35, y35), (45, y45), (46, y46), (47, y47), (48, y48), (49, y49), (57, y57), (82, y82), (85, y85)] [(0, y0), (1, y1), (2, y2), (4, y4), (6, y6), (10, y10), (30, y30), (32, y32), (33, y33), (34, y34), (35, y35), (45, y45), (46, y46), (47, y47), (48, y48), (49, y49), (57, y57), (82, y82), (85, y85)] = [(0, y0), (1, y1), (2, y2), (4, z2), (6, y6), (10, y10), (30, y30), (32, y32), (33, y33), (34, y34), (35, y35), (45, y45), (46, y46), (47, y47), (48, y48), (49, y49), (57, y57), (82, y82), (85, y85)] := fun y0 y1 y2 y4 y6 y10 y30 y32 y33 y34 y35 y45 y46 y47 y48 y49 y57 y82 y85 z0 z1 z2 => rfl
            refine R_nil (tr _ _ _ _ _ _ _ _ _ _ _ _ _ _ _ _ _ _ _ _ _ _) ?_; clear tr
            refine then_n ?_
            refine at_seq rfl ?_
            refine at_seq rfl ?_
            refine rg rfl ?_
            refine Rq ?_
            refine Rq ?_
            refine Rq ?_
            refine Rq ?_
            refine Rq ?_
            refine Rq ?_
            refine Rq ?_
            refine Rq ?_
            have tr : ∀ y0 y1 y2 y4 y6 y10 y30 y32 y33 y34 y35 y45 y46 y47 y48 y49 y57 y82 y85 z0 z1 z2 z3 z4 z5 z6 z7 : AV, trim [(45, z7), (44, z6), (43, z5), (42, z4), (41, z3), (40, z2), (39, z1), (38, z0), (0, y0), (1, y1), (2, y2), (4, y4), (6, y6), (10, y10), (30, y30), (32, y32), (33, y33), (34, y34), (35, y35), (45, y45), (46, y46), (47, y47), (48, y48), (49, y49), (57, y57), (82, y82), (85, y85)] [(0, y0), (1, y1), (2, y2), (4, y4), (6, y6), (10, y10), (30, y30), (32, y32), (33, y33), (34, y34), (35, y35), (45, y45), (46, y46), (47, y47), (48, y48), (49, y49), (57, y57), (82, y82), (85, y85)] = [(0, y0), (1, y1), (2, y2), (4, y4), (6, y6), (10, y10), (30, y30), (32, y32), (33, y33), (34, y34), (35, y35), (45, z7), (46, y46), (47, y47), (48, y48), (49, y49), (57, y57), (82, y82), (85, y85)] := fun y0 y1 y2 y4 y6 y10 y30 y32 y33 y34 y35 y45 y46 y47 y48 y49 y57 y82 y85 z0 z1 z2 z3 z4 z5 z6 z7 => rfl
            refine R_nil (tr _ _ _ _ _ _ _ _ _ _ _ _ _ _ _ _ _ _ _ _ _ _ _ _ _ _ _) ?_; clear tr
            refine then_n ?_
            refine cdd (fun h6 => ?_) (fun h6 => ?_)
            · try simp only [decide_eq_true_eq, decide_eq_false_iff_not, Bool.not_eq_true', Bool.not_eq_false', beq_iff_eq, beq_eq_false_iff_ne, ne_eq] at h6
              refine at_seq rfl ?_
              refine rg rfl ?_
              refine Rq ?_
              have tr : ∀ y0 y1 y2 y4 y6 y10 y30 y32 y33 y34 y35 y45 y46 y47 y48 y49 y57 y82 y85 z0 : AV, trim [(2, z0), (0, y0), (1, y1), (2, y2), (4, y4), (6, y6), (10, y10), (30, y30), (32, y32), (33, y33), (34, y34), (35, y35), (45, y45), (46, y46), (47, y47), (48, y48), (49, y49), (57, y57), (82, y82), (85, y85)] [(0, y0), (1, y1), (2, y2), (4, y4), (6, y6), (10, y10), (30, y30), (32, y32), (33, y33), (34, y34), (35, y35), (45, y45), (46, y46), (47, y47), (48, y48), (49, y49), (57, y57), (82, y82), (85, y85)] = [(0, y0), (1, y1), (2, z0), (4, y4), (6, y6), (10, y10), (30, y30), (32, y32), (33, y33), (34, y34), (35, y35), (45, y45), (46, y46), (47, y47), (48, y48), (49, y49), (57, y57), (82, y82), (85, y85)] := fun y0 y1 y2 y4 y6 y10 y30 y32 y33 y34 y35 y45 y46 y47 y48 y49 y57 y82 y85 z0 => rfl
              refine R_nil (tr _ _ _ _ _ _ _ _ _ _ _ _ _ _ _ _ _ _ _ _) ?_; clear tr
              refine then_n ?_
              refine at_ret rfl ?_
              refine then_r ?_
              refine blk_r ?_
              refine then_r ?_
              refine then_r ?_
              refine blk_r ?_
              refine then_r ?_
              refine fpure ?_
              refine ⟨?_, rfl⟩
              have he := rowE_len (b := (gt rows 0).length) (l := gt rows u) (by omega)
              have hc : scanV (gt rows 0).length rows ≠ 0 ∧ scanV (gt rows 0).length rows = 1 := by rw [← hs, scan_bad (by omega) (by rw [he]; decide), he]; exact ⟨by decide, rfl⟩
              rw [checkS, if_neg (by omega), if_neg (by omega), if_neg (by omega), if_pos hc.1, hc.2]
            · try simp only [decide_eq_true_eq, decide_eq_false_iff_not, Bool.not_eq_true', Bool.not_eq_false', beq_iff_eq, beq_eq_false_iff_ne, ne_eq] at h6
              refine at_skip rfl ?_
              refine then_n ?_
              refine at_seq rfl ?_
              refine rg rfl ?_
              refine Rq ?_
              refine Rq ?_
              refine Rq ?_
              have tr : ∀ y0 y1 y2 y4 y6 y10 y30 y32 y33 y34 y35 y45 y46 y47 y48 y49 y57 y82 y85 z0 z1 z2 : AV, trim [(48, z2), (47, z1), (46, z0), (0, y0), (1, y1), (2, y2), (4, y4), (6, y6), (10, y10), (30, y30), (32, y32), (33, y33), (34, y34), (35, y35), (45, y45), (46, y46), (47, y47), (48, y48), (49, y49), (57, y57), (82, y82), (85, y85)] [(0, y0), (1, y1), (2, y2), (4, y4), (6, y6), (10, y10), (30, y30), (32, y32), (33, y33), (34, y34), (35, y35), (45, y45), (46, y46), (47, y47), (48, y48), (49, y49), (57, y57), (82, y82), (85, y85)] = [(0, y0), (1, y1), (2, y2), (4, y4), (6, y6), (10, y10), (30, y30), (32, y32), (33, y33), (34, y34), (35, y35), (45, y45), (46, z0), (47, z1), (48, z2), (49, y49), (57, y57), (82, y82), (85, y85)] := fun y0 y1 y2 y4 y6 y10 y30 y32 y33 y34 y35 y45 y46 y47 y48 y49 y57 y82 y85 z0 z1 z2 => rfl
              refine R_nil (tr _ _ _ _ _ _ _ _ _ _ _ _ _ _ _ _ _ _ _ _ _ _) ?_; clear tr
              refine then_n ?_
              refine at_block rfl ?_
              refine loop_n rfl (fun mm kv H' => ∃ w : Nat, ∃ x2 x6 x49 x57 : AV, (kv = [(2, x2), (6, x6), (48, AV.i w), (49, x49), (57, x57)]) ∧ (mm = (gt rows u).length - w) ∧ (H' = H ++ [some [rowsAV rows, AV.i q, AV.i la]]) ∧ (w ≤ (gt rows u).length) ∧ (∀ j, j < w → okC (gt (gt rows u) j))) ⟨0, _, _, _, _, rfl, rfl, rfl, by omega, by intro j hj; omega⟩ (by rfl) ?_
              rintro mm kv H' ⟨w, x2, x6, x49, x57, rfl, rfl, rfl, hw, hw2⟩
              have tr : ∀ y0 y1 y2 y4 y6 y10 y30 y32 y33 y34 y35 y45 y46 y47 y48 y49 y57 y82 y85 z2 z6 z48 z49 z57 : AV, upd [(0, y0), (1, y1), (2, y2), (4, y4), (6, y6), (10, y10), (30, y30), (32, y32), (33, y33), (34, y34), (35, y35), (45, y45), (46, y46), (47, y47), (48, y48), (49, y49), (57, y57), (82, y82), (85, y85)] [(2, z2), (6, z6), (48, z48), (49, z49), (57, z57)] = [(0, y0), (1, y1), (2, z2), (4, y4), (6, z6), (10, y10), (30, y30), (32, y32), (33, y33), (34, y34), (35, y35), (45, y45), (46, y46), (47, y47), (48, z48), (49, z49), (57, z57), (82, y82), (85, y85)] := fun y0 y1 y2 y4 y6 y10 y30 y32 y33 y34 y35 y45 y46 y47 y48 y49 y57 y82 y85 z2 z6 z48 z49 z57 => rfl
              refine W_to (tr _ _ _ _ _ _ _ _ _ _ _ _ _ _ _ _ _ _ _ _ _ _ _ _) ?_; clear tr
              refine at_seq rfl ?_
              refine rg rfl ?_
              refine Rq ?_
              have tr : ∀ y0 y1 y2 y4 y6 y10 y30 y32 y33 y34 y35 y45 y46 y47 y48 y49 y57 y82 y85 z0 : AV, trim [(49, z0), (0, y0), (1, y1), (2, y2), (4, y4), (6, y6), (10, y10), (30, y30), (32, y32), (33, y33), (34, y34), (35, y35), (45, y45), (46, y46), (47, y47), (48, y48), (49, y49), (57, y57), (82, y82), (85, y85)] [(0, y0), (1, y1), (2, y2), (4, y4), (6, y6), (10, y10), (30, y30), (32, y32), (33, y33), (34, y34), (35, y35), (45, y45), (46, y46), (47, y47), (48, y48), (49, y49), (57, y57), (82, y82), (85, y85)] = [(0, y0), (1, y1), (2, y2), (4, y4), (6, y6), (10, y10), (30, y30), (32, y32), (33, y33), (34, y34), (35, y35), (45, y45), (46, y46), (47, y47), (48, y48), (49, z0), (57, y57), (82, y82), (85, y85)] := fun y0 y1 y2 y4 y6 y10 y30 y32 y33 y34 y35 y45 y46 y47 y48 y49 y57 y82 y85 z0 => rfl
              refine R_nil (tr _ _ _ _ _ _ _ _ _ _ _ _ _ _ _ _ _ _ _ _) ?_; clear tr
              refine then_n ?_
              refine at_seq rfl ?_
              refine cdd (fun h7 => ?_) (fun h7 => ?_)
              · try simp only [decide_eq_true_eq, decide_eq_false_iff_not, Bool.not_eq_true', Bool.not_eq_false', beq_iff_eq, beq_eq_false_iff_ne, ne_eq] at h7
                refine at_skip rfl ?_
                refine then_n ?_
                refine at_seq rfl ?_
                refine at_block rfl ?_
                refine at_seq rfl ?_
                refine rg rfl ?_
                refine Rq ?_
                refine Rq ?_
                refine Rq ?_
                have tr : ∀ y0 y1 y2 y4 y6 y10 y30 y32 y33 y34 y35 y45 y46 y47 y48 y49 y57 y82 y85 z0 z1 z2 : AV, trim [(6, z2), (51, z1), (50, z0), (0, y0), (1, y1), (2, y2), (4, y4), (6, y6), (10, y10), (30, y30), (32, y32), (33, y33), (34, y34), (35, y35), (45, y45), (46, y46), (47, y47), (48, y48), (49, y49), (57, y57), (82, y82), (85, y85)] [(0, y0), (1, y1), (2, y2), (4, y4), (6, y6), (10, y10), (30, y30), (32, y32), (33, y33), (34, y34), (35, y35), (45, y45), (46, y46), (47, y47), (48, y48), (49, y49), (57, y57), (82, y82), (85, y85)] = [(0, y0), (1, y1), (2, y2), (4, y4), (6, z2), (10, y10), (30, y30), (32, y32), (33, y33), (34, y34), (35, y35), (45, y45), (46, y46), (47, y47), (48, y48), (49, y49), (57, y57), (82, y82), (85, y85)] := fun y0 y1 y2 y4 y6 y10 y30 y32 y33 y34 y35 y45 y46 y47 y48 y49 y57 y82 y85 z0 z1 z2 => rfl
                refine R_nil (tr _ _ _ _ _ _ _ _ _ _ _ _ _ _ _ _ _ _ _ _ _ _) ?_; clear tr
                refine then_n ?_
                refine at_seq rfl ?_
                refine rg rfl ?_
                refine Rq ?_
                refine Rq ?_
                refine Rq ?_
                refine Rp_split (fun h8 => ?_) (fun h8 => ?_)
                · try simp only [decide_eq_true_eq, decide_eq_false_iff_not, Bool.not_eq_true', Bool.not_eq_false', beq_iff_eq, beq_eq_false_iff_ne, ne_eq] at h8
                  refine Rn ?_
                  refine Rn ?_
                  refine Rq ?_
                  have tr : ∀ y0 y1 y2 y4 y6 y10 y30 y32 y33 y34 y35 y45 y46 y47 y48 y49 y57 y82 y85 z0 z1 z2 z3 z4 z5 : AV, trim [(57, z5), (56, z4), (55, z3), (54, z2), (53, z1), (52, z0), (0, y0), (1, y1), (2, y2), (4, y4), (6, y6), (10, y10), (30, y30), (32, y32), (33, y33), (34, y34), (35, y35), (45, y45), (46, y46), (47, y47), (48, y48), (49, y49), (57, y57), (82, y82), (85, y85)] [(0, y0), (1, y1), (2, y2), (4, y4), (6, y6), (10, y10), (30, y30), (32, y32), (33, y33), (34, y34), (35, y35), (45, y45), (46, y46), (47, y47), (48, y48), (49, y49), (57, y57), (82, y82), (85, y85)] = [(0, y0), (1, y1), (2, y2), (4, y4), (6, y6), (10, y10), (30, y30), (32, y32), (33, y33), (34, y34), (35, y35), (45, y45), (46, y46), (47, y47), (48, y48), (49, y49), (57, z5), (82, y82), (85, y85)] := fun y0 y1 y2 y4 y6 y10 y30 y32 y33 y34 y35 y45 y46 y47 y48 y49 y57 y82 y85 z0 z1 z2 z3 z4 z5 => rfl
                  refine R_nil (tr _ _ _ _ _ _ _ _ _ _ _ _ _ _ _ _ _ _ _ _ _ _ _ _ _) ?_; clear tr
                  refine then_n ?_
                  refine cdt ?_
                  refine at_seq rfl ?_
                  refine rg rfl ?_
                  refine Rq ?_
                  have tr : ∀ y0 y1 y2 y4 y6 y10 y30 y32 y33 y34 y35 y45 y46 y47 y48 y49 y57 y82 y85 z0 : AV, trim [(2, z0), (0, y0), (1, y1), (2, y2), (4, y4), (6, y6), (10, y10), (30, y30), (32, y32), (33, y33), (34, y34), (35, y35), (45, y45), (46, y46), (47, y47), (48, y48), (49, y49), (57, y57), (82, y82), (85, y85)] [(0, y0), (1, y1), (2, y2), (4, y4), (6, y6), (10, y10), (30, y30), (32, y32), (33, y33), (34, y34), (35, y35), (45, y45), (46, y46), (47, y47), (48, y48), (49, y49), (57, y57), (82, y82), (85, y85)] = [(0, y0), (1, y1), (2, z0), (4, y4), (6, y6), (10, y10), (30, y30), (32, y32), (33, y33), (34, y34), (35, y35), (45, y45), (46, y46), (47, y47), (48, y48), (49, y49), (57, y57), (82, y82), (85, y85)] := fun y0 y1 y2 y4 y6 y10 y30 y32 y33 y34 y35 y45 y46 y47 y48 y49 y57 y82 y85 z0 => rfl
                  refine R_nil (tr _ _ _ _ _ _ _ _ _ _ _ _ _ _ _ _ _ _ _ _) ?_; clear tr
                  refine then_n ?_
                  refine at_ret rfl ?_
                  refine blk_r ?_
                  refine then_r ?_
                  refine then_r ?_
                  refine blk_r ?_
                  refine blk_r ?_
                  refine then_r ?_
                  refine then_r ?_
                  refine blk_r ?_
                  refine then_r ?_
                  refine fpure ?_
                  refine ⟨?_, rfl⟩
                  have he := rowE_bad (b := (gt rows 0).length) (l := gt rows u) (by omega) (j := w) (by omega) (by unfold okC; omega)
                  have hc : scanV (gt rows 0).length rows ≠ 0 ∧ scanV (gt rows 0).length rows = 2 := by rw [← hs, scan_bad (by omega) (by rw [he]; decide), he]; exact ⟨by decide, rfl⟩
                  rw [checkS, if_neg (by omega), if_neg (by omega), if_neg (by omega), if_pos hc.1, hc.2]
                · try simp only [decide_eq_true_eq, decide_eq_false_iff_not, Bool.not_eq_true', Bool.not_eq_false', beq_iff_eq, beq_eq_false_iff_ne, ne_eq] at h8
                  refine Ry ?_
                  refine Rq ?_
                  refine Ry ?_
                  refine Rq ?_
                  refine Rq ?_
                  have tr : ∀ y0 y1 y2 y4 y6 y10 y30 y32 y33 y34 y35 y45 y46 y47 y48 y49 y57 y82 y85 z0 z1 z2 z3 z4 z5 : AV, trim [(57, z5), (56, z4), (55, z3), (54, z2), (53, z1), (52, z0), (0, y0), (1, y1), (2, y2), (4, y4), (6, y6), (10, y10), (30, y30), (32, y32), (33, y33), (34, y34), (35, y35), (45, y45), (46, y46), (47, y47), (48, y48), (49, y49), (57, y57), (82, y82), (85, y85)] [(0, y0), (1, y1), (2, y2), (4, y4), (6, y6), (10, y10), (30, y30), (32, y32), (33, y33), (34, y34), (35, y35), (45, y45), (46, y46), (47, y47), (48, y48), (49, y49), (57, y57), (82, y82), (85, y85)] = [(0, y0), (1, y1), (2, y2), (4, y4), (6, y6), (10, y10), (30, y30), (32, y32), (33, y33), (34, y34), (35, y35), (45, y45), (46, y46), (47, y47), (48, y48), (49, y49), (57, z5), (82, y82), (85, y85)] := fun y0 y1 y2 y4 y6 y10 y30 y32 y33 y34 y35 y45 y46 y47 y48 y49 y57 y82 y85 z0 z1 z2 z3 z4 z5 => rfl
                  refine R_nil (tr _ _ _ _ _ _ _ _ _ _ _ _ _ _ _ _ _ _ _ _ _ _ _ _ _) ?_; clear tr
                  refine then_n ?_
                  refine cdd (fun h9 => ?_) (fun h9 => ?_)
                  · try simp only [decide_eq_true_eq, decide_eq_false_iff_not, Bool.not_eq_true', Bool.not_eq_false', beq_iff_eq, beq_eq_false_iff_ne, ne_eq] at h9
                    refine at_seq rfl ?_
                    refine rg rfl ?_
                    refine Rq ?_
                    have tr : ∀ y0 y1 y2 y4 y6 y10 y30 y32 y33 y34 y35 y45 y46 y47 y48 y49 y57 y82 y85 z0 : AV, trim [(2, z0), (0, y0), (1, y1), (2, y2), (4, y4), (6, y6), (10, y10), (30, y30), (32, y32), (33, y33), (34, y34), (35, y35), (45, y45), (46, y46), (47, y47), (48, y48), (49, y49), (57, y57), (82, y82), (85, y85)] [(0, y0), (1, y1), (2, y2), (4, y4), (6, y6), (10, y10), (30, y30), (32, y32), (33, y33), (34, y34), (35, y35), (45, y45), (46, y46), (47, y47), (48, y48), (49, y49), (57, y57), (82, y82), (85, y85)] = [(0, y0), (1, y1), (2, z0), (4, y4), (6, y6), (10, y10), (30, y30), (32, y32), (33, y33), (34, y34), (35, y35), (45, y45), (46, y46), (47, y47), (48, y48), (49, y49), (57, y57), (82, y82), (85, y85)] := fun y0 y1 y2 y4 y6 y10 y30 y32 y33 y34 y35 y45 y46 y47 y48 y49 y57 y82 y85 z0 => rfl
                    refine R_nil (tr _ _ _ _ _ _ _ _ _ _ _ _ _ _ _ _ _ _ _ _) ?_; clear tr
                    refine then_n ?_
                    refine at_ret rfl ?_
                    refine blk_r ?_
                    refine then_r ?_
                    refine then_r ?_
                    refine blk_r ?_
                    refine blk_r ?_
                    refine then_r ?_
                    refine then_r ?_
                    refine blk_r ?_
                    refine then_r ?_
                    refine fpure ?_
                    refine ⟨?_, rfl⟩
                    have he := rowE_bad (b := (gt rows 0).length) (l := gt rows u) (by omega) (j := w) (by omega) (by unfold okC; omega)
                    have hc : scanV (gt rows 0).length rows ≠ 0 ∧ scanV (gt rows 0).length rows = 2 := by rw [← hs, scan_bad (by omega) (by rw [he]; decide), he]; exact ⟨by decide, rfl⟩
                    rw [checkS, if_neg (by omega), if_neg (by omega), if_neg (by omega), if_pos hc.1, hc.2]
                  · try simp only [decide_eq_true_eq, decide_eq_false_iff_not, Bool.not_eq_true', Bool.not_eq_false', beq_iff_eq, beq_eq_false_iff_ne, ne_eq] at h9
                    refine at_skip rfl ?_
                    refine blk_n ?_
                    refine then_n ?_
                    refine rg rfl ?_
                    refine Rq ?_
                    refine Rq ?_
                    have tr : ∀ y0 y1 y2 y4 y6 y10 y30 y32 y33 y34 y35 y45 y46 y47 y48 y49 y57 y82 y85 z0 z1 : AV, trim [(48, z1), (58, z0), (0, y0), (1, y1), (2, y2), (4, y4), (6, y6), (10, y10), (30, y30), (32, y32), (33, y33), (34, y34), (35, y35), (45, y45), (46, y46), (47, y47), (48, y48), (49, y49), (57, y57), (82, y82), (85, y85)] [(0, y0), (1, y1), (2, y2), (4, y4), (6, y6), (10, y10), (30, y30), (32, y32), (33, y33), (34, y34), (35, y35), (45, y45), (46, y46), (47, y47), (48, y48), (49, y49), (57, y57), (82, y82), (85, y85)] = [(0, y0), (1, y1), (2, y2), (4, y4), (6, y6), (10, y10), (30, y30), (32, y32), (33, y33), (34, y34), (35, y35), (45, y45), (46, y46), (47, y47), (48, z1), (49, y49), (57, y57), (82, y82), (85, y85)] := fun y0 y1 y2 y4 y6 y10 y30 y32 y33 y34 y35 y45 y46 y47 y48 y49 y57 y82 y85 z0 z1 => rfl
                    refine R_nil (tr _ _ _ _ _ _ _ _ _ _ _ _ _ _ _ _ _ _ _ _ _) ?_; clear tr
                    refine then_n ?_
                    exact ⟨_, _, ⟨w + 1, _, _, _, _, rfl, rfl, rfl, by omega, by exact all_step hw2 (by unfold okC; omega)⟩, by rfl, by omega⟩
              · try simp only [decide_eq_true_eq, decide_eq_false_iff_not, Bool.not_eq_true', Bool.not_eq_false', beq_iff_eq, beq_eq_false_iff_ne, ne_eq] at h7
                refine at_exit rfl ?_
                refine then_x ?_
                refine then_x ?_
                refine blk_x ?_
                refine blk_n ?_
                refine then_n ?_
                refine rg rfl ?_
                refine Rq ?_
                refine Rq ?_
                have tr : ∀ y0 y1 y2 y4 y6 y10 y30 y32 y33 y34 y35 y45 y46 y47 y48 y49 y57 y82 y85 z0 z1 : AV, trim [(34, z1), (59, z0), (0, y0), (1, y1), (2, y2), (4, y4), (6, y6), (10, y10), (30, y30), (32, y32), (33, y33), (34, y34), (35, y35), (45, y45), (46, y46), (47, y47), (48, y48), (49, y49), (57, y57), (82, y82), (85, y85)] [(0, y0), (1, y1), (2, y2), (4, y4), (6, y6), (10, y10), (30, y30), (32, y32), (33, y33), (34, y34), (35, y35), (45, y45), (46, y46), (47, y47), (48, y48), (49, y49), (57, y57), (82, y82), (85, y85)] = [(0, y0), (1, y1), (2, y2), (4, y4), (6, y6), (10, y10), (30, y30), (32, y32), (33, y33), (34, z1), (35, y35), (45, y45), (46, y46), (47, y47), (48, y48), (49, y49), (57, y57), (82, y82), (85, y85)] := fun y0 y1 y2 y4 y6 y10 y30 y32 y33 y34 y35 y45 y46 y47 y48 y49 y57 y82 y85 z0 z1 => rfl
                refine R_nil (tr _ _ _ _ _ _ _ _ _ _ _ _ _ _ _ _ _ _ _ _ _) ?_; clear tr
                refine then_n ?_
                exact ⟨_, _, ⟨u + 1, _, _, _, _, _, _, _, _, _, _, rfl, rfl, rfl, by omega, by rw [scan_on (by omega) (rowE_ok (by omega) fun j hj => hw2 j (by omega))]; exact hs⟩, by rfl, by omega⟩
          · try simp only [decide_eq_true_eq, decide_eq_false_iff_not, Bool.not_eq_true', Bool.not_eq_false', beq_iff_eq, beq_eq_false_iff_ne, ne_eq] at h5
            refine at_exit rfl ?_
            refine then_x ?_
            refine then_x ?_
            refine blk_x ?_
            refine then_n ?_
            refine at_seq rfl ?_
            refine at_seq rfl ?_
            refine rd rfl rfl ?_
            have h0 : scanV (gt rows 0).length rows = 0 := by rw [← hs, List.drop_eq_nil_of_le (by omega)]; rfl
            refine Qq ?_
            refine Qq ?_
            refine Qq ?_
            refine Qq ?_
            refine Qp_split (fun h10 => ?_) (fun h10 => ?_)
            · try simp only [decide_eq_true_eq, decide_eq_false_iff_not, Bool.not_eq_true', Bool.not_eq_false', beq_iff_eq, beq_eq_false_iff_ne, ne_eq] at h10
              refine Qn ?_
              refine Qn ?_
              refine Qn ?_
              refine Qq ?_
              refine Qq ?_
              refine Qn ?_
              refine Qn ?_
              refine Qn ?_
              refine Qq ?_
              refine Qq ?_
              refine Qn ?_
              refine Qn ?_
              refine Qn ?_
              refine Qn ?_
              refine Qn ?_
              refine Qn ?_
              refine Qn ?_
              refine Qn ?_
              refine Qq ?_
              refine Q_nil ?_
              have tr : ∀ y0 y1 y2 y4 y6 y10 y30 y32 y33 y34 y35 y45 y46 y47 y48 y49 y57 y82 y85 z0 z1 z2 z3 z4 z5 z6 z7 z8 z9 z10 z11 z12 z13 z14 z15 z16 z17 z18 z19 z20 z21 z22 : AV, trim [(82, z22), (81, z21), (80, z20), (79, z19), (78, z18), (77, z17), (76, z16), (75, z15), (74, z14), (73, z13), (72, z12), (71, z11), (70, z10), (69, z9), (68, z8), (67, z7), (66, z6), (65, z5), (64, z4), (63, z3), (62, z2), (61, z1), (60, z0), (0, y0), (1, y1), (2, y2), (4, y4), (6, y6), (10, y10), (30, y30), (32, y32), (33, y33), (34, y34), (35, y35), (45, y45), (46, y46), (47, y47), (48, y48), (49, y49), (57, y57), (82, y82), (85, y85)] [(0, y0), (1, y1), (2, y2), (4, y4), (6, y6), (10, y10), (30, y30), (32, y32), (33, y33), (34, y34), (35, y35), (45, y45), (46, y46), (47, y47), (48, y48), (49, y49), (57, y57), (82, y82), (85, y85)] = [(0, y0), (1, y1), (2, y2), (4, y4), (6, y6), (10, y10), (30, y30), (32, y32), (33, y33), (34, y34), (35, y35), (45, y45), (46, y46), (47, y47), (48, y48), (49, y49), (57, y57), (82, z22), (85, y85)] := fun y0 y1 y2 y4 y6 y10 y30 y32 y33 y34 y35 y45 y46 y47 y48 y49 y57 y82 y85 z0 z1 z2 z3 z4 z5 z6 z7 z8 z9 z10 z11 z12 z13 z14 z15 z16 z17 z18 z19 z20 z21 z22 => rfl
              refine R_nil (tr _ _ _ _ _ _ _ _ _ _ _ _ _ _ _ _ _ _ _ _ _ _ _ _ _ _ _ _ _ _ _ _ _ _ _ _ _ _ _ _ _ _) ?_; clear tr
              refine then_n ?_
              refine cdt ?_
              refine at_seq rfl ?_
              refine rg rfl ?_
              refine Rq ?_
              have tr : ∀ y0 y1 y2 y4 y6 y10 y30 y32 y33 y34 y35 y45 y46 y47 y48 y49 y57 y82 y85 z0 : AV, trim [(2, z0), (0, y0), (1, y1), (2, y2), (4, y4), (6, y6), (10, y10), (30, y30), (32, y32), (33, y33), (34, y34), (35, y35), (45, y45), (46, y46), (47, y47), (48, y48), (49, y49), (57, y57), (82, y82), (85, y85)] [(0, y0), (1, y1), (2, y2), (4, y4), (6, y6), (10, y10), (30, y30), (32, y32), (33, y33), (34, y34), (35, y35), (45, y45), (46, y46), (47, y47), (48, y48), (49, y49), (57, y57), (82, y82), (85, y85)] = [(0, y0), (1, y1), (2, z0), (4, y4), (6, y6), (10, y10), (30, y30), (32, y32), (33, y33), (34, y34), (35, y35), (45, y45), (46, y46), (47, y47), (48, y48), (49, y49), (57, y57), (82, y82), (85, y85)] := fun y0 y1 y2 y4 y6 y10 y30 y32 y33 y34 y35 y45 y46 y47 y48 y49 y57 y82 y85 z0 => rfl
              refine R_nil (tr _ _ _ _ _ _ _ _ _ _ _ _ _ _ _ _ _ _ _ _) ?_; clear tr
              refine then_n ?_
              refine at_ret rfl ?_
              refine then_r ?_
              refine fpure ?_
              refine ⟨?_, rfl⟩
              rw [checkS, if_neg (by omega), if_neg (by omega), if_neg (by omega), if_neg (fun hh => hh h0), if_pos (by unfold paramBad; omega)]
            · try simp only [decide_eq_true_eq, decide_eq_false_iff_not, Bool.not_eq_true', Bool.not_eq_false', beq_iff_eq, beq_eq_false_iff_ne, ne_eq] at h10
              refine Qy ?_
              refine Qq ?_
              refine Qy ?_
              refine Qq ?_
              refine Qy ?_
              refine Qq ?_
              refine Qq ?_
              refine Qq ?_
              refine Qp_split (fun h11 => ?_) (fun h11 => ?_)
              · try simp only [decide_eq_true_eq, decide_eq_false_iff_not, Bool.not_eq_true', Bool.not_eq_false', beq_iff_eq, beq_eq_false_iff_ne, ne_eq] at h11
                refine Qn ?_
                refine Qn ?_
                refine Qn ?_
                refine Qq ?_
                refine Qq ?_
                refine Qn ?_
                refine Qn ?_
                refine Qn ?_
                refine Qn ?_
                refine Qn ?_
                refine Qn ?_
                refine Qn ?_
                refine Qn ?_
                refine Qq ?_
                refine Q_nil ?_
                have tr : ∀ y0 y1 y2 y4 y6 y10 y30 y32 y33 y34 y35 y45 y46 y47 y48 y49 y57 y82 y85 z0 z1 z2 z3 z4 z5 z6 z7 z8 z9 z10 z11 z12 z13 z14 z15 z16 z17 z18 z19 z20 z21 z22 : AV, trim [(82, z22), (81, z21), (80, z20), (79, z19), (78, z18), (77, z17), (76, z16), (75, z15), (74, z14), (73, z13), (72, z12), (71, z11), (70, z10), (69, z9), (68, z8), (67, z7), (66, z6), (65, z5), (64, z4), (63, z3), (62, z2), (61, z1), (60, z0), (0, y0), (1, y1), (2, y2), (4, y4), (6, y6), (10, y10), (30, y30), (32, y32), (33, y33), (34, y34), (35, y35), (45, y45), (46, y46), (47, y47), (48, y48), (49, y49), (57, y57), (82, y82), (85, y85)] [(0, y0), (1, y1), (2, y2), (4, y4), (6, y6), (10, y10), (30, y30), (32, y32), (33, y33), (34, y34), (35, y35), (45, y45), (46, y46), (47, y47), (48, y48), (49, y49), (57, y57), (82, y82), (85, y85)] = [(0, y0), (1, y1), (2, y2), (4, y4), (6, y6), (10, y10), (30, y30), (32, y32), (33, y33), (34, y34), (35, y35), (45, y45), (46, y46), (47, y47), (48, y48), (49, y49), (57, y57), (82, z22), (85, y85)] := fun y0 y1 y2 y4 y6 y10 y30 y32 y33 y34 y35 y45 y46 y47 y48 y49 y57 y82 y85 z0 z1 z2 z3 z4 z5 z6 z7 z8 z9 z10 z11 z12 z13 z14 z15 z16 z17 z18 z19 z20 z21 z22 => rfl
                refine R_nil (tr _ _ _ _ _ _ _ _ _ _ _ _ _ _ _ _ _ _ _ _ _ _ _ _ _ _ _ _ _ _ _ _ _ _ _ _ _ _ _ _ _ _) ?_; clear tr
                refine then_n ?_
                refine cdt ?_
                refine at_seq rfl ?_
                refine rg rfl ?_
                refine Rq ?_
                have tr : ∀ y0 y1 y2 y4 y6 y10 y30 y32 y33 y34 y35 y45 y46 y47 y48 y49 y57 y82 y85 z0 : AV, trim [(2, z0), (0, y0), (1, y1), (2, y2), (4, y4), (6, y6), (10, y10), (30, y30), (32, y32), (33, y33), (34, y34), (35, y35), (45, y45), (46, y46), (47, y47), (48, y48), (49, y49), (57, y57), (82, y82), (85, y85)] [(0, y0), (1, y1), (2, y2), (4, y4), (6, y6), (10, y10), (30, y30), (32, y32), (33, y33), (34, y34), (35, y35), (45, y45), (46, y46), (47, y47), (48, y48), (49, y49), (57, y57), (82, y82), (85, y85)] = [(0, y0), (1, y1), (2, z0), (4, y4), (6, y6), (10, y10), (30, y30), (32, y32), (33, y33), (34, y34), (35, y35), (45, y45), (46, y46), (47, y47), (48, y48), (49, y49), (57, y57), (82, y82), (85, y85)] := fun y0 y1 y2 y4 y6 y10 y30 y32 y33 y34 y35 y45 y46 y47 y48 y49 y57 y82 y85 z0 => rfl
                refine R_nil (tr _ _ _ _ _ _ _ _ _ _ _ _ _ _ _ _ _ _ _ _) ?_; clear tr
                refine then_n ?_
                refine at_ret rfl ?_
                refine then_r ?_
                refine fpure ?_
                refine ⟨?_, rfl⟩
                rw [checkS, if_neg (by omega), if_neg (by omega), if_neg (by omega), if_neg (fun hh => hh h0), if_pos (by unfold paramBad; omega)]
              · try simp only [decide_eq_true_eq, decide_eq_false_iff_not, Bool.not_eq_true', Bool.not_eq_false', beq_iff_eq, beq_eq_false_iff_ne, ne_eq] at h11
                refine Qy ?_
                refine Qq ?_
                refine Qy ?_
                refine Qq ?_
                refine Qy ?_
                refine Qq ?_
                refine Qq ?_
                refine Qq ?_
                refine Qp_split (fun h12 => ?_) (fun h12 => ?_)
                · try simp only [decide_eq_true_eq, decide_eq_false_iff_not, Bool.not_eq_true', Bool.not_eq_false', beq_iff_eq, beq_eq_false_iff_ne, ne_eq] at h12
                  refine Qn ?_
                  refine Qn ?_
                  refine Qn ?_
                  refine Qn ?_
                  refine Qn ?_
                  refine Qn ?_
                  refine Qn ?_
                  refine Qn ?_
                  refine Qq ?_
                  refine Q_nil ?_
                  have tr : ∀ y0 y1 y2 y4 y6 y10 y30 y32 y33 y34 y35 y45 y46 y47 y48 y49 y57 y82 y85 z0 z1 z2 z3 z4 z5 z6 z7 z8 z9 z10 z11 z12 z13 z14 z15 z16 z17 z18 z19 z20 z21 z22 : AV, trim [(82, z22), (81, z21), (80, z20), (79, z19), (78, z18), (77, z17), (76, z16), (75, z15), (74, z14), (73, z13), (72, z12), (71, z11), (70, z10), (69, z9), (68, z8), (67, z7), (66, z6), (65, z5), (64, z4), (63, z3), (62, z2), (61, z1), (60, z0), (0, y0), (1, y1), (2, y2), (4, y4), (6, y6), (10, y10), (30, y30), (32, y32), (33, y33), (34, y34), (35, y35), (45, y45), (46, y46), (47, y47), (48, y48), (49, y49), (57, y57), (82, y82), (85, y85)] [(0, y0), (1, y1), (2, y2), (4, y4), (6, y6), (10, y10), (30, y30), (32, y32), (33, y33), (34, y34), (35, y35), (45, y45), (46, y46), (47, y47), (48, y48), (49, y49), (57, y57), (82, y82), (85, y85)] = [(0, y0), (1, y1), (2, y2), (4, y4), (6, y6), (10, y10), (30, y30), (32, y32), (33, y33), (34, y34), (35, y35), (45, y45), (46, y46), (47, y47), (48, y48), (49, y49), (57, y57), (82, z22), (85, y85)] := fun y0 y1 y2 y4 y6 y10 y30 y32 y33 y34 y35 y45 y46 y47 y48 y49 y57 y82 y85 z0 z1 z2 z3 z4 z5 z6 z7 z8 z9 z10 z11 z12 z13 z14 z15 z16 z17 z18 z19 z20 z21 z22 => rfl
                  refine R_nil (tr _ _ _ _ _ _ _ _ _ _ _ _ _ _ _ _ _ _ _ _ _ _ _ _ _ _ _ _ _ _ _ _ _ _ _ _ _ _ _ _ _ _) ?_; clear tr
                  refine then_n ?_
                  refine cdt ?_
                  refine at_seq rfl ?_
                  refine rg rfl ?_
                  refine Rq ?_
                  have tr : ∀ y0 y1 y2 y4 y6 y10 y30 y32 y33 y34 y35 y45 y46 y47 y48 y49 y57 y82 y85 z0 : AV, trim [(2, z0), (0, y0), (1, y1), (2, y2), (4, y4), (6, y6), (10, y10), (30, y30), (32, y32), (33, y33), (34, y34), (35, y35), (45, y45), (46, y46), (47, y47), (48, y48), (49, y49), (57, y57), (82, y82), (85, y85)] [(0, y0), (1, y1), (2, y2), (4, y4), (6, y6), (10, y10), (30, y30), (32, y32), (33, y33), (34, y34), (35, y35), (45, y45), (46, y46), (47, y47), (48, y48), (49, y49), (57, y57), (82, y82), (85, y85)] = [(0, y0), (1, y1), (2, z0), (4, y4), (6, y6), (10, y10), (30, y30), (32, y32), (33, y33), (34, y34), (35, y35), (45, y45), (46, y46), (47, y47), (48, y48), (49, y49), (57, y57), (82, y82), (85, y85)] := fun y0 y1 y2 y4 y6 y10 y30 y32 y33 y34 y35 y45 y46 y47 y48 y49 y57 y82 y85 z0 => rfl
                  refine R_nil (tr _ _ _ _ _ _ _ _ _ _ _ _ _ _ _ _ _ _ _ _) ?_; clear tr
                  refine then_n ?_
                  refine at_ret rfl ?_
                  refine then_r ?_
                  refine fpure ?_
                  refine ⟨?_, rfl⟩
                  rw [checkS, if_neg (by omega), if_neg (by omega), if_neg (by omega), if_neg (fun hh => hh h0), if_pos (by unfold paramBad; omega)]
                · try simp only [decide_eq_true_eq, decide_eq_false_iff_not, Bool.not_eq_true', Bool.not_eq_false', beq_iff_eq, beq_eq_false_iff_ne, ne_eq] at h12
                  refine Qy ?_
                  refine Qq ?_
                  refine Qy ?_
                  refine Qq ?_
                  refine Qy ?_
                  refine Qq ?_
                  refine Qy ?_
                  refine Qq ?_
                  refine Qy ?_
                  refine Qq ?_
                  refine Qy ?_
                  refine Qq ?_
                  refine Qy ?_
                  refine Qq ?_
                  refine Qy ?_
                  refine Qq ?_
                  refine Qq ?_
                  refine Q_nil ?_
                  have tr : ∀ y0 y1 y2 y4 y6 y10 y30 y32 y33 y34 y35 y45 y46 y47 y48 y49 y57 y82 y85 z0 z1 z2 z3 z4 z5 z6 z7 z8 z9 z10 z11 z12 z13 z14 z15 z16 z17 z18 z19 z20 z21 z22 : AV, trim [(82, z22), (81, z21), (80, z20), (79, z19), (78, z18), (77, z17), (76, z16), (75, z15), (74, z14), (73, z13), (72, z12), (71, z11), (70, z10), (69, z9), (68, z8), (67, z7), (66, z6), (65, z5), (64, z4), (63, z3), (62, z2), (61, z1), (60, z0), (0, y0), (1, y1), (2, y2), (4, y4), (6, y6), (10, y10), (30, y30), (32, y32), (33, y33), (34, y34), (35, y35), (45, y45), (46, y46), (47, y47), (48, y48), (49, y49), (57, y57), (82, y82), (85, y85)] [(0, y0), (1, y1), (2, y2), (4, y4), (6, y6), (10, y10), (30, y30), (32, y32), (33, y33), (34, y34), (35, y35), (45, y45), (46, y46), (47, y47), (48, y48), (49, y49), (57, y57), (82, y82), (85, y85)] = [(0, y0), (1, y1), (2, y2), (4, y4), (6, y6), (10, y10), (30, y30), (32, y32), (33, y33), (34, y34), (35, y35), (45, y45), (46, y46), (47, y47), (48, y48), (49, y49), (57, y57), (82, z22), (85, y85)] := fun y0 y1 y2 y4 y6 y10 y30 y32 y33 y34 y35 y45 y46 y47 y48 y49 y57 y82 y85 z0 z1 z2 z3 z4 z5 z6 z7 z8 z9 z10 z11 z12 z13 z14 z15 z16 z17 z18 z19 z20 z21 z22 => rfl
                  refine R_nil (tr _ _ _ _ _ _ _ _ _ _ _ _ _ _ _ _ _ _ _ _ _ _ _ _ _ _ _ _ _ _ _ _ _ _ _ _ _ _ _ _ _ _) ?_; clear tr
                  refine then_n ?_
                  refine cdd (fun h13 => ?_) (fun h13 => ?_)
                  · try simp only [decide_eq_true_eq, decide_eq_false_iff_not, Bool.not_eq_true', Bool.not_eq_false', beq_iff_eq, beq_eq_false_iff_ne, ne_eq] at h13
                    refine at_seq rfl ?_
                    refine rg rfl ?_
                    refine Rq ?_
                    have tr : ∀ y0 y1 y2 y4 y6 y10 y30 y32 y33 y34 y35 y45 y46 y47 y48 y49 y57 y82 y85 z0 : AV, trim [(2, z0), (0, y0), (1, y1), (2, y2), (4, y4), (6, y6), (10, y10), (30, y30), (32, y32), (33, y33), (34, y34), (35, y35), (45, y45), (46, y46), (47, y47), (48, y48), (49, y49), (57, y57), (82, y82), (85, y85)] [(0, y0), (1, y1), (2, y2), (4, y4), (6, y6), (10, y10), (30, y30), (32, y32), (33, y33), (34, y34), (35, y35), (45, y45), (46, y46), (47, y47), (48, y48), (49, y49), (57, y57), (82, y82), (85, y85)] = [(0, y0), (1, y1), (2, z0), (4, y4), (6, y6), (10, y10), (30, y30), (32, y32), (33, y33), (34, y34), (35, y35), (45, y45), (46, y46), (47, y47), (48, y48), (49, y49), (57, y57), (82, y82), (85, y85)] := fun y0 y1 y2 y4 y6 y10 y30 y32 y33 y34 y35 y45 y46 y47 y48 y49 y57 y82 y85 z0 => rfl
                    refine R_nil (tr _ _ _ _ _ _ _ _ _ _ _ _ _ _ _ _ _ _ _ _) ?_; clear tr
                    refine then_n ?_
                    refine at_ret rfl ?_
                    refine then_r ?_
                    refine fpure ?_
                    refine ⟨?_, rfl⟩
                    rw [checkS, if_neg (by omega), if_neg (by omega), if_neg (by omega), if_neg (fun hh => hh h0), if_pos (by unfold paramBad; omega)]
                  · try simp only [decide_eq_true_eq, decide_eq_false_iff_not, Bool.not_eq_true', Bool.not_eq_false', beq_iff_eq, beq_eq_false_iff_ne, ne_eq] at h13
                    refine at_skip rfl ?_
                    refine then_n ?_
                    refine at_seq rfl ?_
                    refine at_seq rfl ?_
                    refine rg rfl ?_
                    refine Rq ?_
                    refine Rcall ?_
                    refine ACall_eq (size_ok _ _ rows q la (by omega) (by omega) (by omega) (by omega) (by omega)) ?_
                    refine Rq ?_
                    have tr : ∀ y0 y1 y2 y4 y6 y10 y30 y32 y33 y34 y35 y45 y46 y47 y48 y49 y57 y82 y85 z0 z1 z2 : AV, trim [(85, z2), (84, z1), (83, z0), (0, y0), (1, y1), (2, y2), (4, y4), (6, y6), (10, y10), (30, y30), (32, y32), (33, y33), (34, y34), (35, y35), (45, y45), (46, y46), (47, y47), (48, y48), (49, y49), (57, y57), (82, y82), (85, y85)] [(0, y0), (1, y1), (2, y2), (4, y4), (6, y6), (10, y10), (30, y30), (32, y32), (33, y33), (34, y34), (35, y35), (45, y45), (46, y46), (47, y47), (48, y48), (49, y49), (57, y57), (82, y82), (85, y85)] = [(0, y0), (1, y1), (2, y2), (4, y4), (6, y6), (10, y10), (30, y30), (32, y32), (33, y33), (34, y34), (35, y35), (45, y45), (46, y46), (47, y47), (48, y48), (49, y49), (57, y57), (82, y82), (85, z2)] := fun y0 y1 y2 y4 y6 y10 y30 y32 y33 y34 y35 y45 y46 y47 y48 y49 y57 y82 y85 z0 z1 z2 => rfl
                    refine R_nil (tr _ _ _ _ _ _ _ _ _ _ _ _ _ _ _ _ _ _ _ _ _ _) ?_; clear tr
                    refine then_n ?_
                    refine cdd (fun h14 => ?_) (fun h14 => ?_)
                    · try simp only [decide_eq_true_eq, decide_eq_false_iff_not, Bool.not_eq_true', Bool.not_eq_false', beq_iff_eq, beq_eq_false_iff_ne, ne_eq] at h14
                      refine at_seq rfl ?_
                      refine rg rfl ?_
                      refine Rq ?_
                      have tr : ∀ y0 y1 y2 y4 y6 y10 y30 y32 y33 y34 y35 y45 y46 y47 y48 y49 y57 y82 y85 z0 : AV, trim [(2, z0), (0, y0), (1, y1), (2, y2), (4, y4), (6, y6), (10, y10), (30, y30), (32, y32), (33, y33), (34, y34), (35, y35), (45, y45), (46, y46), (47, y47), (48, y48), (49, y49), (57, y57), (82, y82), (85, y85)] [(0, y0), (1, y1), (2, y2), (4, y4), (6, y6), (10, y10), (30, y30), (32, y32), (33, y33), (34, y34), (35, y35), (45, y45), (46, y46), (47, y47), (48, y48), (49, y49), (57, y57), (82, y82), (85, y85)] = [(0, y0), (1, y1), (2, z0), (4, y4), (6, y6), (10, y10), (30, y30), (32, y32), (33, y33), (34, y34), (35, y35), (45, y45), (46, y46), (47, y47), (48, y48), (49, y49), (57, y57), (82, y82), (85, y85)] := fun y0 y1 y2 y4 y6 y10 y30 y32 y33 y34 y35 y45 y46 y47 y48 y49 y57 y82 y85 z0 => rfl
                      refine R_nil (tr _ _ _ _ _ _ _ _ _ _ _ _ _ _ _ _ _ _ _ _) ?_; clear tr
                      refine then_n ?_
                      refine at_ret rfl ?_
                      refine then_r ?_
                      refine fpure ?_
                      refine ⟨?_, rfl⟩
                      rw [checkS, if_neg (by omega), if_neg (by omega), if_neg (by omega), if_neg (fun hh => hh h0), if_neg (by unfold paramBad; omega), if_pos ((sz_zero (by omega)).1 (by assumption))]
                    · try simp only [decide_eq_true_eq, decide_eq_false_iff_not, Bool.not_eq_true', Bool.not_eq_false', beq_iff_eq, beq_eq_false_iff_ne, ne_eq] at h14
                      refine at_skip rfl ?_
                      refine then_n ?_
                      refine at_seq rfl ?_
                      refine rg rfl ?_
                      refine Rq ?_
                      have tr : ∀ y0 y1 y2 y4 y6 y10 y30 y32 y33 y34 y35 y45 y46 y47 y48 y49 y57 y82 y85 z0 : AV, trim [(2, z0), (0, y0), (1, y1), (2, y2), (4, y4), (6, y6), (10, y10), (30, y30), (32, y32), (33, y33), (34, y34), (35, y35), (45, y45), (46, y46), (47, y47), (48, y48), (49, y49), (57, y57), (82, y82), (85, y85)] [(0, y0), (1, y1), (2, y2), (4, y4), (6, y6), (10, y10), (30, y30), (32, y32), (33, y33), (34, y34), (35, y35), (45, y45), (46, y46), (47, y47), (48, y48), (49, y49), (57, y57), (82, y82), (85, y85)] = [(0, y0), (1, y1), (2, z0), (4, y4), (6, y6), (10, y10), (30, y30), (32, y32), (33, y33), (34, y34), (35, y35), (45, y45), (46, y46), (47, y47), (48, y48), (49, y49), (57, y57), (82, y82), (85, y85)] := fun y0 y1 y2 y4 y6 y10 y30 y32 y33 y34 y35 y45 y46 y47 y48 y49 y57 y82 y85 z0 => rfl
                      refine R_nil (tr _ _ _ _ _ _ _ _ _ _ _ _ _ _ _ _ _ _ _ _) ?_; clear tr
                      refine then_n ?_
                      refine at_ret rfl ?_
                      refine fpure ?_
                      refine ⟨?_, rfl⟩
                      rw [checkS, if_neg (by omega), if_neg (by omega), if_neg (by omega), if_neg (fun hh => hh h0), if_neg (by unfold paramBad; omega), if_neg (fun hh => absurd ((sz_zero (by omega)).2 hh) (by assumption))]

end Go.Proofs.Ytmkalakojfpfgaa
