/-
  Walks of chapters 52 and 53. The steps are written by program (walk.py).
-/
import Derived.Test.YtdicnojnkbmdlaaSK
import Derived.Test.YtdicnojnkbmdlaaSL
import Derived.Test.YtdicnojnkbmdlaaS4
import Derived.Test.YtdicnojnkbmdlaaSB
set_option linter.unusedSimpArgs false
set_option linter.unusedVariables false
set_option maxHeartbeats 40000000
set_option maxRecDepth 4000
namespace Go.Proofs.Ytdicnojnkbmdlaa
open Go Go.Am

theorem rchecks_ok (P : List Int) (L : List Pr) (t : Int) (R : List Int) : ACall sig 0 10 [.agg (raceC P L), AV.i t, intsAV R] [] fun r _ => r = .v (.bool true) := by
  refine ACall_pure (fa := fa10) rfl rfl rfl rfl ?_
  have tr : ∀ a0 a1 a2 : AV, env0 fa10.keep [a0, a1, a2] = [(0, a0), (1, a1), (2, a2), (3, .any), (6, .any), (7, .any), (8, .any), (9, .any), (10, .any), (11, .any), (12, .any), (13, .any), (14, .any), (15, .any), (16, .any), (17, .any), (18, .any), (19, .any), (20, .any), (22, .any), (30, .any)] := fun a0 a1 a2 => rfl
  refine W_to (tr _ _ _) ?_; clear tr
  refine at_seq rfl ?_
  refine rg rfl ?_
  refine R_box rfl (by simp (disch := first | omega | (simp only [List.length_map, List.length_append, List.length_set, List.length_cons, List.length_nil, List.length_take, List.length_drop]; omega)) only [go_sem, ↓reduceIte, Nat.reduceEqDiff, reduceCtorEq]; rfl) rfl rfl ?_
  refine Rq ?_
  have tr : ∀ y0 y1 y2 y3 y6 y7 y8 y9 y10 y11 y12 y13 y14 y15 y16 y17 y18 y19 y20 y22 y30 z0 z1 : AV, trim [(6, z1), (3, z0), (0, y0), (1, y1), (2, y2), (3, y3), (6, y6), (7, y7), (8, y8), (9, y9), (10, y10), (11, y11), (12, y12), (13, y13), (14, y14), (15, y15), (16, y16), (17, y17), (18, y18), (19, y19), (20, y20), (22, y22), (30, y30)] [(0, y0), (1, y1), (2, y2), (3, y3), (6, y6), (7, y7), (8, y8), (9, y9), (10, y10), (11, y11), (12, y12), (13, y13), (14, y14), (15, y15), (16, y16), (17, y17), (18, y18), (19, y19), (20, y20), (22, y22), (30, y30)] = [(0, y0), (1, y1), (2, y2), (3, z0), (6, z1), (7, y7), (8, y8), (9, y9), (10, y10), (11, y11), (12, y12), (13, y13), (14, y14), (15, y15), (16, y16), (17, y17), (18, y18), (19, y19), (20, y20), (22, y22), (30, y30)] := fun y0 y1 y2 y3 y6 y7 y8 y9 y10 y11 y12 y13 y14 y15 y16 y17 y18 y19 y20 y22 y30 z0 z1 => rfl
  refine R_nil (tr _ _ _ _ _ _ _ _ _ _ _ _ _ _ _ _ _ _ _ _ _ _ _) ?_; clear tr
  refine then_n ?_
  refine at_seq rfl ?_
  refine at_seq rfl ?_
  refine rg rfl ?_
  refine Rcall ?_
  refine ACall_eval 400 (awake53_ok _ _) ?_
  refine Rq ?_
  have tr : ∀ y0 y1 y2 y3 y6 y7 y8 y9 y10 y11 y12 y13 y14 y15 y16 y17 y18 y19 y20 y22 y30 z0 z1 : AV, trim [(22, z1), (21, z0), (0, y0), (1, y1), (2, y2), (3, y3), (6, y6), (7, y7), (8, y8), (9, y9), (10, y10), (11, y11), (12, y12), (13, y13), (14, y14), (15, y15), (16, y16), (17, y17), (18, y18), (19, y19), (20, y20), (22, y22), (30, y30)] [(0, y0), (1, y1), (2, y2), (3, y3), (6, y6), (7, y7), (8, y8), (9, y9), (10, y10), (11, y11), (12, y12), (13, y13), (14, y14), (15, y15), (16, y16), (17, y17), (18, y18), (19, y19), (20, y20), (22, y22), (30, y30)] = [(0, y0), (1, y1), (2, y2), (3, y3), (6, y6), (7, y7), (8, y8), (9, y9), (10, y10), (11, y11), (12, y12), (13, y13), (14, y14), (15, y15), (16, y16), (17, y17), (18, y18), (19, y19), (20, y20), (22, z1), (30, y30)] := fun y0 y1 y2 y3 y6 y7 y8 y9 y10 y11 y12 y13 y14 y15 y16 y17 y18 y19 y20 y22 y30 z0 z1 => rfl
  refine R_nil (tr _ _ _ _ _ _ _ _ _ _ _ _ _ _ _ _ _ _ _ _ _ _ _) ?_; clear tr
  refine then_n ?_
  refine cdf ?_
  refine at_skip rfl ?_
  refine then_n ?_
  refine at_seq rfl ?_
  refine at_seq rfl ?_
  refine rg rfl ?_
  refine Rq ?_
  refine Rcall ?_
  refine ACall_eq (small53_ok _ _ P L) ?_
  refine Rq ?_
  refine Rq ?_
  refine Rp_split (fun h1 => ?_) (fun h1 => ?_)
  · try simp only [decide_eq_true_eq, decide_eq_false_iff_not, Bool.not_eq_true', Bool.not_eq_false', beq_iff_eq, beq_eq_false_iff_ne, ne_eq] at h1
    refine Rn ?_
    refine Rn ?_
    refine Rn ?_
    refine Rq ?_
    have tr : ∀ y0 y1 y2 y3 y6 y7 y8 y9 y10 y11 y12 y13 y14 y15 y16 y17 y18 y19 y20 y22 y30 z0 z1 z2 z3 z4 z5 z6 z7 : AV, trim [(30, z7), (29, z6), (28, z5), (27, z4), (26, z3), (25, z2), (24, z1), (23, z0), (0, y0), (1, y1), (2, y2), (3, y3), (6, y6), (7, y7), (8, y8), (9, y9), (10, y10), (11, y11), (12, y12), (13, y13), (14, y14), (15, y15), (16, y16), (17, y17), (18, y18), (19, y19), (20, y20), (22, y22), (30, y30)] [(0, y0), (1, y1), (2, y2), (3, y3), (6, y6), (7, y7), (8, y8), (9, y9), (10, y10), (11, y11), (12, y12), (13, y13), (14, y14), (15, y15), (16, y16), (17, y17), (18, y18), (19, y19), (20, y20), (22, y22), (30, y30)] = [(0, y0), (1, y1), (2, y2), (3, y3), (6, y6), (7, y7), (8, y8), (9, y9), (10, y10), (11, y11), (12, y12), (13, y13), (14, y14), (15, y15), (16, y16), (17, y17), (18, y18), (19, y19), (20, y20), (22, y22), (30, z7)] := fun y0 y1 y2 y3 y6 y7 y8 y9 y10 y11 y12 y13 y14 y15 y16 y17 y18 y19 y20 y22 y30 z0 z1 z2 z3 z4 z5 z6 z7 => rfl
    refine R_nil (tr _ _ _ _ _ _ _ _ _ _ _ _ _ _ _ _ _ _ _ _ _ _ _ _ _ _ _ _ _) ?_; clear tr
    refine then_n ?_
    refine cdt ?_
    refine at_seq rfl ?_
    refine rg rfl ?_
    refine Rq ?_
    have tr : ∀ y0 y1 y2 y3 y6 y7 y8 y9 y10 y11 y12 y13 y14 y15 y16 y17 y18 y19 y20 y22 y30 z0 : AV, trim [(6, z0), (0, y0), (1, y1), (2, y2), (3, y3), (6, y6), (7, y7), (8, y8), (9, y9), (10, y10), (11, y11), (12, y12), (13, y13), (14, y14), (15, y15), (16, y16), (17, y17), (18, y18), (19, y19), (20, y20), (22, y22), (30, y30)] [(0, y0), (1, y1), (2, y2), (3, y3), (6, y6), (7, y7), (8, y8), (9, y9), (10, y10), (11, y11), (12, y12), (13, y13), (14, y14), (15, y15), (16, y16), (17, y17), (18, y18), (19, y19), (20, y20), (22, y22), (30, y30)] = [(0, y0), (1, y1), (2, y2), (3, y3), (6, z0), (7, y7), (8, y8), (9, y9), (10, y10), (11, y11), (12, y12), (13, y13), (14, y14), (15, y15), (16, y16), (17, y17), (18, y18), (19, y19), (20, y20), (22, y22), (30, y30)] := fun y0 y1 y2 y3 y6 y7 y8 y9 y10 y11 y12 y13 y14 y15 y16 y17 y18 y19 y20 y22 y30 z0 => rfl
    refine R_nil (tr _ _ _ _ _ _ _ _ _ _ _ _ _ _ _ _ _ _ _ _ _ _) ?_; clear tr
    refine then_n ?_
    refine at_ret rfl ?_
    refine then_r ?_
    refine fpure ?_
    first | rfl | simp
  · try simp only [decide_eq_true_eq, decide_eq_false_iff_not, Bool.not_eq_true', Bool.not_eq_false', beq_iff_eq, beq_eq_false_iff_ne, ne_eq] at h1
    refine Ry ?_
    refine Rq ?_
    refine Ry ?_
    refine Rq ?_
    refine Ry ?_
    refine Rq ?_
    refine Rq ?_
    have tr : ∀ y0 y1 y2 y3 y6 y7 y8 y9 y10 y11 y12 y13 y14 y15 y16 y17 y18 y19 y20 y22 y30 z0 z1 z2 z3 z4 z5 z6 z7 : AV, trim [(30, z7), (29, z6), (28, z5), (27, z4), (26, z3), (25, z2), (24, z1), (23, z0), (0, y0), (1, y1), (2, y2), (3, y3), (6, y6), (7, y7), (8, y8), (9, y9), (10, y10), (11, y11), (12, y12), (13, y13), (14, y14), (15, y15), (16, y16), (17, y17), (18, y18), (19, y19), (20, y20), (22, y22), (30, y30)] [(0, y0), (1, y1), (2, y2), (3, y3), (6, y6), (7, y7), (8, y8), (9, y9), (10, y10), (11, y11), (12, y12), (13, y13), (14, y14), (15, y15), (16, y16), (17, y17), (18, y18), (19, y19), (20, y20), (22, y22), (30, y30)] = [(0, y0), (1, y1), (2, y2), (3, y3), (6, y6), (7, y7), (8, y8), (9, y9), (10, y10), (11, y11), (12, y12), (13, y13), (14, y14), (15, y15), (16, y16), (17, y17), (18, y18), (19, y19), (20, y20), (22, y22), (30, z7)] := fun y0 y1 y2 y3 y6 y7 y8 y9 y10 y11 y12 y13 y14 y15 y16 y17 y18 y19 y20 y22 y30 z0 z1 z2 z3 z4 z5 z6 z7 => rfl
    refine R_nil (tr _ _ _ _ _ _ _ _ _ _ _ _ _ _ _ _ _ _ _ _ _ _ _ _ _ _ _ _ _) ?_; clear tr
    refine then_n ?_
    refine cdd (fun h2 => ?_) (fun h2 => ?_)
    · try simp only [decide_eq_true_eq, decide_eq_false_iff_not, Bool.not_eq_true', Bool.not_eq_false', beq_iff_eq, beq_eq_false_iff_ne, ne_eq] at h2
      refine at_seq rfl ?_
      refine rg rfl ?_
      refine Rq ?_
      have tr : ∀ y0 y1 y2 y3 y6 y7 y8 y9 y10 y11 y12 y13 y14 y15 y16 y17 y18 y19 y20 y22 y30 z0 : AV, trim [(6, z0), (0, y0), (1, y1), (2, y2), (3, y3), (6, y6), (7, y7), (8, y8), (9, y9), (10, y10), (11, y11), (12, y12), (13, y13), (14, y14), (15, y15), (16, y16), (17, y17), (18, y18), (19, y19), (20, y20), (22, y22), (30, y30)] [(0, y0), (1, y1), (2, y2), (3, y3), (6, y6), (7, y7), (8, y8), (9, y9), (10, y10), (11, y11), (12, y12), (13, y13), (14, y14), (15, y15), (16, y16), (17, y17), (18, y18), (19, y19), (20, y20), (22, y22), (30, y30)] = [(0, y0), (1, y1), (2, y2), (3, y3), (6, z0), (7, y7), (8, y8), (9, y9), (10, y10), (11, y11), (12, y12), (13, y13), (14, y14), (15, y15), (16, y16), (17, y17), (18, y18), (19, y19), (20, y20), (22, y22), (30, y30)] := fun y0 y1 y2 y3 y6 y7 y8 y9 y10 y11 y12 y13 y14 y15 y16 y17 y18 y19 y20 y22 y30 z0 => rfl
      refine R_nil (tr _ _ _ _ _ _ _ _ _ _ _ _ _ _ _ _ _ _ _ _ _ _) ?_; clear tr
      refine then_n ?_
      refine at_ret rfl ?_
      refine then_r ?_
      refine fpure ?_
      first | rfl | simp
    · try simp only [decide_eq_true_eq, decide_eq_false_iff_not, Bool.not_eq_true', Bool.not_eq_false', beq_iff_eq, beq_eq_false_iff_ne, ne_eq] at h2
      refine at_skip rfl ?_
      refine then_n ?_
      refine at_seq rfl ?_
      refine rg rfl ?_
      refine Rq ?_
      refine Rq ?_
      refine Rcall ?_
      refine ACall_eq (mst_ok _ _ P L t) ?_
      refine Rq ?_
      refine Rq ?_
      refine Rq ?_
      refine Rq ?_
      refine Rq ?_
      have tr : ∀ y0 y1 y2 y3 y6 y7 y8 y9 y10 y11 y12 y13 y14 y15 y16 y17 y18 y19 y20 y22 y30 z0 z1 z2 z3 z4 z5 z6 z7 : AV, trim [(8, z7), (7, z6), (36, z5), (35, z4), (31, z3), (34, z2), (33, z1), (32, z0), (0, y0), (1, y1), (2, y2), (3, y3), (6, y6), (7, y7), (8, y8), (9, y9), (10, y10), (11, y11), (12, y12), (13, y13), (14, y14), (15, y15), (16, y16), (17, y17), (18, y18), (19, y19), (20, y20), (22, y22), (30, y30)] [(0, y0), (1, y1), (2, y2), (3, y3), (6, y6), (7, y7), (8, y8), (9, y9), (10, y10), (11, y11), (12, y12), (13, y13), (14, y14), (15, y15), (16, y16), (17, y17), (18, y18), (19, y19), (20, y20), (22, y22), (30, y30)] = [(0, y0), (1, y1), (2, y2), (3, y3), (6, y6), (7, z6), (8, z7), (9, y9), (10, y10), (11, y11), (12, y12), (13, y13), (14, y14), (15, y15), (16, y16), (17, y17), (18, y18), (19, y19), (20, y20), (22, y22), (30, y30)] := fun y0 y1 y2 y3 y6 y7 y8 y9 y10 y11 y12 y13 y14 y15 y16 y17 y18 y19 y20 y22 y30 z0 z1 z2 z3 z4 z5 z6 z7 => rfl
      refine R_nil (tr _ _ _ _ _ _ _ _ _ _ _ _ _ _ _ _ _ _ _ _ _ _ _ _ _ _ _ _ _) ?_; clear tr
      refine then_n ?_
      refine at_seq rfl ?_
      refine rg rfl ?_
      refine Rq ?_
      refine Rq ?_
      refine Rcall ?_
      refine ACall_eq (rmst_ok _ _ P L t) ?_
      refine Rq ?_
      refine Rq ?_
      refine Rq ?_
      refine Rq ?_
      refine Rq ?_
      have tr : ∀ y0 y1 y2 y3 y6 y7 y8 y9 y10 y11 y12 y13 y14 y15 y16 y17 y18 y19 y20 y22 y30 z0 z1 z2 z3 z4 z5 z6 z7 : AV, trim [(10, z7), (9, z6), (42, z5), (41, z4), (37, z3), (40, z2), (39, z1), (38, z0), (0, y0), (1, y1), (2, y2), (3, y3), (6, y6), (7, y7), (8, y8), (9, y9), (10, y10), (11, y11), (12, y12), (13, y13), (14, y14), (15, y15), (16, y16), (17, y17), (18, y18), (19, y19), (20, y20), (22, y22), (30, y30)] [(0, y0), (1, y1), (2, y2), (3, y3), (6, y6), (7, y7), (8, y8), (9, y9), (10, y10), (11, y11), (12, y12), (13, y13), (14, y14), (15, y15), (16, y16), (17, y17), (18, y18), (19, y19), (20, y20), (22, y22), (30, y30)] = [(0, y0), (1, y1), (2, y2), (3, y3), (6, y6), (7, y7), (8, y8), (9, z6), (10, z7), (11, y11), (12, y12), (13, y13), (14, y14), (15, y15), (16, y16), (17, y17), (18, y18), (19, y19), (20, y20), (22, y22), (30, y30)] := fun y0 y1 y2 y3 y6 y7 y8 y9 y10 y11 y12 y13 y14 y15 y16 y17 y18 y19 y20 y22 y30 z0 z1 z2 z3 z4 z5 z6 z7 => rfl
      refine R_nil (tr _ _ _ _ _ _ _ _ _ _ _ _ _ _ _ _ _ _ _ _ _ _ _ _ _ _ _ _ _) ?_; clear tr
      refine then_n ?_
      refine at_seq rfl ?_
      refine rg rfl ?_
      refine Rq ?_
      refine Rq ?_
      refine Rcall ?_
      refine ACall_eq (ply_ok _ _ P L R (by omega)) ?_
      refine Rq ?_
      refine Rq ?_
      refine Rq ?_
      refine Rq ?_
      refine Rq ?_
      have tr : ∀ y0 y1 y2 y3 y6 y7 y8 y9 y10 y11 y12 y13 y14 y15 y16 y17 y18 y19 y20 y22 y30 z0 z1 z2 z3 z4 z5 z6 z7 : AV, trim [(12, z7), (11, z6), (48, z5), (47, z4), (43, z3), (46, z2), (45, z1), (44, z0), (0, y0), (1, y1), (2, y2), (3, y3), (6, y6), (7, y7), (8, y8), (9, y9), (10, y10), (11, y11), (12, y12), (13, y13), (14, y14), (15, y15), (16, y16), (17, y17), (18, y18), (19, y19), (20, y20), (22, y22), (30, y30)] [(0, y0), (1, y1), (2, y2), (3, y3), (6, y6), (7, y7), (8, y8), (9, y9), (10, y10), (11, y11), (12, y12), (13, y13), (14, y14), (15, y15), (16, y16), (17, y17), (18, y18), (19, y19), (20, y20), (22, y22), (30, y30)] = [(0, y0), (1, y1), (2, y2), (3, y3), (6, y6), (7, y7), (8, y8), (9, y9), (10, y10), (11, z6), (12, z7), (13, y13), (14, y14), (15, y15), (16, y16), (17, y17), (18, y18), (19, y19), (20, y20), (22, y22), (30, y30)] := fun y0 y1 y2 y3 y6 y7 y8 y9 y10 y11 y12 y13 y14 y15 y16 y17 y18 y19 y20 y22 y30 z0 z1 z2 z3 z4 z5 z6 z7 => rfl
      refine R_nil (tr _ _ _ _ _ _ _ _ _ _ _ _ _ _ _ _ _ _ _ _ _ _ _ _ _ _ _ _ _) ?_; clear tr
      refine then_n ?_
      refine at_seq rfl ?_
      refine rg rfl ?_
      refine Rq ?_
      refine Rq ?_
      refine Rcall ?_
      refine ACall_eq (rply_ok _ _ P L R (by omega)) ?_
      refine Rq ?_
      refine Rq ?_
      refine Rq ?_
      refine Rq ?_
      refine Rq ?_
      have tr : ∀ y0 y1 y2 y3 y6 y7 y8 y9 y10 y11 y12 y13 y14 y15 y16 y17 y18 y19 y20 y22 y30 z0 z1 z2 z3 z4 z5 z6 z7 : AV, trim [(14, z7), (13, z6), (54, z5), (53, z4), (49, z3), (52, z2), (51, z1), (50, z0), (0, y0), (1, y1), (2, y2), (3, y3), (6, y6), (7, y7), (8, y8), (9, y9), (10, y10), (11, y11), (12, y12), (13, y13), (14, y14), (15, y15), (16, y16), (17, y17), (18, y18), (19, y19), (20, y20), (22, y22), (30, y30)] [(0, y0), (1, y1), (2, y2), (3, y3), (6, y6), (7, y7), (8, y8), (9, y9), (10, y10), (11, y11), (12, y12), (13, y13), (14, y14), (15, y15), (16, y16), (17, y17), (18, y18), (19, y19), (20, y20), (22, y22), (30, y30)] = [(0, y0), (1, y1), (2, y2), (3, y3), (6, y6), (7, y7), (8, y8), (9, y9), (10, y10), (11, y11), (12, y12), (13, z6), (14, z7), (15, y15), (16, y16), (17, y17), (18, y18), (19, y19), (20, y20), (22, y22), (30, y30)] := fun y0 y1 y2 y3 y6 y7 y8 y9 y10 y11 y12 y13 y14 y15 y16 y17 y18 y19 y20 y22 y30 z0 z1 z2 z3 z4 z5 z6 z7 => rfl
      refine R_nil (tr _ _ _ _ _ _ _ _ _ _ _ _ _ _ _ _ _ _ _ _ _ _ _ _ _ _ _ _ _) ?_; clear tr
      refine then_n ?_
      refine at_seq rfl ?_
      refine rg rfl ?_
      refine Rq ?_
      refine Rq ?_
      refine Rcall ?_
      refine ACall_eq (thr_ok _ _ P L t) ?_
      refine Rq ?_
      refine Rq ?_
      refine Rq ?_
      refine Rq ?_
      refine Rq ?_
      refine Rq ?_
      refine Rq ?_
      have tr : ∀ y0 y1 y2 y3 y6 y7 y8 y9 y10 y11 y12 y13 y14 y15 y16 y17 y18 y19 y20 y22 y30 z0 z1 z2 z3 z4 z5 z6 z7 z8 z9 : AV, trim [(17, z9), (16, z8), (15, z7), (61, z6), (60, z5), (59, z4), (55, z3), (58, z2), (57, z1), (56, z0), (0, y0), (1, y1), (2, y2), (3, y3), (6, y6), (7, y7), (8, y8), (9, y9), (10, y10), (11, y11), (12, y12), (13, y13), (14, y14), (15, y15), (16, y16), (17, y17), (18, y18), (19, y19), (20, y20), (22, y22), (30, y30)] [(0, y0), (1, y1), (2, y2), (3, y3), (6, y6), (7, y7), (8, y8), (9, y9), (10, y10), (11, y11), (12, y12), (13, y13), (14, y14), (15, y15), (16, y16), (17, y17), (18, y18), (19, y19), (20, y20), (22, y22), (30, y30)] = [(0, y0), (1, y1), (2, y2), (3, y3), (6, y6), (7, y7), (8, y8), (9, y9), (10, y10), (11, y11), (12, y12), (13, y13), (14, y14), (15, z7), (16, z8), (17, z9), (18, y18), (19, y19), (20, y20), (22, y22), (30, y30)] := fun y0 y1 y2 y3 y6 y7 y8 y9 y10 y11 y12 y13 y14 y15 y16 y17 y18 y19 y20 y22 y30 z0 z1 z2 z3 z4 z5 z6 z7 z8 z9 => rfl
      refine R_nil (tr _ _ _ _ _ _ _ _ _ _ _ _ _ _ _ _ _ _ _ _ _ _ _ _ _ _ _ _ _ _ _) ?_; clear tr
      refine then_n ?_
      refine at_seq rfl ?_
      refine rg rfl ?_
      refine Rq ?_
      refine Rq ?_
      refine Rcall ?_
      refine ACall_eq (rthr_ok _ _ P L t) ?_
      refine Rq ?_
      refine Rq ?_
      refine Rq ?_
      refine Rq ?_
      refine Rq ?_
      refine Rq ?_
      refine Rq ?_
      have tr : ∀ y0 y1 y2 y3 y6 y7 y8 y9 y10 y11 y12 y13 y14 y15 y16 y17 y18 y19 y20 y22 y30 z0 z1 z2 z3 z4 z5 z6 z7 z8 z9 : AV, trim [(20, z9), (19, z8), (18, z7), (68, z6), (67, z5), (66, z4), (62, z3), (65, z2), (64, z1), (63, z0), (0, y0), (1, y1), (2, y2), (3, y3), (6, y6), (7, y7), (8, y8), (9, y9), (10, y10), (11, y11), (12, y12), (13, y13), (14, y14), (15, y15), (16, y16), (17, y17), (18, y18), (19, y19), (20, y20), (22, y22), (30, y30)] [(0, y0), (1, y1), (2, y2), (3, y3), (6, y6), (7, y7), (8, y8), (9, y9), (10, y10), (11, y11), (12, y12), (13, y13), (14, y14), (15, y15), (16, y16), (17, y17), (18, y18), (19, y19), (20, y20), (22, y22), (30, y30)] = [(0, y0), (1, y1), (2, y2), (3, y3), (6, y6), (7, y7), (8, y8), (9, y9), (10, y10), (11, y11), (12, y12), (13, y13), (14, y14), (15, y15), (16, y16), (17, y17), (18, z7), (19, z8), (20, z9), (22, y22), (30, y30)] := fun y0 y1 y2 y3 y6 y7 y8 y9 y10 y11 y12 y13 y14 y15 y16 y17 y18 y19 y20 y22 y30 z0 z1 z2 z3 z4 z5 z6 z7 z8 z9 => rfl
      refine R_nil (tr _ _ _ _ _ _ _ _ _ _ _ _ _ _ _ _ _ _ _ _ _ _ _ _ _ _ _ _ _ _ _) ?_; clear tr
      refine then_n ?_
      refine at_seq rfl ?_
      refine rd rfl rfl ?_
      refine Qq ?_
      refine Qcall ?_
      refine ACall_eq (chk53_ok _ _ P L) ?_
      refine ⟨rfl, ?_⟩
      refine Qq ?_
      refine Qcall ?_
      refine ACall_eq (rchk53_ok _ _ P L) ?_
      refine ⟨rfl, ?_⟩
      refine Qq ?_
      refine Qq ?_
      refine Qp_split (fun h3 => ?_) (fun h3 => ?_)
      · try simp only [decide_eq_true_eq, decide_eq_false_iff_not, Bool.not_eq_true', Bool.not_eq_false', beq_iff_eq, beq_eq_false_iff_ne, ne_eq] at h3
        refine Qy ?_
        refine Qq ?_
        refine Qy ?_
        refine Qq ?_
        refine Qy ?_
        refine Qq ?_
        refine Qq ?_
        refine Qq ?_
        refine Qp_split (fun h4 => ?_) (fun h4 => ?_)
        · try simp only [decide_eq_true_eq, decide_eq_false_iff_not, Bool.not_eq_true', Bool.not_eq_false', beq_iff_eq, beq_eq_false_iff_ne, ne_eq] at h4
          refine Qy ?_
          refine Qq ?_
          refine Qy ?_
          refine Qq ?_
          refine Qy ?_
          refine Qq ?_
          refine Qq ?_
          refine Qq ?_
          refine Qp_split (fun h5 => ?_) (fun h5 => ?_)
          · try simp only [decide_eq_true_eq, decide_eq_false_iff_not, Bool.not_eq_true', Bool.not_eq_false', beq_iff_eq, beq_eq_false_iff_ne, ne_eq] at h5
            refine Qy ?_
            refine Qq ?_
            refine Qy ?_
            refine Qq ?_
            refine Qy ?_
            refine Qcall ?_
            refine ACall_eq (ints_play _ _ P L R) ?_
            refine ⟨rfl, ?_⟩
            refine Qq ?_
            refine Qq ?_
            refine Qy ?_
            refine Qq ?_
            refine Qy ?_
            refine Qq ?_
            refine Qy ?_
            refine Qq ?_
            refine Qq ?_
            refine Qq ?_
            refine Qp_split (fun h6 => ?_) (fun h6 => ?_)
            · try simp only [decide_eq_true_eq, decide_eq_false_iff_not, Bool.not_eq_true', Bool.not_eq_false', beq_iff_eq, beq_eq_false_iff_ne, ne_eq] at h6
              refine Qy ?_
              refine Qq ?_
              refine Qy ?_
              refine Qq ?_
              refine Qy ?_
              refine Qq ?_
              refine Qq ?_
              refine Qq ?_
              refine Qp_split (fun h7 => ?_) (fun h7 => ?_)
              · try simp only [decide_eq_true_eq, decide_eq_false_iff_not, Bool.not_eq_true', Bool.not_eq_false', beq_iff_eq, beq_eq_false_iff_ne, ne_eq] at h7
                refine Qy ?_
                refine Qq ?_
                refine Qy ?_
                refine Qq ?_
                refine Qy ?_
                refine Qq ?_
                refine Qq ?_
                refine Qq ?_
                refine Qp_split (fun h8 => ?_) (fun h8 => ?_)
                · try simp only [decide_eq_true_eq, decide_eq_false_iff_not, Bool.not_eq_true', Bool.not_eq_false', beq_iff_eq, beq_eq_false_iff_ne, ne_eq] at h8
                  refine Qy ?_
                  refine Qq ?_
                  refine Qy ?_
                  refine Qq ?_
                  refine Qy ?_
                  refine Qq ?_
                  refine Qq ?_
                  refine Qq ?_
                  refine Q_nil ?_
                  have tr : ∀ y0 y1 y2 y3 y6 y7 y8 y9 y10 y11 y12 y13 y14 y15 y16 y17 y18 y19 y20 y22 y30 z0 z1 z2 z3 z4 z5 z6 z7 z8 z9 z10 z11 z12 z13 z14 z15 z16 z17 z18 z19 z20 z21 z22 z23 z24 z25 z26 z27 z28 z29 z30 z31 z32 z33 z34 z35 z36 z37 z38 z39 z40 : AV, trim [(6, z40), (108, z39), (107, z38), (106, z37), (105, z36), (104, z35), (103, z34), (102, z33), (101, z32), (100, z31), (99, z30), (98, z29), (97, z28), (96, z27), (95, z26), (94, z25), (93, z24), (92, z23), (91, z22), (90, z21), (89, z20), (88, z19), (87, z18), (86, z17), (85, z16), (84, z15), (83, z14), (82, z13), (81, z12), (80, z11), (79, z10), (78, z9), (77, z8), (76, z7), (75, z6), (74, z5), (73, z4), (72, z3), (71, z2), (70, z1), (69, z0), (0, y0), (1, y1), (2, y2), (3, y3), (6, y6), (7, y7), (8, y8), (9, y9), (10, y10), (11, y11), (12, y12), (13, y13), (14, y14), (15, y15), (16, y16), (17, y17), (18, y18), (19, y19), (20, y20), (22, y22), (30, y30)] [(0, y0), (1, y1), (2, y2), (3, y3), (6, y6), (7, y7), (8, y8), (9, y9), (10, y10), (11, y11), (12, y12), (13, y13), (14, y14), (15, y15), (16, y16), (17, y17), (18, y18), (19, y19), (20, y20), (22, y22), (30, y30)] = [(0, y0), (1, y1), (2, y2), (3, y3), (6, z40), (7, y7), (8, y8), (9, y9), (10, y10), (11, y11), (12, y12), (13, y13), (14, y14), (15, y15), (16, y16), (17, y17), (18, y18), (19, y19), (20, y20), (22, y22), (30, y30)] := fun y0 y1 y2 y3 y6 y7 y8 y9 y10 y11 y12 y13 y14 y15 y16 y17 y18 y19 y20 y22 y30 z0 z1 z2 z3 z4 z5 z6 z7 z8 z9 z10 z11 z12 z13 z14 z15 z16 z17 z18 z19 z20 z21 z22 z23 z24 z25 z26 z27 z28 z29 z30 z31 z32 z33 z34 z35 z36 z37 z38 z39 z40 => rfl
                  refine R_nil (tr _ _ _ _ _ _ _ _ _ _ _ _ _ _ _ _ _ _ _ _ _ _ _ _ _ _ _ _ _ _ _ _ _ _ _ _ _ _ _ _ _ _ _ _ _ _ _ _ _ _ _ _ _ _ _ _ _ _ _ _ _ _) ?_; clear tr
                  refine then_n ?_
                  refine at_ret rfl ?_
                  refine fpure ?_
                  first | rfl | simp
                · try simp only [decide_eq_true_eq, decide_eq_false_iff_not, Bool.not_eq_true', Bool.not_eq_false', beq_iff_eq, beq_eq_false_iff_ne, ne_eq] at h8
                  first | omega | exact absurd rfl (by assumption) | exact absurd trivial (by assumption)
              · try simp only [decide_eq_true_eq, decide_eq_false_iff_not, Bool.not_eq_true', Bool.not_eq_false', beq_iff_eq, beq_eq_false_iff_ne, ne_eq] at h7
                first | omega | exact absurd rfl (by assumption) | exact absurd trivial (by assumption)
            · try simp only [decide_eq_true_eq, decide_eq_false_iff_not, Bool.not_eq_true', Bool.not_eq_false', beq_iff_eq, beq_eq_false_iff_ne, ne_eq] at h6
              first | omega | exact absurd rfl (by assumption) | exact absurd trivial (by assumption)
          · try simp only [decide_eq_true_eq, decide_eq_false_iff_not, Bool.not_eq_true', Bool.not_eq_false', beq_iff_eq, beq_eq_false_iff_ne, ne_eq] at h5
            first | omega | exact absurd rfl (by assumption) | exact absurd trivial (by assumption)
        · try simp only [decide_eq_true_eq, decide_eq_false_iff_not, Bool.not_eq_true', Bool.not_eq_false', beq_iff_eq, beq_eq_false_iff_ne, ne_eq] at h4
          first | omega | exact absurd rfl (by assumption) | exact absurd trivial (by assumption)
      · try simp only [decide_eq_true_eq, decide_eq_false_iff_not, Bool.not_eq_true', Bool.not_eq_false', beq_iff_eq, beq_eq_false_iff_ne, ne_eq] at h3
        first | omega | exact absurd rfl (by assumption) | exact absurd trivial (by assumption)

end Go.Proofs.Ytdicnojnkbmdlaa
