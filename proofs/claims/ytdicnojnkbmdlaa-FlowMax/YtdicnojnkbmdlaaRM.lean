/-
  Walks of chapters 52 and 53. The steps are written by program (walk.py).
-/
import Derived.Test.YtdicnojnkbmdlaaQF
import Derived.Test.YtdicnojnkbmdlaaRJ
import Derived.Test.YtdicnojnkbmdlaaRK
import Derived.Test.YtdicnojnkbmdlaaSA
set_option linter.unusedSimpArgs false
set_option linter.unusedVariables false
set_option maxHeartbeats 40000000
set_option maxRecDepth 4000
namespace Go.Proofs.Ytdicnojnkbmdlaa
open Go Go.Am

theorem fmax_ok (n s t : Int) (E : List Ed) : ACall sig 0 3 [.agg (graphC n s t E)] [] fun r _ => r = .v (.bool true) := by
  obtain ⟨k, hml⟩ := maxA_len n s t E
  refine ACall_pure (fa := fa3) rfl rfl rfl rfl ?_
  have tr : ∀ a0 : AV, env0 fa3.keep [a0] = [(0, a0), (1, .any), (2, .any), (3, .any), (4, .any), (5, .any), (6, .any), (7, .any), (8, .any), (9, .any), (10, .any), (11, .any), (12, .any), (14, .any), (17, .any), (45, .any)] := fun a0 => rfl
  refine W_to (tr _) ?_; clear tr
  refine at_seq rfl ?_
  refine rg rfl ?_
  refine R_box rfl (by simp (disch := first | omega | (simp only [List.length_map, List.length_append, List.length_set, List.length_cons, List.length_nil, List.length_take, List.length_drop]; omega)) only [go_sem, ↓reduceIte, Nat.reduceEqDiff, reduceCtorEq, hml]; rfl) rfl rfl ?_
  refine Rq ?_
  have tr : ∀ y0 y1 y2 y3 y4 y5 y6 y7 y8 y9 y10 y11 y12 y14 y17 y45 z0 z1 : AV, trim [(2, z1), (1, z0), (0, y0), (1, y1), (2, y2), (3, y3), (4, y4), (5, y5), (6, y6), (7, y7), (8, y8), (9, y9), (10, y10), (11, y11), (12, y12), (14, y14), (17, y17), (45, y45)] [(0, y0), (1, y1), (2, y2), (3, y3), (4, y4), (5, y5), (6, y6), (7, y7), (8, y8), (9, y9), (10, y10), (11, y11), (12, y12), (14, y14), (17, y17), (45, y45)] = [(0, y0), (1, z0), (2, z1), (3, y3), (4, y4), (5, y5), (6, y6), (7, y7), (8, y8), (9, y9), (10, y10), (11, y11), (12, y12), (14, y14), (17, y17), (45, y45)] := fun y0 y1 y2 y3 y4 y5 y6 y7 y8 y9 y10 y11 y12 y14 y17 y45 z0 z1 => rfl
  refine R_nil (tr _ _ _ _ _ _ _ _ _ _ _ _ _ _ _ _ _ _) ?_; clear tr
  refine then_n ?_
  refine at_seq rfl ?_
  refine at_seq rfl ?_
  refine rg rfl ?_
  refine Rcall ?_
  refine ACall_eval 200 (awake_ok _ _) ?_
  refine Rq ?_
  have tr : ∀ y0 y1 y2 y3 y4 y5 y6 y7 y8 y9 y10 y11 y12 y14 y17 y45 z0 z1 : AV, trim [(14, z1), (13, z0), (0, y0), (1, y1), (2, y2), (3, y3), (4, y4), (5, y5), (6, y6), (7, y7), (8, y8), (9, y9), (10, y10), (11, y11), (12, y12), (14, y14), (17, y17), (45, y45)] [(0, y0), (1, y1), (2, y2), (3, y3), (4, y4), (5, y5), (6, y6), (7, y7), (8, y8), (9, y9), (10, y10), (11, y11), (12, y12), (14, y14), (17, y17), (45, y45)] = [(0, y0), (1, y1), (2, y2), (3, y3), (4, y4), (5, y5), (6, y6), (7, y7), (8, y8), (9, y9), (10, y10), (11, y11), (12, y12), (14, z1), (17, y17), (45, y45)] := fun y0 y1 y2 y3 y4 y5 y6 y7 y8 y9 y10 y11 y12 y14 y17 y45 z0 z1 => rfl
  refine R_nil (tr _ _ _ _ _ _ _ _ _ _ _ _ _ _ _ _ _ _) ?_; clear tr
  refine then_n ?_
  refine cdf ?_
  refine at_skip rfl ?_
  refine then_n ?_
  refine at_seq rfl ?_
  refine at_seq rfl ?_
  refine rg rfl ?_
  refine R_q rfl (by simp (disch := first | omega | (simp only [List.length_map, List.length_append, List.length_set, List.length_cons, List.length_nil, List.length_take, List.length_drop]; omega)) only [go_sem, ↓reduceIte, Nat.reduceEqDiff, reduceCtorEq, hml]; rfl) ?_
  refine Rcall ?_
  refine ACall_eq (small_ok _ _ n s t E) ?_
  refine Rq ?_
  have tr : ∀ y0 y1 y2 y3 y4 y5 y6 y7 y8 y9 y10 y11 y12 y14 y17 y45 z0 z1 z2 : AV, trim [(17, z2), (16, z1), (15, z0), (0, y0), (1, y1), (2, y2), (3, y3), (4, y4), (5, y5), (6, y6), (7, y7), (8, y8), (9, y9), (10, y10), (11, y11), (12, y12), (14, y14), (17, y17), (45, y45)] [(0, y0), (1, y1), (2, y2), (3, y3), (4, y4), (5, y5), (6, y6), (7, y7), (8, y8), (9, y9), (10, y10), (11, y11), (12, y12), (14, y14), (17, y17), (45, y45)] = [(0, y0), (1, y1), (2, y2), (3, y3), (4, y4), (5, y5), (6, y6), (7, y7), (8, y8), (9, y9), (10, y10), (11, y11), (12, y12), (14, y14), (17, z2), (45, y45)] := fun y0 y1 y2 y3 y4 y5 y6 y7 y8 y9 y10 y11 y12 y14 y17 y45 z0 z1 z2 => rfl
  refine R_nil (tr _ _ _ _ _ _ _ _ _ _ _ _ _ _ _ _ _ _ _) ?_; clear tr
  refine then_n ?_
  refine cdd (fun h1 => ?_) (fun h1 => ?_)
  · try simp only [decide_eq_true_eq, decide_eq_false_iff_not, Bool.not_eq_true', Bool.not_eq_false', beq_iff_eq, beq_eq_false_iff_ne, ne_eq] at h1
    refine at_seq rfl ?_
    refine rg rfl ?_
    refine Rq ?_
    have tr : ∀ y0 y1 y2 y3 y4 y5 y6 y7 y8 y9 y10 y11 y12 y14 y17 y45 z0 : AV, trim [(2, z0), (0, y0), (1, y1), (2, y2), (3, y3), (4, y4), (5, y5), (6, y6), (7, y7), (8, y8), (9, y9), (10, y10), (11, y11), (12, y12), (14, y14), (17, y17), (45, y45)] [(0, y0), (1, y1), (2, y2), (3, y3), (4, y4), (5, y5), (6, y6), (7, y7), (8, y8), (9, y9), (10, y10), (11, y11), (12, y12), (14, y14), (17, y17), (45, y45)] = [(0, y0), (1, y1), (2, z0), (3, y3), (4, y4), (5, y5), (6, y6), (7, y7), (8, y8), (9, y9), (10, y10), (11, y11), (12, y12), (14, y14), (17, y17), (45, y45)] := fun y0 y1 y2 y3 y4 y5 y6 y7 y8 y9 y10 y11 y12 y14 y17 y45 z0 => rfl
    refine R_nil (tr _ _ _ _ _ _ _ _ _ _ _ _ _ _ _ _ _) ?_; clear tr
    refine then_n ?_
    refine at_ret rfl ?_
    refine then_r ?_
    refine fpure ?_
    first | rfl | simp
  · try simp only [decide_eq_true_eq, decide_eq_false_iff_not, Bool.not_eq_true', Bool.not_eq_false', beq_iff_eq, beq_eq_false_iff_ne, ne_eq] at h1
    refine at_skip rfl ?_
    refine then_n ?_
    refine at_seq rfl ?_
    refine rg rfl ?_
    refine R_q rfl (by simp (disch := first | omega | (simp only [List.length_map, List.length_append, List.length_set, List.length_cons, List.length_nil, List.length_take, List.length_drop]; omega)) only [go_sem, ↓reduceIte, Nat.reduceEqDiff, reduceCtorEq, hml]; rfl) ?_
    refine Rcall ?_
    refine ACall_eq (max_ok _ _ n s t E) ?_
    refine Rq ?_
    refine Rq ?_
    refine Rq ?_
    refine Rq ?_
    refine Rq ?_
    refine Rq ?_
    refine Rq ?_
    have tr : ∀ y0 y1 y2 y3 y4 y5 y6 y7 y8 y9 y10 y11 y12 y14 y17 y45 z0 z1 z2 z3 z4 z5 z6 z7 z8 : AV, trim [(5, z8), (4, z7), (3, z6), (23, z5), (22, z4), (21, z3), (18, z2), (20, z1), (19, z0), (0, y0), (1, y1), (2, y2), (3, y3), (4, y4), (5, y5), (6, y6), (7, y7), (8, y8), (9, y9), (10, y10), (11, y11), (12, y12), (14, y14), (17, y17), (45, y45)] [(0, y0), (1, y1), (2, y2), (3, y3), (4, y4), (5, y5), (6, y6), (7, y7), (8, y8), (9, y9), (10, y10), (11, y11), (12, y12), (14, y14), (17, y17), (45, y45)] = [(0, y0), (1, y1), (2, y2), (3, z6), (4, z7), (5, z8), (6, y6), (7, y7), (8, y8), (9, y9), (10, y10), (11, y11), (12, y12), (14, y14), (17, y17), (45, y45)] := fun y0 y1 y2 y3 y4 y5 y6 y7 y8 y9 y10 y11 y12 y14 y17 y45 z0 z1 z2 z3 z4 z5 z6 z7 z8 => rfl
    refine R_nil (tr _ _ _ _ _ _ _ _ _ _ _ _ _ _ _ _ _ _ _ _ _ _ _ _ _) ?_; clear tr
    refine then_n ?_
    refine at_seq rfl ?_
    refine rg rfl ?_
    refine R_q rfl (by simp (disch := first | omega | (simp only [List.length_map, List.length_append, List.length_set, List.length_cons, List.length_nil, List.length_take, List.length_drop]; omega)) only [go_sem, ↓reduceIte, Nat.reduceEqDiff, reduceCtorEq, hml]; rfl) ?_
    refine Rcall ?_
    refine ACall_eq (rmax_ok _ _ n s t E) ?_
    refine Rq ?_
    refine Rq ?_
    refine Rq ?_
    refine Rq ?_
    refine Rq ?_
    refine Rq ?_
    refine Rq ?_
    have tr : ∀ y0 y1 y2 y3 y4 y5 y6 y7 y8 y9 y10 y11 y12 y14 y17 y45 z0 z1 z2 z3 z4 z5 z6 z7 z8 : AV, trim [(8, z8), (7, z7), (6, z6), (29, z5), (28, z4), (27, z3), (24, z2), (26, z1), (25, z0), (0, y0), (1, y1), (2, y2), (3, y3), (4, y4), (5, y5), (6, y6), (7, y7), (8, y8), (9, y9), (10, y10), (11, y11), (12, y12), (14, y14), (17, y17), (45, y45)] [(0, y0), (1, y1), (2, y2), (3, y3), (4, y4), (5, y5), (6, y6), (7, y7), (8, y8), (9, y9), (10, y10), (11, y11), (12, y12), (14, y14), (17, y17), (45, y45)] = [(0, y0), (1, y1), (2, y2), (3, y3), (4, y4), (5, y5), (6, z6), (7, z7), (8, z8), (9, y9), (10, y10), (11, y11), (12, y12), (14, y14), (17, y17), (45, y45)] := fun y0 y1 y2 y3 y4 y5 y6 y7 y8 y9 y10 y11 y12 y14 y17 y45 z0 z1 z2 z3 z4 z5 z6 z7 z8 => rfl
    refine R_nil (tr _ _ _ _ _ _ _ _ _ _ _ _ _ _ _ _ _ _ _ _ _ _ _ _ _) ?_; clear tr
    refine then_n ?_
    refine at_seq rfl ?_
    refine at_seq rfl ?_
    refine rg rfl ?_
    refine Rq ?_
    refine Rq ?_
    refine Rq ?_
    refine Rq ?_
    refine Rp_split (fun h2 => ?_) (fun h2 => ?_)
    · try simp only [decide_eq_true_eq, decide_eq_false_iff_not, Bool.not_eq_true', Bool.not_eq_false', beq_iff_eq, beq_eq_false_iff_ne, ne_eq] at h2
      first | omega | exact absurd rfl (by assumption) | exact absurd trivial (by assumption)
    · try simp only [decide_eq_true_eq, decide_eq_false_iff_not, Bool.not_eq_true', Bool.not_eq_false', beq_iff_eq, beq_eq_false_iff_ne, ne_eq] at h2
      refine Ry ?_
      refine Rq ?_
      refine Ry ?_
      refine Rq ?_
      refine Ry ?_
      refine Rcall ?_
      refine ACall_eq (equal_max _ _ n s t E) ?_
      refine Ry ?_
      refine Rq ?_
      refine Rq ?_
      refine Rq ?_
      refine Ry ?_
      refine Rq ?_
      refine Ry ?_
      refine R_q rfl (by simp (disch := first | omega | (simp only [List.length_map, List.length_append, List.length_set, List.length_cons, List.length_nil, List.length_take, List.length_drop]; omega)) only [go_sem, ↓reduceIte, Nat.reduceEqDiff, reduceCtorEq]; exact hml) ?_
      refine Ry ?_
      refine Rq ?_
      refine Ry ?_
      refine R_q rfl (by simp (disch := first | omega | (simp only [List.length_map, List.length_append, List.length_set, List.length_cons, List.length_nil, List.length_take, List.length_drop]; omega)) only [go_sem, ↓reduceIte, Nat.reduceEqDiff, reduceCtorEq]; exact hml) ?_
      refine Ry ?_
      refine Rq ?_
      refine Rq ?_
      have tr : ∀ y0 y1 y2 y3 y4 y5 y6 y7 y8 y9 y10 y11 y12 y14 y17 y45 z0 z1 z2 z3 z4 z5 z6 z7 z8 z9 z10 z11 z12 z13 z14 z15 : AV, trim [(45, z15), (44, z14), (43, z13), (42, z12), (41, z11), (40, z10), (39, z9), (38, z8), (37, z7), (36, z6), (35, z5), (34, z4), (33, z3), (32, z2), (31, z1), (30, z0), (0, y0), (1, y1), (2, y2), (3, y3), (4, y4), (5, y5), (6, y6), (7, y7), (8, y8), (9, y9), (10, y10), (11, y11), (12, y12), (14, y14), (17, y17), (45, y45)] [(0, y0), (1, y1), (2, y2), (3, y3), (4, y4), (5, y5), (6, y6), (7, y7), (8, y8), (9, y9), (10, y10), (11, y11), (12, y12), (14, y14), (17, y17), (45, y45)] = [(0, y0), (1, y1), (2, y2), (3, y3), (4, y4), (5, y5), (6, y6), (7, y7), (8, y8), (9, y9), (10, y10), (11, y11), (12, y12), (14, y14), (17, y17), (45, z15)] := fun y0 y1 y2 y3 y4 y5 y6 y7 y8 y9 y10 y11 y12 y14 y17 y45 z0 z1 z2 z3 z4 z5 z6 z7 z8 z9 z10 z11 z12 z13 z14 z15 => rfl
      refine R_nil (tr _ _ _ _ _ _ _ _ _ _ _ _ _ _ _ _ _ _ _ _ _ _ _ _ _ _ _ _ _ _ _ _) ?_; clear tr
      refine then_n ?_
      refine cdd (fun h3 => ?_) (fun h3 => ?_)
      · try simp only [decide_eq_true_eq, decide_eq_false_iff_not, Bool.not_eq_true', Bool.not_eq_false', beq_iff_eq, beq_eq_false_iff_ne, ne_eq] at h3
        first | omega | exact absurd rfl (by assumption) | exact absurd trivial (by assumption)
      · try simp only [decide_eq_true_eq, decide_eq_false_iff_not, Bool.not_eq_true', Bool.not_eq_false', beq_iff_eq, beq_eq_false_iff_ne, ne_eq] at h3
        refine at_skip rfl ?_
        refine then_n ?_
        refine at_seq rfl ?_
        refine rg rfl ?_
        refine R_q rfl (by simp (disch := first | omega | (simp only [List.length_map, List.length_append, List.length_set, List.length_cons, List.length_nil, List.length_take, List.length_drop]; omega)) only [go_sem, ↓reduceIte, Nat.reduceEqDiff, reduceCtorEq, hml]; rfl) ?_
        refine Rq ?_
        refine Rcall ?_
        refine ACall_eq (value_max _ _ n s t E) ?_
        refine Rq ?_
        refine Rq ?_
        refine Rq ?_
        refine Rq ?_
        refine Rq ?_
        have tr : ∀ y0 y1 y2 y3 y4 y5 y6 y7 y8 y9 y10 y11 y12 y14 y17 y45 z0 z1 z2 z3 z4 z5 z6 z7 : AV, trim [(10, z7), (9, z6), (51, z5), (50, z4), (46, z3), (49, z2), (48, z1), (47, z0), (0, y0), (1, y1), (2, y2), (3, y3), (4, y4), (5, y5), (6, y6), (7, y7), (8, y8), (9, y9), (10, y10), (11, y11), (12, y12), (14, y14), (17, y17), (45, y45)] [(0, y0), (1, y1), (2, y2), (3, y3), (4, y4), (5, y5), (6, y6), (7, y7), (8, y8), (9, y9), (10, y10), (11, y11), (12, y12), (14, y14), (17, y17), (45, y45)] = [(0, y0), (1, y1), (2, y2), (3, y3), (4, y4), (5, y5), (6, y6), (7, y7), (8, y8), (9, z6), (10, z7), (11, y11), (12, y12), (14, y14), (17, y17), (45, y45)] := fun y0 y1 y2 y3 y4 y5 y6 y7 y8 y9 y10 y11 y12 y14 y17 y45 z0 z1 z2 z3 z4 z5 z6 z7 => rfl
        refine R_nil (tr _ _ _ _ _ _ _ _ _ _ _ _ _ _ _ _ _ _ _ _ _ _ _ _) ?_; clear tr
        refine then_n ?_
        refine at_seq rfl ?_
        refine rg rfl ?_
        refine R_q rfl (by simp (disch := first | omega | (simp only [List.length_map, List.length_append, List.length_set, List.length_cons, List.length_nil, List.length_take, List.length_drop]; omega)) only [go_sem, ↓reduceIte, Nat.reduceEqDiff, reduceCtorEq, hml]; rfl) ?_
        refine Rq ?_
        refine Rcall ?_
        refine ACall_eq (rvalue_max _ _ n s t E) ?_
        refine Rq ?_
        refine Rq ?_
        refine Rq ?_
        refine Rq ?_
        refine Rq ?_
        have tr : ∀ y0 y1 y2 y3 y4 y5 y6 y7 y8 y9 y10 y11 y12 y14 y17 y45 z0 z1 z2 z3 z4 z5 z6 z7 : AV, trim [(12, z7), (11, z6), (57, z5), (56, z4), (52, z3), (55, z2), (54, z1), (53, z0), (0, y0), (1, y1), (2, y2), (3, y3), (4, y4), (5, y5), (6, y6), (7, y7), (8, y8), (9, y9), (10, y10), (11, y11), (12, y12), (14, y14), (17, y17), (45, y45)] [(0, y0), (1, y1), (2, y2), (3, y3), (4, y4), (5, y5), (6, y6), (7, y7), (8, y8), (9, y9), (10, y10), (11, y11), (12, y12), (14, y14), (17, y17), (45, y45)] = [(0, y0), (1, y1), (2, y2), (3, y3), (4, y4), (5, y5), (6, y6), (7, y7), (8, y8), (9, y9), (10, y10), (11, z6), (12, z7), (14, y14), (17, y17), (45, y45)] := fun y0 y1 y2 y3 y4 y5 y6 y7 y8 y9 y10 y11 y12 y14 y17 y45 z0 z1 z2 z3 z4 z5 z6 z7 => rfl
        refine R_nil (tr _ _ _ _ _ _ _ _ _ _ _ _ _ _ _ _ _ _ _ _ _ _ _ _) ?_; clear tr
        refine then_n ?_
        refine at_seq rfl ?_
        refine rg rfl ?_
        refine Rq ?_
        refine Rq ?_
        refine Rq ?_
        refine Rq ?_
        refine Rp_split (fun h4 => ?_) (fun h4 => ?_)
        · try simp only [decide_eq_true_eq, decide_eq_false_iff_not, Bool.not_eq_true', Bool.not_eq_false', beq_iff_eq, beq_eq_false_iff_ne, ne_eq] at h4
          refine Ry ?_
          refine Rq ?_
          refine Ry ?_
          refine Rq ?_
          refine Ry ?_
          refine Rq ?_
          refine Rq ?_
          refine Rq ?_
          have tr : ∀ y0 y1 y2 y3 y4 y5 y6 y7 y8 y9 y10 y11 y12 y14 y17 y45 z0 z1 z2 z3 z4 z5 z6 z7 z8 : AV, trim [(2, z8), (65, z7), (64, z6), (63, z5), (62, z4), (61, z3), (60, z2), (59, z1), (58, z0), (0, y0), (1, y1), (2, y2), (3, y3), (4, y4), (5, y5), (6, y6), (7, y7), (8, y8), (9, y9), (10, y10), (11, y11), (12, y12), (14, y14), (17, y17), (45, y45)] [(0, y0), (1, y1), (2, y2), (3, y3), (4, y4), (5, y5), (6, y6), (7, y7), (8, y8), (9, y9), (10, y10), (11, y11), (12, y12), (14, y14), (17, y17), (45, y45)] = [(0, y0), (1, y1), (2, z8), (3, y3), (4, y4), (5, y5), (6, y6), (7, y7), (8, y8), (9, y9), (10, y10), (11, y11), (12, y12), (14, y14), (17, y17), (45, y45)] := fun y0 y1 y2 y3 y4 y5 y6 y7 y8 y9 y10 y11 y12 y14 y17 y45 z0 z1 z2 z3 z4 z5 z6 z7 z8 => rfl
          refine R_nil (tr _ _ _ _ _ _ _ _ _ _ _ _ _ _ _ _ _ _ _ _ _ _ _ _ _) ?_; clear tr
          refine then_n ?_
          refine at_ret rfl ?_
          refine fpure ?_
          first | rfl | simp
        · try simp only [decide_eq_true_eq, decide_eq_false_iff_not, Bool.not_eq_true', Bool.not_eq_false', beq_iff_eq, beq_eq_false_iff_ne, ne_eq] at h4
          first | omega | exact absurd rfl (by assumption) | exact absurd trivial (by assumption)

end Go.Proofs.Ytdicnojnkbmdlaa
