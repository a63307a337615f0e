/-
  Walks of chapters 52 and 53. The steps are written by program (walk.py).
-/
import Derived.Test.YtdicnojnkbmdlaaRE
import Derived.Test.YtdicnojnkbmdlaaSA
set_option linter.unusedSimpArgs false
set_option linter.unusedVariables false
set_option maxHeartbeats 40000000
set_option maxRecDepth 4000
namespace Go.Proofs.Ytdicnojnkbmdlaa
open Go Go.Am

theorem fchecks_ok (n s t : Int) (E : List Ed) (f : List Int) (cut : List Bool) : ACall sig 0 4 [.agg (graphC n s t E), intsAV f, boolsAV cut] [] fun r _ => r = .v (.bool true) := by
  refine ACall_pure (fa := fa4) rfl rfl rfl rfl ?_
  have tr : ∀ a0 a1 a2 : AV, env0 fa4.keep [a0, a1, a2] = [(0, a0), (1, a1), (2, a2), (3, .any), (6, .any), (7, .any), (8, .any), (9, .any), (10, .any), (11, .any), (12, .any), (13, .any), (14, .any), (16, .any), (29, .any)] := fun a0 a1 a2 => rfl
  refine W_to (tr _ _ _) ?_; clear tr
  refine at_seq rfl ?_
  refine rg rfl ?_
  refine R_box rfl (by simp (disch := first | omega | (simp only [List.length_map, List.length_append, List.length_set, List.length_cons, List.length_nil, List.length_take, List.length_drop]; omega)) only [go_sem, ↓reduceIte, Nat.reduceEqDiff, reduceCtorEq]; rfl) rfl rfl ?_
  refine Rq ?_
  have tr : ∀ y0 y1 y2 y3 y6 y7 y8 y9 y10 y11 y12 y13 y14 y16 y29 z0 z1 : AV, trim [(6, z1), (3, z0), (0, y0), (1, y1), (2, y2), (3, y3), (6, y6), (7, y7), (8, y8), (9, y9), (10, y10), (11, y11), (12, y12), (13, y13), (14, y14), (16, y16), (29, y29)] [(0, y0), (1, y1), (2, y2), (3, y3), (6, y6), (7, y7), (8, y8), (9, y9), (10, y10), (11, y11), (12, y12), (13, y13), (14, y14), (16, y16), (29, y29)] = [(0, y0), (1, y1), (2, y2), (3, z0), (6, z1), (7, y7), (8, y8), (9, y9), (10, y10), (11, y11), (12, y12), (13, y13), (14, y14), (16, y16), (29, y29)] := fun y0 y1 y2 y3 y6 y7 y8 y9 y10 y11 y12 y13 y14 y16 y29 z0 z1 => rfl
  refine R_nil (tr _ _ _ _ _ _ _ _ _ _ _ _ _ _ _ _ _) ?_; clear tr
  refine then_n ?_
  refine at_seq rfl ?_
  refine at_seq rfl ?_
  refine rg rfl ?_
  refine Rcall ?_
  refine ACall_eval 200 (awake_ok _ _) ?_
  refine Rq ?_
  have tr : ∀ y0 y1 y2 y3 y6 y7 y8 y9 y10 y11 y12 y13 y14 y16 y29 z0 z1 : AV, trim [(16, z1), (15, z0), (0, y0), (1, y1), (2, y2), (3, y3), (6, y6), (7, y7), (8, y8), (9, y9), (10, y10), (11, y11), (12, y12), (13, y13), (14, y14), (16, y16), (29, y29)] [(0, y0), (1, y1), (2, y2), (3, y3), (6, y6), (7, y7), (8, y8), (9, y9), (10, y10), (11, y11), (12, y12), (13, y13), (14, y14), (16, y16), (29, y29)] = [(0, y0), (1, y1), (2, y2), (3, y3), (6, y6), (7, y7), (8, y8), (9, y9), (10, y10), (11, y11), (12, y12), (13, y13), (14, y14), (16, z1), (29, y29)] := fun y0 y1 y2 y3 y6 y7 y8 y9 y10 y11 y12 y13 y14 y16 y29 z0 z1 => rfl
  refine R_nil (tr _ _ _ _ _ _ _ _ _ _ _ _ _ _ _ _ _) ?_; clear tr
  refine then_n ?_
  refine cdf ?_
  refine at_skip rfl ?_
  refine then_n ?_
  refine at_seq rfl ?_
  refine at_seq rfl ?_
  refine rg rfl ?_
  refine Rq ?_
  refine Rcall ?_
  refine ACall_eq (small_ok _ _ n s t E) ?_
  refine Rq ?_
  refine Rq ?_
  refine Rp_split (fun h1 => ?_) (fun h1 => ?_)
  · try simp only [decide_eq_true_eq, decide_eq_false_iff_not, Bool.not_eq_true', Bool.not_eq_false', beq_iff_eq, beq_eq_false_iff_ne, ne_eq] at h1
    refine Rn ?_
    refine Rn ?_
    refine Rn ?_
    refine Rq ?_
    refine Rq ?_
    refine Rn ?_
    refine Rn ?_
    refine Rn ?_
    refine Rq ?_
    have tr : ∀ y0 y1 y2 y3 y6 y7 y8 y9 y10 y11 y12 y13 y14 y16 y29 z0 z1 z2 z3 z4 z5 z6 z7 z8 z9 z10 z11 z12 : AV, trim [(29, z12), (28, z11), (27, z10), (26, z9), (25, z8), (24, z7), (23, z6), (22, z5), (21, z4), (20, z3), (19, z2), (18, z1), (17, z0), (0, y0), (1, y1), (2, y2), (3, y3), (6, y6), (7, y7), (8, y8), (9, y9), (10, y10), (11, y11), (12, y12), (13, y13), (14, y14), (16, y16), (29, y29)] [(0, y0), (1, y1), (2, y2), (3, y3), (6, y6), (7, y7), (8, y8), (9, y9), (10, y10), (11, y11), (12, y12), (13, y13), (14, y14), (16, y16), (29, y29)] = [(0, y0), (1, y1), (2, y2), (3, y3), (6, y6), (7, y7), (8, y8), (9, y9), (10, y10), (11, y11), (12, y12), (13, y13), (14, y14), (16, y16), (29, z12)] := fun y0 y1 y2 y3 y6 y7 y8 y9 y10 y11 y12 y13 y14 y16 y29 z0 z1 z2 z3 z4 z5 z6 z7 z8 z9 z10 z11 z12 => rfl
    refine R_nil (tr _ _ _ _ _ _ _ _ _ _ _ _ _ _ _ _ _ _ _ _ _ _ _ _ _ _ _ _) ?_; clear tr
    refine then_n ?_
    refine cdt ?_
    refine at_seq rfl ?_
    refine rg rfl ?_
    refine Rq ?_
    have tr : ∀ y0 y1 y2 y3 y6 y7 y8 y9 y10 y11 y12 y13 y14 y16 y29 z0 : AV, trim [(6, z0), (0, y0), (1, y1), (2, y2), (3, y3), (6, y6), (7, y7), (8, y8), (9, y9), (10, y10), (11, y11), (12, y12), (13, y13), (14, y14), (16, y16), (29, y29)] [(0, y0), (1, y1), (2, y2), (3, y3), (6, y6), (7, y7), (8, y8), (9, y9), (10, y10), (11, y11), (12, y12), (13, y13), (14, y14), (16, y16), (29, y29)] = [(0, y0), (1, y1), (2, y2), (3, y3), (6, z0), (7, y7), (8, y8), (9, y9), (10, y10), (11, y11), (12, y12), (13, y13), (14, y14), (16, y16), (29, y29)] := fun y0 y1 y2 y3 y6 y7 y8 y9 y10 y11 y12 y13 y14 y16 y29 z0 => rfl
    refine R_nil (tr _ _ _ _ _ _ _ _ _ _ _ _ _ _ _ _) ?_; clear tr
    refine then_n ?_
    refine at_ret rfl ?_
    refine then_r ?_
    refine fpure ?_
    first | rfl | simp
  · try simp only [decide_eq_true_eq, decide_eq_false_iff_not, Bool.not_eq_true', Bool.not_eq_false', beq_iff_eq, beq_eq_false_iff_ne, ne_eq] at h1
    refine Ry ?_
    refine Rq ?_
    refine Ry ?_
    refine Rq ?_
    refine Ry ?_
    refine Rq ?_
    refine Rq ?_
    refine Rq ?_
    refine Rp_split (fun h2 => ?_) (fun h2 => ?_)
    · try simp only [decide_eq_true_eq, decide_eq_false_iff_not, Bool.not_eq_true', Bool.not_eq_false', beq_iff_eq, beq_eq_false_iff_ne, ne_eq] at h2
      refine Rn ?_
      refine Rn ?_
      refine Rn ?_
      refine Rq ?_
      have tr : ∀ y0 y1 y2 y3 y6 y7 y8 y9 y10 y11 y12 y13 y14 y16 y29 z0 z1 z2 z3 z4 z5 z6 z7 z8 z9 z10 z11 z12 : AV, trim [(29, z12), (28, z11), (27, z10), (26, z9), (25, z8), (24, z7), (23, z6), (22, z5), (21, z4), (20, z3), (19, z2), (18, z1), (17, z0), (0, y0), (1, y1), (2, y2), (3, y3), (6, y6), (7, y7), (8, y8), (9, y9), (10, y10), (11, y11), (12, y12), (13, y13), (14, y14), (16, y16), (29, y29)] [(0, y0), (1, y1), (2, y2), (3, y3), (6, y6), (7, y7), (8, y8), (9, y9), (10, y10), (11, y11), (12, y12), (13, y13), (14, y14), (16, y16), (29, y29)] = [(0, y0), (1, y1), (2, y2), (3, y3), (6, y6), (7, y7), (8, y8), (9, y9), (10, y10), (11, y11), (12, y12), (13, y13), (14, y14), (16, y16), (29, z12)] := fun y0 y1 y2 y3 y6 y7 y8 y9 y10 y11 y12 y13 y14 y16 y29 z0 z1 z2 z3 z4 z5 z6 z7 z8 z9 z10 z11 z12 => rfl
      refine R_nil (tr _ _ _ _ _ _ _ _ _ _ _ _ _ _ _ _ _ _ _ _ _ _ _ _ _ _ _ _) ?_; clear tr
      refine then_n ?_
      refine cdt ?_
      refine at_seq rfl ?_
      refine rg rfl ?_
      refine Rq ?_
      have tr : ∀ y0 y1 y2 y3 y6 y7 y8 y9 y10 y11 y12 y13 y14 y16 y29 z0 : AV, trim [(6, z0), (0, y0), (1, y1), (2, y2), (3, y3), (6, y6), (7, y7), (8, y8), (9, y9), (10, y10), (11, y11), (12, y12), (13, y13), (14, y14), (16, y16), (29, y29)] [(0, y0), (1, y1), (2, y2), (3, y3), (6, y6), (7, y7), (8, y8), (9, y9), (10, y10), (11, y11), (12, y12), (13, y13), (14, y14), (16, y16), (29, y29)] = [(0, y0), (1, y1), (2, y2), (3, y3), (6, z0), (7, y7), (8, y8), (9, y9), (10, y10), (11, y11), (12, y12), (13, y13), (14, y14), (16, y16), (29, y29)] := fun y0 y1 y2 y3 y6 y7 y8 y9 y10 y11 y12 y13 y14 y16 y29 z0 => rfl
      refine R_nil (tr _ _ _ _ _ _ _ _ _ _ _ _ _ _ _ _) ?_; clear tr
      refine then_n ?_
      refine at_ret rfl ?_
      refine then_r ?_
      refine fpure ?_
      first | rfl | simp
    · try simp only [decide_eq_true_eq, decide_eq_false_iff_not, Bool.not_eq_true', Bool.not_eq_false', beq_iff_eq, beq_eq_false_iff_ne, ne_eq] at h2
      refine Ry ?_
      refine Rq ?_
      refine Ry ?_
      refine Rq ?_
      refine Ry ?_
      refine Rq ?_
      refine Rq ?_
      have tr : ∀ y0 y1 y2 y3 y6 y7 y8 y9 y10 y11 y12 y13 y14 y16 y29 z0 z1 z2 z3 z4 z5 z6 z7 z8 z9 z10 z11 z12 : AV, trim [(29, z12), (28, z11), (27, z10), (26, z9), (25, z8), (24, z7), (23, z6), (22, z5), (21, z4), (20, z3), (19, z2), (18, z1), (17, z0), (0, y0), (1, y1), (2, y2), (3, y3), (6, y6), (7, y7), (8, y8), (9, y9), (10, y10), (11, y11), (12, y12), (13, y13), (14, y14), (16, y16), (29, y29)] [(0, y0), (1, y1), (2, y2), (3, y3), (6, y6), (7, y7), (8, y8), (9, y9), (10, y10), (11, y11), (12, y12), (13, y13), (14, y14), (16, y16), (29, y29)] = [(0, y0), (1, y1), (2, y2), (3, y3), (6, y6), (7, y7), (8, y8), (9, y9), (10, y10), (11, y11), (12, y12), (13, y13), (14, y14), (16, y16), (29, z12)] := fun y0 y1 y2 y3 y6 y7 y8 y9 y10 y11 y12 y13 y14 y16 y29 z0 z1 z2 z3 z4 z5 z6 z7 z8 z9 z10 z11 z12 => rfl
      refine R_nil (tr _ _ _ _ _ _ _ _ _ _ _ _ _ _ _ _ _ _ _ _ _ _ _ _ _ _ _ _) ?_; clear tr
      refine then_n ?_
      refine cdd (fun h3 => ?_) (fun h3 => ?_)
      · try simp only [decide_eq_true_eq, decide_eq_false_iff_not, Bool.not_eq_true', Bool.not_eq_false', beq_iff_eq, beq_eq_false_iff_ne, ne_eq] at h3
        refine at_seq rfl ?_
        refine rg rfl ?_
        refine Rq ?_
        have tr : ∀ y0 y1 y2 y3 y6 y7 y8 y9 y10 y11 y12 y13 y14 y16 y29 z0 : AV, trim [(6, z0), (0, y0), (1, y1), (2, y2), (3, y3), (6, y6), (7, y7), (8, y8), (9, y9), (10, y10), (11, y11), (12, y12), (13, y13), (14, y14), (16, y16), (29, y29)] [(0, y0), (1, y1), (2, y2), (3, y3), (6, y6), (7, y7), (8, y8), (9, y9), (10, y10), (11, y11), (12, y12), (13, y13), (14, y14), (16, y16), (29, y29)] = [(0, y0), (1, y1), (2, y2), (3, y3), (6, z0), (7, y7), (8, y8), (9, y9), (10, y10), (11, y11), (12, y12), (13, y13), (14, y14), (16, y16), (29, y29)] := fun y0 y1 y2 y3 y6 y7 y8 y9 y10 y11 y12 y13 y14 y16 y29 z0 => rfl
        refine R_nil (tr _ _ _ _ _ _ _ _ _ _ _ _ _ _ _ _) ?_; clear tr
        refine then_n ?_
        refine at_ret rfl ?_
        refine then_r ?_
        refine fpure ?_
        first | rfl | simp
      · try simp only [decide_eq_true_eq, decide_eq_false_iff_not, Bool.not_eq_true', Bool.not_eq_false', beq_iff_eq, beq_eq_false_iff_ne, ne_eq] at h3
        refine at_skip rfl ?_
        refine then_n ?_
        refine at_seq rfl ?_
        refine rg rfl ?_
        refine Rq ?_
        refine Rq ?_
        refine Rcall ?_
        refine ACall_eq (value_ok _ _ n s t E f) ?_
        refine Rq ?_
        refine Rq ?_
        refine Rq ?_
        refine Rq ?_
        refine Rq ?_
        have tr : ∀ y0 y1 y2 y3 y6 y7 y8 y9 y10 y11 y12 y13 y14 y16 y29 z0 z1 z2 z3 z4 z5 z6 z7 : AV, trim [(8, z7), (7, z6), (35, z5), (34, z4), (30, z3), (33, z2), (32, z1), (31, z0), (0, y0), (1, y1), (2, y2), (3, y3), (6, y6), (7, y7), (8, y8), (9, y9), (10, y10), (11, y11), (12, y12), (13, y13), (14, y14), (16, y16), (29, y29)] [(0, y0), (1, y1), (2, y2), (3, y3), (6, y6), (7, y7), (8, y8), (9, y9), (10, y10), (11, y11), (12, y12), (13, y13), (14, y14), (16, y16), (29, y29)] = [(0, y0), (1, y1), (2, y2), (3, y3), (6, y6), (7, z6), (8, z7), (9, y9), (10, y10), (11, y11), (12, y12), (13, y13), (14, y14), (16, y16), (29, y29)] := fun y0 y1 y2 y3 y6 y7 y8 y9 y10 y11 y12 y13 y14 y16 y29 z0 z1 z2 z3 z4 z5 z6 z7 => rfl
        refine R_nil (tr _ _ _ _ _ _ _ _ _ _ _ _ _ _ _ _ _ _ _ _ _ _ _) ?_; clear tr
        refine then_n ?_
        refine at_seq rfl ?_
        refine rg rfl ?_
        refine Rq ?_
        refine Rq ?_
        refine Rcall ?_
        refine ACall_eq (rvalue_ok _ _ n s t E f) ?_
        refine Rq ?_
        refine Rq ?_
        refine Rq ?_
        refine Rq ?_
        refine Rq ?_
        have tr : ∀ y0 y1 y2 y3 y6 y7 y8 y9 y10 y11 y12 y13 y14 y16 y29 z0 z1 z2 z3 z4 z5 z6 z7 : AV, trim [(10, z7), (9, z6), (41, z5), (40, z4), (36, z3), (39, z2), (38, z1), (37, z0), (0, y0), (1, y1), (2, y2), (3, y3), (6, y6), (7, y7), (8, y8), (9, y9), (10, y10), (11, y11), (12, y12), (13, y13), (14, y14), (16, y16), (29, y29)] [(0, y0), (1, y1), (2, y2), (3, y3), (6, y6), (7, y7), (8, y8), (9, y9), (10, y10), (11, y11), (12, y12), (13, y13), (14, y14), (16, y16), (29, y29)] = [(0, y0), (1, y1), (2, y2), (3, y3), (6, y6), (7, y7), (8, y8), (9, z6), (10, z7), (11, y11), (12, y12), (13, y13), (14, y14), (16, y16), (29, y29)] := fun y0 y1 y2 y3 y6 y7 y8 y9 y10 y11 y12 y13 y14 y16 y29 z0 z1 z2 z3 z4 z5 z6 z7 => rfl
        refine R_nil (tr _ _ _ _ _ _ _ _ _ _ _ _ _ _ _ _ _ _ _ _ _ _ _) ?_; clear tr
        refine then_n ?_
        refine at_seq rfl ?_
        refine rg rfl ?_
        refine Rq ?_
        refine Rq ?_
        refine Rcall ?_
        refine ACall_eq (cap_ok _ _ n s t E cut) ?_
        refine Rq ?_
        refine Rq ?_
        refine Rq ?_
        refine Rq ?_
        refine Rq ?_
        have tr : ∀ y0 y1 y2 y3 y6 y7 y8 y9 y10 y11 y12 y13 y14 y16 y29 z0 z1 z2 z3 z4 z5 z6 z7 : AV, trim [(12, z7), (11, z6), (47, z5), (46, z4), (42, z3), (45, z2), (44, z1), (43, z0), (0, y0), (1, y1), (2, y2), (3, y3), (6, y6), (7, y7), (8, y8), (9, y9), (10, y10), (11, y11), (12, y12), (13, y13), (14, y14), (16, y16), (29, y29)] [(0, y0), (1, y1), (2, y2), (3, y3), (6, y6), (7, y7), (8, y8), (9, y9), (10, y10), (11, y11), (12, y12), (13, y13), (14, y14), (16, y16), (29, y29)] = [(0, y0), (1, y1), (2, y2), (3, y3), (6, y6), (7, y7), (8, y8), (9, y9), (10, y10), (11, z6), (12, z7), (13, y13), (14, y14), (16, y16), (29, y29)] := fun y0 y1 y2 y3 y6 y7 y8 y9 y10 y11 y12 y13 y14 y16 y29 z0 z1 z2 z3 z4 z5 z6 z7 => rfl
        refine R_nil (tr _ _ _ _ _ _ _ _ _ _ _ _ _ _ _ _ _ _ _ _ _ _ _) ?_; clear tr
        refine then_n ?_
        refine at_seq rfl ?_
        refine rg rfl ?_
        refine Rq ?_
        refine Rq ?_
        refine Rcall ?_
        refine ACall_eq (rcap_ok _ _ n s t E cut) ?_
        refine Rq ?_
        refine Rq ?_
        refine Rq ?_
        refine Rq ?_
        refine Rq ?_
        have tr : ∀ y0 y1 y2 y3 y6 y7 y8 y9 y10 y11 y12 y13 y14 y16 y29 z0 z1 z2 z3 z4 z5 z6 z7 : AV, trim [(14, z7), (13, z6), (53, z5), (52, z4), (48, z3), (51, z2), (50, z1), (49, z0), (0, y0), (1, y1), (2, y2), (3, y3), (6, y6), (7, y7), (8, y8), (9, y9), (10, y10), (11, y11), (12, y12), (13, y13), (14, y14), (16, y16), (29, y29)] [(0, y0), (1, y1), (2, y2), (3, y3), (6, y6), (7, y7), (8, y8), (9, y9), (10, y10), (11, y11), (12, y12), (13, y13), (14, y14), (16, y16), (29, y29)] = [(0, y0), (1, y1), (2, y2), (3, y3), (6, y6), (7, y7), (8, y8), (9, y9), (10, y10), (11, y11), (12, y12), (13, z6), (14, z7), (16, y16), (29, y29)] := fun y0 y1 y2 y3 y6 y7 y8 y9 y10 y11 y12 y13 y14 y16 y29 z0 z1 z2 z3 z4 z5 z6 z7 => rfl
        refine R_nil (tr _ _ _ _ _ _ _ _ _ _ _ _ _ _ _ _ _ _ _ _ _ _ _) ?_; clear tr
        refine then_n ?_
        refine at_seq rfl ?_
        refine rd rfl rfl ?_
        refine Qq ?_
        refine Qcall ?_
        refine ACall_eq (check_ok _ _ n s t E ) ?_
        refine ⟨rfl, ?_⟩
        refine Qq ?_
        refine Qcall ?_
        refine ACall_eq (rcheck_ok _ _ n s t E ) ?_
        refine ⟨rfl, ?_⟩
        refine Qq ?_
        refine Qq ?_
        refine Qp_split (fun h4 => ?_) (fun h4 => ?_)
        · try simp only [decide_eq_true_eq, decide_eq_false_iff_not, Bool.not_eq_true', Bool.not_eq_false', beq_iff_eq, beq_eq_false_iff_ne, ne_eq] at h4
          refine Qy ?_
          refine Qq ?_
          refine Qy ?_
          refine Qq ?_
          refine Qy ?_
          refine Qcall ?_
          refine ACall_eq (feas_ok _ _ n s t E f) ?_
          refine ⟨rfl, ?_⟩
          refine Qy ?_
          refine Qq ?_
          refine Qy ?_
          refine Qq ?_
          refine Qy ?_
          refine Qcall ?_
          refine ACall_eq (rfeas_ok _ _ n s t E f) ?_
          refine ⟨rfl, ?_⟩
          refine Qy ?_
          refine Qq ?_
          refine Qq ?_
          refine Qq ?_
          refine Qp_split (fun h5 => ?_) (fun h5 => ?_)
          · try simp only [decide_eq_true_eq, decide_eq_false_iff_not, Bool.not_eq_true', Bool.not_eq_false', beq_iff_eq, beq_eq_false_iff_ne, ne_eq] at h5
            refine Qy ?_
            refine Qq ?_
            refine Qy ?_
            refine Qq ?_
            refine Qy ?_
            refine Qq ?_
            refine Qq ?_
            refine Qq ?_
            refine Qp_split (fun h6 => ?_) (fun h6 => ?_)
            · try simp only [decide_eq_true_eq, decide_eq_false_iff_not, Bool.not_eq_true', Bool.not_eq_false', beq_iff_eq, beq_eq_false_iff_ne, ne_eq] at h6
              refine Qy ?_
              refine Qq ?_
              refine Qy ?_
              refine Qq ?_
              refine Qy ?_
              refine Qq ?_
              refine Qq ?_
              refine Qq ?_
              refine Qp_split (fun h7 => ?_) (fun h7 => ?_)
              · try simp only [decide_eq_true_eq, decide_eq_false_iff_not, Bool.not_eq_true', Bool.not_eq_false', beq_iff_eq, beq_eq_false_iff_ne, ne_eq] at h7
                refine Qy ?_
                refine Qq ?_
                refine Qy ?_
                refine Qq ?_
                refine Qy ?_
                refine Qq ?_
                refine Qq ?_
                refine Qq ?_
                refine Qp_split (fun h8 => ?_) (fun h8 => ?_)
                · try simp only [decide_eq_true_eq, decide_eq_false_iff_not, Bool.not_eq_true', Bool.not_eq_false', beq_iff_eq, beq_eq_false_iff_ne, ne_eq] at h8
                  refine Qy ?_
                  refine Qq ?_
                  refine Qy ?_
                  refine Qq ?_
                  refine Qy ?_
                  refine Qq ?_
                  refine Qq ?_
                  refine Qq ?_
                  refine Qp_split (fun h9 => ?_) (fun h9 => ?_)
                  · try simp only [decide_eq_true_eq, decide_eq_false_iff_not, Bool.not_eq_true', Bool.not_eq_false', beq_iff_eq, beq_eq_false_iff_ne, ne_eq] at h9
                    refine Qy ?_
                    refine Qq ?_
                    refine Qy ?_
                    refine Qq ?_
                    refine Qy ?_
                    refine Qq ?_
                    refine Qy ?_
                    refine Qcall ?_
                    refine ACall_eq (accept_ok _ _ n s t E f cut) ?_
                    refine ⟨rfl, ?_⟩
                    refine Qy ?_
                    refine Qq ?_
                    refine Qy ?_
                    refine Qq ?_
                    refine Qy ?_
                    refine Qq ?_
                    refine Qy ?_
                    refine Qcall ?_
                    refine ACall_eq (raccept_ok _ _ n s t E f cut) ?_
                    refine ⟨rfl, ?_⟩
                    refine Qy ?_
                    refine Qq ?_
                    refine Qq ?_
                    refine Qq ?_
                    refine Q_nil ?_
                    have tr : ∀ y0 y1 y2 y3 y6 y7 y8 y9 y10 y11 y12 y13 y14 y16 y29 z0 z1 z2 z3 z4 z5 z6 z7 z8 z9 z10 z11 z12 z13 z14 z15 z16 z17 z18 z19 z20 z21 z22 z23 z24 z25 z26 z27 z28 z29 z30 z31 z32 z33 z34 z35 z36 z37 z38 z39 z40 z41 z42 z43 z44 z45 : AV, trim [(6, z45), (98, z44), (97, z43), (96, z42), (95, z41), (94, z40), (93, z39), (92, z38), (91, z37), (90, z36), (89, z35), (88, z34), (87, z33), (86, z32), (85, z31), (84, z30), (83, z29), (82, z28), (81, z27), (80, z26), (79, z25), (78, z24), (77, z23), (76, z22), (75, z21), (74, z20), (73, z19), (72, z18), (71, z17), (70, z16), (69, z15), (68, z14), (67, z13), (66, z12), (65, z11), (64, z10), (63, z9), (62, z8), (61, z7), (60, z6), (59, z5), (58, z4), (57, z3), (56, z2), (55, z1), (54, z0), (0, y0), (1, y1), (2, y2), (3, y3), (6, y6), (7, y7), (8, y8), (9, y9), (10, y10), (11, y11), (12, y12), (13, y13), (14, y14), (16, y16), (29, y29)] [(0, y0), (1, y1), (2, y2), (3, y3), (6, y6), (7, y7), (8, y8), (9, y9), (10, y10), (11, y11), (12, y12), (13, y13), (14, y14), (16, y16), (29, y29)] = [(0, y0), (1, y1), (2, y2), (3, y3), (6, z45), (7, y7), (8, y8), (9, y9), (10, y10), (11, y11), (12, y12), (13, y13), (14, y14), (16, y16), (29, y29)] := fun y0 y1 y2 y3 y6 y7 y8 y9 y10 y11 y12 y13 y14 y16 y29 z0 z1 z2 z3 z4 z5 z6 z7 z8 z9 z10 z11 z12 z13 z14 z15 z16 z17 z18 z19 z20 z21 z22 z23 z24 z25 z26 z27 z28 z29 z30 z31 z32 z33 z34 z35 z36 z37 z38 z39 z40 z41 z42 z43 z44 z45 => rfl
                    refine R_nil (tr _ _ _ _ _ _ _ _ _ _ _ _ _ _ _ _ _ _ _ _ _ _ _ _ _ _ _ _ _ _ _ _ _ _ _ _ _ _ _ _ _ _ _ _ _ _ _ _ _ _ _ _ _ _ _ _ _ _ _ _ _) ?_; clear tr
                    refine then_n ?_
                    refine at_ret rfl ?_
                    refine fpure ?_
                    first | rfl | simp
                  · try simp only [decide_eq_true_eq, decide_eq_false_iff_not, Bool.not_eq_true', Bool.not_eq_false', beq_iff_eq, beq_eq_false_iff_ne, ne_eq] at h9
                    first | omega | exact absurd rfl (by assumption) | exact absurd trivial (by assumption)
                · try simp only [decide_eq_true_eq, decide_eq_false_iff_not, Bool.not_eq_true', Bool.not_eq_false', beq_iff_eq, beq_eq_false_iff_ne, ne_eq] at h8
                  first | omega | exact absurd rfl (by assumption) | exact absurd trivial (by assumption)
              · try simp only [decide_eq_true_eq, decide_eq_false_iff_not, Bool.not_eq_true', Bool.not_eq_false', beq_iff_eq, beq_eq_false_iff_ne, ne_eq] at h7
                first | omega | exact absurd rfl (by assumption) | exact absurd trivial (by assumption)
            · try simp only [decide_eq_true_eq, decide_eq_false_iff_not, Bool.not_eq_true', Bool.not_eq_false', beq_iff_eq, beq_eq_false_iff_ne, ne_eq] at h6
              first | omega | exact absurd rfl (by assumption) | exact absurd trivial (by assumption)
          · try simp only [decide_eq_true_eq, decide_eq_false_iff_not, Bool.not_eq_true', Bool.not_eq_false', beq_iff_eq, beq_eq_false_iff_ne, ne_eq] at h5
            first | omega | exact absurd rfl (by assumption) | exact absurd trivial (by assumption)
        · try simp only [decide_eq_true_eq, decide_eq_false_iff_not, Bool.not_eq_true', Bool.not_eq_false', beq_iff_eq, beq_eq_false_iff_ne, ne_eq] at h4
          first | omega | exact absurd rfl (by assumption) | exact absurd trivial (by assumption)

end Go.Proofs.Ytdicnojnkbmdlaa
