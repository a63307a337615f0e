/-
  Walks of chapters 52 and 53. The steps are written by program (walk.py).
-/
import Derived.Test.YtdicnojnkbmdlaaQG
import Derived.Test.YtdicnojnkbmdlaaRK
import Derived.Test.YtdicnojnkbmdlaaSA
import Derived.Test.YtdicnojnkbmdlaaRE
set_option linter.unusedSimpArgs false
set_option linter.unusedVariables false
set_option maxHeartbeats 40000000
set_option maxRecDepth 4000
namespace Go.Proofs.Ytdicnojnkbmdlaa
open Go Go.Am

theorem fproves_ok (n s t : Int) (E : List Ed) (f : List Int) (cut : List Bool) : ACall sig 0 5 [.agg (graphC n s t E), intsAV f, boolsAV cut] [] fun r _ => r = .v (.bool true) := by
  refine ACall_pure (fa := fa5) rfl rfl rfl rfl ?_
  have tr : ∀ a0 a1 a2 : AV, env0 fa5.keep [a0, a1, a2] = [(0, a0), (1, a1), (2, a2), (3, .any), (6, .any), (7, .any), (8, .any), (9, .any), (10, .any), (11, .any), (12, .any), (13, .any), (14, .any), (15, .any), (17, .any), (30, .any), (38, .any), (67, .any)] := fun a0 a1 a2 => rfl
  refine W_to (tr _ _ _) ?_; clear tr
  refine at_seq rfl ?_
  refine rg rfl ?_
  refine R_box rfl (by simp (disch := first | omega | (simp only [List.length_map, List.length_append, List.length_set, List.length_cons, List.length_nil, List.length_take, List.length_drop]; omega)) only [go_sem, ↓reduceIte, Nat.reduceEqDiff, reduceCtorEq]; rfl) rfl rfl ?_
  refine Rq ?_
  have tr : ∀ y0 y1 y2 y3 y6 y7 y8 y9 y10 y11 y12 y13 y14 y15 y17 y30 y38 y67 z0 z1 : AV, trim [(6, z1), (3, z0), (0, y0), (1, y1), (2, y2), (3, y3), (6, y6), (7, y7), (8, y8), (9, y9), (10, y10), (11, y11), (12, y12), (13, y13), (14, y14), (15, y15), (17, y17), (30, y30), (38, y38), (67, y67)] [(0, y0), (1, y1), (2, y2), (3, y3), (6, y6), (7, y7), (8, y8), (9, y9), (10, y10), (11, y11), (12, y12), (13, y13), (14, y14), (15, y15), (17, y17), (30, y30), (38, y38), (67, y67)] = [(0, y0), (1, y1), (2, y2), (3, z0), (6, z1), (7, y7), (8, y8), (9, y9), (10, y10), (11, y11), (12, y12), (13, y13), (14, y14), (15, y15), (17, y17), (30, y30), (38, y38), (67, y67)] := fun y0 y1 y2 y3 y6 y7 y8 y9 y10 y11 y12 y13 y14 y15 y17 y30 y38 y67 z0 z1 => rfl
  refine R_nil (tr _ _ _ _ _ _ _ _ _ _ _ _ _ _ _ _ _ _ _ _) ?_; clear tr
  refine then_n ?_
  refine at_seq rfl ?_
  refine at_seq rfl ?_
  refine rg rfl ?_
  refine Rcall ?_
  refine ACall_eval 200 (awake_ok _ _) ?_
  refine Rq ?_
  have tr : ∀ y0 y1 y2 y3 y6 y7 y8 y9 y10 y11 y12 y13 y14 y15 y17 y30 y38 y67 z0 z1 : AV, trim [(17, z1), (16, z0), (0, y0), (1, y1), (2, y2), (3, y3), (6, y6), (7, y7), (8, y8), (9, y9), (10, y10), (11, y11), (12, y12), (13, y13), (14, y14), (15, y15), (17, y17), (30, y30), (38, y38), (67, y67)] [(0, y0), (1, y1), (2, y2), (3, y3), (6, y6), (7, y7), (8, y8), (9, y9), (10, y10), (11, y11), (12, y12), (13, y13), (14, y14), (15, y15), (17, y17), (30, y30), (38, y38), (67, y67)] = [(0, y0), (1, y1), (2, y2), (3, y3), (6, y6), (7, y7), (8, y8), (9, y9), (10, y10), (11, y11), (12, y12), (13, y13), (14, y14), (15, y15), (17, z1), (30, y30), (38, y38), (67, y67)] := fun y0 y1 y2 y3 y6 y7 y8 y9 y10 y11 y12 y13 y14 y15 y17 y30 y38 y67 z0 z1 => rfl
  refine R_nil (tr _ _ _ _ _ _ _ _ _ _ _ _ _ _ _ _ _ _ _ _) ?_; clear tr
  refine then_n ?_
  refine cdf ?_
  refine at_skip rfl ?_
  refine then_n ?_
  refine at_seq rfl ?_
  refine at_seq rfl ?_
  refine rg rfl ?_
  refine Rq ?_
  refine Rcall ?_
  refine ACall_eq (small_ok _ _ n s t E) ?_
  refine Rq ?_
  refine Rq ?_
  refine Rp_split (fun h1 => ?_) (fun h1 => ?_)
  · try simp only [decide_eq_true_eq, decide_eq_false_iff_not, Bool.not_eq_true', Bool.not_eq_false', beq_iff_eq, beq_eq_false_iff_ne, ne_eq] at h1
    refine Rn ?_
    refine Rn ?_
    refine Rn ?_
    refine Rq ?_
    refine Rq ?_
    refine Rn ?_
    refine Rn ?_
    refine Rn ?_
    refine Rq ?_
    have tr : ∀ y0 y1 y2 y3 y6 y7 y8 y9 y10 y11 y12 y13 y14 y15 y17 y30 y38 y67 z0 z1 z2 z3 z4 z5 z6 z7 z8 z9 z10 z11 z12 : AV, trim [(30, z12), (29, z11), (28, z10), (27, z9), (26, z8), (25, z7), (24, z6), (23, z5), (22, z4), (21, z3), (20, z2), (19, z1), (18, z0), (0, y0), (1, y1), (2, y2), (3, y3), (6, y6), (7, y7), (8, y8), (9, y9), (10, y10), (11, y11), (12, y12), (13, y13), (14, y14), (15, y15), (17, y17), (30, y30), (38, y38), (67, y67)] [(0, y0), (1, y1), (2, y2), (3, y3), (6, y6), (7, y7), (8, y8), (9, y9), (10, y10), (11, y11), (12, y12), (13, y13), (14, y14), (15, y15), (17, y17), (30, y30), (38, y38), (67, y67)] = [(0, y0), (1, y1), (2, y2), (3, y3), (6, y6), (7, y7), (8, y8), (9, y9), (10, y10), (11, y11), (12, y12), (13, y13), (14, y14), (15, y15), (17, y17), (30, z12), (38, y38), (67, y67)] := fun y0 y1 y2 y3 y6 y7 y8 y9 y10 y11 y12 y13 y14 y15 y17 y30 y38 y67 z0 z1 z2 z3 z4 z5 z6 z7 z8 z9 z10 z11 z12 => rfl
    refine R_nil (tr _ _ _ _ _ _ _ _ _ _ _ _ _ _ _ _ _ _ _ _ _ _ _ _ _ _ _ _ _ _ _) ?_; clear tr
    refine then_n ?_
    refine cdt ?_
    refine at_seq rfl ?_
    refine rg rfl ?_
    refine Rq ?_
    have tr : ∀ y0 y1 y2 y3 y6 y7 y8 y9 y10 y11 y12 y13 y14 y15 y17 y30 y38 y67 z0 : AV, trim [(6, z0), (0, y0), (1, y1), (2, y2), (3, y3), (6, y6), (7, y7), (8, y8), (9, y9), (10, y10), (11, y11), (12, y12), (13, y13), (14, y14), (15, y15), (17, y17), (30, y30), (38, y38), (67, y67)] [(0, y0), (1, y1), (2, y2), (3, y3), (6, y6), (7, y7), (8, y8), (9, y9), (10, y10), (11, y11), (12, y12), (13, y13), (14, y14), (15, y15), (17, y17), (30, y30), (38, y38), (67, y67)] = [(0, y0), (1, y1), (2, y2), (3, y3), (6, z0), (7, y7), (8, y8), (9, y9), (10, y10), (11, y11), (12, y12), (13, y13), (14, y14), (15, y15), (17, y17), (30, y30), (38, y38), (67, y67)] := fun y0 y1 y2 y3 y6 y7 y8 y9 y10 y11 y12 y13 y14 y15 y17 y30 y38 y67 z0 => rfl
    refine R_nil (tr _ _ _ _ _ _ _ _ _ _ _ _ _ _ _ _ _ _ _) ?_; clear tr
    refine then_n ?_
    refine at_ret rfl ?_
    refine then_r ?_
    refine fpure ?_
    first | rfl | rw [decide_eq_true (p4 (by assumption))] | simp
  · try simp only [decide_eq_true_eq, decide_eq_false_iff_not, Bool.not_eq_true', Bool.not_eq_false', beq_iff_eq, beq_eq_false_iff_ne, ne_eq] at h1
    refine Ry ?_
    refine Rq ?_
    refine Ry ?_
    refine Rq ?_
    refine Ry ?_
    refine Rq ?_
    refine Rq ?_
    refine Rq ?_
    refine Rp_split (fun h2 => ?_) (fun h2 => ?_)
    · try simp only [decide_eq_true_eq, decide_eq_false_iff_not, Bool.not_eq_true', Bool.not_eq_false', beq_iff_eq, beq_eq_false_iff_ne, ne_eq] at h2
      refine Rn ?_
      refine Rn ?_
      refine Rn ?_
      refine Rq ?_
      have tr : ∀ y0 y1 y2 y3 y6 y7 y8 y9 y10 y11 y12 y13 y14 y15 y17 y30 y38 y67 z0 z1 z2 z3 z4 z5 z6 z7 z8 z9 z10 z11 z12 : AV, trim [(30, z12), (29, z11), (28, z10), (27, z9), (26, z8), (25, z7), (24, z6), (23, z5), (22, z4), (21, z3), (20, z2), (19, z1), (18, z0), (0, y0), (1, y1), (2, y2), (3, y3), (6, y6), (7, y7), (8, y8), (9, y9), (10, y10), (11, y11), (12, y12), (13, y13), (14, y14), (15, y15), (17, y17), (30, y30), (38, y38), (67, y67)] [(0, y0), (1, y1), (2, y2), (3, y3), (6, y6), (7, y7), (8, y8), (9, y9), (10, y10), (11, y11), (12, y12), (13, y13), (14, y14), (15, y15), (17, y17), (30, y30), (38, y38), (67, y67)] = [(0, y0), (1, y1), (2, y2), (3, y3), (6, y6), (7, y7), (8, y8), (9, y9), (10, y10), (11, y11), (12, y12), (13, y13), (14, y14), (15, y15), (17, y17), (30, z12), (38, y38), (67, y67)] := fun y0 y1 y2 y3 y6 y7 y8 y9 y10 y11 y12 y13 y14 y15 y17 y30 y38 y67 z0 z1 z2 z3 z4 z5 z6 z7 z8 z9 z10 z11 z12 => rfl
      refine R_nil (tr _ _ _ _ _ _ _ _ _ _ _ _ _ _ _ _ _ _ _ _ _ _ _ _ _ _ _ _ _ _ _) ?_; clear tr
      refine then_n ?_
      refine cdt ?_
      refine at_seq rfl ?_
      refine rg rfl ?_
      refine Rq ?_
      have tr : ∀ y0 y1 y2 y3 y6 y7 y8 y9 y10 y11 y12 y13 y14 y15 y17 y30 y38 y67 z0 : AV, trim [(6, z0), (0, y0), (1, y1), (2, y2), (3, y3), (6, y6), (7, y7), (8, y8), (9, y9), (10, y10), (11, y11), (12, y12), (13, y13), (14, y14), (15, y15), (17, y17), (30, y30), (38, y38), (67, y67)] [(0, y0), (1, y1), (2, y2), (3, y3), (6, y6), (7, y7), (8, y8), (9, y9), (10, y10), (11, y11), (12, y12), (13, y13), (14, y14), (15, y15), (17, y17), (30, y30), (38, y38), (67, y67)] = [(0, y0), (1, y1), (2, y2), (3, y3), (6, z0), (7, y7), (8, y8), (9, y9), (10, y10), (11, y11), (12, y12), (13, y13), (14, y14), (15, y15), (17, y17), (30, y30), (38, y38), (67, y67)] := fun y0 y1 y2 y3 y6 y7 y8 y9 y10 y11 y12 y13 y14 y15 y17 y30 y38 y67 z0 => rfl
      refine R_nil (tr _ _ _ _ _ _ _ _ _ _ _ _ _ _ _ _ _ _ _) ?_; clear tr
      refine then_n ?_
      refine at_ret rfl ?_
      refine then_r ?_
      refine fpure ?_
      first | rfl | rw [decide_eq_true (p4 (by assumption))] | simp
    · try simp only [decide_eq_true_eq, decide_eq_false_iff_not, Bool.not_eq_true', Bool.not_eq_false', beq_iff_eq, beq_eq_false_iff_ne, ne_eq] at h2
      refine Ry ?_
      refine Rq ?_
      refine Ry ?_
      refine Rq ?_
      refine Ry ?_
      refine Rq ?_
      refine Rq ?_
      have tr : ∀ y0 y1 y2 y3 y6 y7 y8 y9 y10 y11 y12 y13 y14 y15 y17 y30 y38 y67 z0 z1 z2 z3 z4 z5 z6 z7 z8 z9 z10 z11 z12 : AV, trim [(30, z12), (29, z11), (28, z10), (27, z9), (26, z8), (25, z7), (24, z6), (23, z5), (22, z4), (21, z3), (20, z2), (19, z1), (18, z0), (0, y0), (1, y1), (2, y2), (3, y3), (6, y6), (7, y7), (8, y8), (9, y9), (10, y10), (11, y11), (12, y12), (13, y13), (14, y14), (15, y15), (17, y17), (30, y30), (38, y38), (67, y67)] [(0, y0), (1, y1), (2, y2), (3, y3), (6, y6), (7, y7), (8, y8), (9, y9), (10, y10), (11, y11), (12, y12), (13, y13), (14, y14), (15, y15), (17, y17), (30, y30), (38, y38), (67, y67)] = [(0, y0), (1, y1), (2, y2), (3, y3), (6, y6), (7, y7), (8, y8), (9, y9), (10, y10), (11, y11), (12, y12), (13, y13), (14, y14), (15, y15), (17, y17), (30, z12), (38, y38), (67, y67)] := fun y0 y1 y2 y3 y6 y7 y8 y9 y10 y11 y12 y13 y14 y15 y17 y30 y38 y67 z0 z1 z2 z3 z4 z5 z6 z7 z8 z9 z10 z11 z12 => rfl
      refine R_nil (tr _ _ _ _ _ _ _ _ _ _ _ _ _ _ _ _ _ _ _ _ _ _ _ _ _ _ _ _ _ _ _) ?_; clear tr
      refine then_n ?_
      refine cdd (fun h3 => ?_) (fun h3 => ?_)
      · try simp only [decide_eq_true_eq, decide_eq_false_iff_not, Bool.not_eq_true', Bool.not_eq_false', beq_iff_eq, beq_eq_false_iff_ne, ne_eq] at h3
        refine at_seq rfl ?_
        refine rg rfl ?_
        refine Rq ?_
        have tr : ∀ y0 y1 y2 y3 y6 y7 y8 y9 y10 y11 y12 y13 y14 y15 y17 y30 y38 y67 z0 : AV, trim [(6, z0), (0, y0), (1, y1), (2, y2), (3, y3), (6, y6), (7, y7), (8, y8), (9, y9), (10, y10), (11, y11), (12, y12), (13, y13), (14, y14), (15, y15), (17, y17), (30, y30), (38, y38), (67, y67)] [(0, y0), (1, y1), (2, y2), (3, y3), (6, y6), (7, y7), (8, y8), (9, y9), (10, y10), (11, y11), (12, y12), (13, y13), (14, y14), (15, y15), (17, y17), (30, y30), (38, y38), (67, y67)] = [(0, y0), (1, y1), (2, y2), (3, y3), (6, z0), (7, y7), (8, y8), (9, y9), (10, y10), (11, y11), (12, y12), (13, y13), (14, y14), (15, y15), (17, y17), (30, y30), (38, y38), (67, y67)] := fun y0 y1 y2 y3 y6 y7 y8 y9 y10 y11 y12 y13 y14 y15 y17 y30 y38 y67 z0 => rfl
        refine R_nil (tr _ _ _ _ _ _ _ _ _ _ _ _ _ _ _ _ _ _ _) ?_; clear tr
        refine then_n ?_
        refine at_ret rfl ?_
        refine then_r ?_
        refine fpure ?_
        first | rfl | rw [decide_eq_true (p4 (by assumption))] | simp
      · try simp only [decide_eq_true_eq, decide_eq_false_iff_not, Bool.not_eq_true', Bool.not_eq_false', beq_iff_eq, beq_eq_false_iff_ne, ne_eq] at h3
        refine at_skip rfl ?_
        refine then_n ?_
        refine at_seq rfl ?_
        refine rg rfl ?_
        refine Rq ?_
        refine Rcall ?_
        refine ACall_eq (max_ok _ _ n s t E) ?_
        refine Rq ?_
        refine Rq ?_
        refine Rq ?_
        refine Rq ?_
        refine Rq ?_
        refine Rq ?_
        refine Rq ?_
        have tr : ∀ y0 y1 y2 y3 y6 y7 y8 y9 y10 y11 y12 y13 y14 y15 y17 y30 y38 y67 z0 z1 z2 z3 z4 z5 z6 z7 z8 : AV, trim [(9, z8), (8, z7), (7, z6), (36, z5), (35, z4), (34, z3), (31, z2), (33, z1), (32, z0), (0, y0), (1, y1), (2, y2), (3, y3), (6, y6), (7, y7), (8, y8), (9, y9), (10, y10), (11, y11), (12, y12), (13, y13), (14, y14), (15, y15), (17, y17), (30, y30), (38, y38), (67, y67)] [(0, y0), (1, y1), (2, y2), (3, y3), (6, y6), (7, y7), (8, y8), (9, y9), (10, y10), (11, y11), (12, y12), (13, y13), (14, y14), (15, y15), (17, y17), (30, y30), (38, y38), (67, y67)] = [(0, y0), (1, y1), (2, y2), (3, y3), (6, y6), (7, z6), (8, z7), (9, z8), (10, y10), (11, y11), (12, y12), (13, y13), (14, y14), (15, y15), (17, y17), (30, y30), (38, y38), (67, y67)] := fun y0 y1 y2 y3 y6 y7 y8 y9 y10 y11 y12 y13 y14 y15 y17 y30 y38 y67 z0 z1 z2 z3 z4 z5 z6 z7 z8 => rfl
        refine R_nil (tr _ _ _ _ _ _ _ _ _ _ _ _ _ _ _ _ _ _ _ _ _ _ _ _ _ _ _) ?_; clear tr
        refine then_n ?_
        refine at_seq rfl ?_
        refine at_seq rfl ?_
        refine rg rfl ?_
        refine Rq ?_
        refine Rq ?_
        have tr : ∀ y0 y1 y2 y3 y6 y7 y8 y9 y10 y11 y12 y13 y14 y15 y17 y30 y38 y67 z0 z1 : AV, trim [(38, z1), (37, z0), (0, y0), (1, y1), (2, y2), (3, y3), (6, y6), (7, y7), (8, y8), (9, y9), (10, y10), (11, y11), (12, y12), (13, y13), (14, y14), (15, y15), (17, y17), (30, y30), (38, y38), (67, y67)] [(0, y0), (1, y1), (2, y2), (3, y3), (6, y6), (7, y7), (8, y8), (9, y9), (10, y10), (11, y11), (12, y12), (13, y13), (14, y14), (15, y15), (17, y17), (30, y30), (38, y38), (67, y67)] = [(0, y0), (1, y1), (2, y2), (3, y3), (6, y6), (7, y7), (8, y8), (9, y9), (10, y10), (11, y11), (12, y12), (13, y13), (14, y14), (15, y15), (17, y17), (30, y30), (38, z1), (67, y67)] := fun y0 y1 y2 y3 y6 y7 y8 y9 y10 y11 y12 y13 y14 y15 y17 y30 y38 y67 z0 z1 => rfl
        refine R_nil (tr _ _ _ _ _ _ _ _ _ _ _ _ _ _ _ _ _ _ _ _) ?_; clear tr
        refine then_n ?_
        refine cdd (fun h4 => ?_) (fun h4 => ?_)
        · try simp only [decide_eq_true_eq, decide_eq_false_iff_not, Bool.not_eq_true', Bool.not_eq_false', beq_iff_eq, beq_eq_false_iff_ne, ne_eq] at h4
          refine at_seq rfl ?_
          refine rg rfl ?_
          refine Rq ?_
          refine R_q rfl (by simp (disch := first | omega | (simp only [List.length_map, List.length_append, List.length_set, List.length_cons, List.length_nil, List.length_take, List.length_drop]; omega)) only [go_sem, ↓reduceIte, Nat.reduceEqDiff, reduceCtorEq]; exact maxA_len0 (by assumption)) ?_
          refine Rq ?_
          refine Rq ?_
          refine Rp_split (fun h5 => ?_) (fun h5 => ?_)
          · try simp only [decide_eq_true_eq, decide_eq_false_iff_not, Bool.not_eq_true', Bool.not_eq_false', beq_iff_eq, beq_eq_false_iff_ne, ne_eq] at h5
            refine Ry ?_
            refine Rq ?_
            refine Ry ?_
            refine R_q rfl (by simp (disch := first | omega | (simp only [List.length_map, List.length_append, List.length_set, List.length_cons, List.length_nil, List.length_take, List.length_drop]; omega)) only [go_sem, ↓reduceIte, Nat.reduceEqDiff, reduceCtorEq]; exact maxB_len0 (by assumption)) ?_
            refine Ry ?_
            refine Rq ?_
            refine Rq ?_
            refine Rq ?_
            refine Rp_split (fun h6 => ?_) (fun h6 => ?_)
            · try simp only [decide_eq_true_eq, decide_eq_false_iff_not, Bool.not_eq_true', Bool.not_eq_false', beq_iff_eq, beq_eq_false_iff_ne, ne_eq] at h6
              refine Ry ?_
              refine Rq ?_
              refine Ry ?_
              refine Rq ?_
              refine Ry ?_
              refine Rcall ?_
              refine ACall_eq (check_ok _ _ n s t E) ?_
              refine Ry ?_
              refine Rq ?_
              refine Rq ?_
              refine Rq ?_
              have tr : ∀ y0 y1 y2 y3 y6 y7 y8 y9 y10 y11 y12 y13 y14 y15 y17 y30 y38 y67 z0 z1 z2 z3 z4 z5 z6 z7 z8 z9 z10 z11 z12 z13 z14 : AV, trim [(6, z14), (52, z13), (51, z12), (50, z11), (49, z10), (48, z9), (47, z8), (46, z7), (45, z6), (44, z5), (43, z4), (42, z3), (41, z2), (40, z1), (39, z0), (0, y0), (1, y1), (2, y2), (3, y3), (6, y6), (7, y7), (8, y8), (9, y9), (10, y10), (11, y11), (12, y12), (13, y13), (14, y14), (15, y15), (17, y17), (30, y30), (38, y38), (67, y67)] [(0, y0), (1, y1), (2, y2), (3, y3), (6, y6), (7, y7), (8, y8), (9, y9), (10, y10), (11, y11), (12, y12), (13, y13), (14, y14), (15, y15), (17, y17), (30, y30), (38, y38), (67, y67)] = [(0, y0), (1, y1), (2, y2), (3, y3), (6, z14), (7, y7), (8, y8), (9, y9), (10, y10), (11, y11), (12, y12), (13, y13), (14, y14), (15, y15), (17, y17), (30, y30), (38, y38), (67, y67)] := fun y0 y1 y2 y3 y6 y7 y8 y9 y10 y11 y12 y13 y14 y15 y17 y30 y38 y67 z0 z1 z2 z3 z4 z5 z6 z7 z8 z9 z10 z11 z12 z13 z14 => rfl
              refine R_nil (tr _ _ _ _ _ _ _ _ _ _ _ _ _ _ _ _ _ _ _ _ _ _ _ _ _ _ _ _ _ _ _ _ _) ?_; clear tr
              refine then_n ?_
              refine at_ret rfl ?_
              refine then_r ?_
              refine fpure ?_
              first | rfl | rw [decide_eq_true (p4 (by assumption))] | simp
            · try simp only [decide_eq_true_eq, decide_eq_false_iff_not, Bool.not_eq_true', Bool.not_eq_false', beq_iff_eq, beq_eq_false_iff_ne, ne_eq] at h6
              first | omega | exact absurd rfl (by assumption) | exact absurd trivial (by assumption)
          · try simp only [decide_eq_true_eq, decide_eq_false_iff_not, Bool.not_eq_true', Bool.not_eq_false', beq_iff_eq, beq_eq_false_iff_ne, ne_eq] at h5
            first | omega | exact absurd rfl (by assumption) | exact absurd trivial (by assumption)
        · try simp only [decide_eq_true_eq, decide_eq_false_iff_not, Bool.not_eq_true', Bool.not_eq_false', beq_iff_eq, beq_eq_false_iff_ne, ne_eq] at h4
          refine at_skip rfl ?_
          refine then_n ?_
          refine at_seq rfl ?_
          refine rg rfl ?_
          have hg0 : gchkS n s t E = 0 := by assumption
          rewrite [maxA_is hg0, maxB_is hg0]
          obtain ⟨p1, p2, p3, p4⟩ := max_proves hg0 f cut
          refine Rq ?_
          refine Rq ?_
          refine Rcall ?_
          refine ACall_eq (value_ok _ _ n s t E (maxF n s t E)) ?_
          refine Rq ?_
          refine Rq ?_
          refine Rq ?_
          refine Rq ?_
          refine Rq ?_
          have tr : ∀ y0 y1 y2 y3 y6 y7 y8 y9 y10 y11 y12 y13 y14 y15 y17 y30 y38 y67 z0 z1 z2 z3 z4 z5 z6 z7 : AV, trim [(11, z7), (10, z6), (58, z5), (57, z4), (53, z3), (56, z2), (55, z1), (54, z0), (0, y0), (1, y1), (2, y2), (3, y3), (6, y6), (7, y7), (8, y8), (9, y9), (10, y10), (11, y11), (12, y12), (13, y13), (14, y14), (15, y15), (17, y17), (30, y30), (38, y38), (67, y67)] [(0, y0), (1, y1), (2, y2), (3, y3), (6, y6), (7, y7), (8, y8), (9, y9), (10, y10), (11, y11), (12, y12), (13, y13), (14, y14), (15, y15), (17, y17), (30, y30), (38, y38), (67, y67)] = [(0, y0), (1, y1), (2, y2), (3, y3), (6, y6), (7, y7), (8, y8), (9, y9), (10, z6), (11, z7), (12, y12), (13, y13), (14, y14), (15, y15), (17, y17), (30, y30), (38, y38), (67, y67)] := fun y0 y1 y2 y3 y6 y7 y8 y9 y10 y11 y12 y13 y14 y15 y17 y30 y38 y67 z0 z1 z2 z3 z4 z5 z6 z7 => rfl
          refine R_nil (tr _ _ _ _ _ _ _ _ _ _ _ _ _ _ _ _ _ _ _ _ _ _ _ _ _ _) ?_; clear tr
          refine then_n ?_
          refine at_seq rfl ?_
          refine at_seq rfl ?_
          refine rg rfl ?_
          refine Rq ?_
          refine Rq ?_
          refine Rq ?_
          refine Rp_split (fun h7 => ?_) (fun h7 => ?_)
          · try simp only [decide_eq_true_eq, decide_eq_false_iff_not, Bool.not_eq_true', Bool.not_eq_false', beq_iff_eq, beq_eq_false_iff_ne, ne_eq] at h7
            first | omega | exact absurd rfl (by assumption) | exact absurd trivial (by assumption)
          · try simp only [decide_eq_true_eq, decide_eq_false_iff_not, Bool.not_eq_true', Bool.not_eq_false', beq_iff_eq, beq_eq_false_iff_ne, ne_eq] at h7
            refine Ry ?_
            refine Rq ?_
            refine Ry ?_
            refine Rq ?_
            refine Ry ?_
            refine Rq ?_
            refine Ry ?_
            refine Rcall ?_
            refine ACall_eq (accept_ok _ _ n s t E (maxF n s t E) (reachS n s E (maxF n s t E)).seen) ?_
            refine Ry ?_
            refine Rq ?_
            refine Rq ?_
            have tr : ∀ y0 y1 y2 y3 y6 y7 y8 y9 y10 y11 y12 y13 y14 y15 y17 y30 y38 y67 z0 z1 z2 z3 z4 z5 z6 z7 z8 : AV, trim [(67, z8), (66, z7), (65, z6), (64, z5), (63, z4), (62, z3), (61, z2), (60, z1), (59, z0), (0, y0), (1, y1), (2, y2), (3, y3), (6, y6), (7, y7), (8, y8), (9, y9), (10, y10), (11, y11), (12, y12), (13, y13), (14, y14), (15, y15), (17, y17), (30, y30), (38, y38), (67, y67)] [(0, y0), (1, y1), (2, y2), (3, y3), (6, y6), (7, y7), (8, y8), (9, y9), (10, y10), (11, y11), (12, y12), (13, y13), (14, y14), (15, y15), (17, y17), (30, y30), (38, y38), (67, y67)] = [(0, y0), (1, y1), (2, y2), (3, y3), (6, y6), (7, y7), (8, y8), (9, y9), (10, y10), (11, y11), (12, y12), (13, y13), (14, y14), (15, y15), (17, y17), (30, y30), (38, y38), (67, z8)] := fun y0 y1 y2 y3 y6 y7 y8 y9 y10 y11 y12 y13 y14 y15 y17 y30 y38 y67 z0 z1 z2 z3 z4 z5 z6 z7 z8 => rfl
            refine R_nil (tr _ _ _ _ _ _ _ _ _ _ _ _ _ _ _ _ _ _ _ _ _ _ _ _ _ _ _) ?_; clear tr
            refine then_n ?_
            refine cdd (fun h8 => ?_) (fun h8 => ?_)
            · try simp only [decide_eq_true_eq, decide_eq_false_iff_not, Bool.not_eq_true', Bool.not_eq_false', beq_iff_eq, beq_eq_false_iff_ne, ne_eq] at h8
              first | omega | exact absurd rfl (by assumption) | exact absurd trivial (by assumption)
            · try simp only [decide_eq_true_eq, decide_eq_false_iff_not, Bool.not_eq_true', Bool.not_eq_false', beq_iff_eq, beq_eq_false_iff_ne, ne_eq] at h8
              refine at_skip rfl ?_
              refine then_n ?_
              refine at_seq rfl ?_
              refine rg rfl ?_
              refine Rq ?_
              refine Rq ?_
              refine Rcall ?_
              refine ACall_eq (value_ok _ _ n s t E f) ?_
              refine Rq ?_
              refine Rq ?_
              refine Rq ?_
              refine Rq ?_
              refine Rq ?_
              have tr : ∀ y0 y1 y2 y3 y6 y7 y8 y9 y10 y11 y12 y13 y14 y15 y17 y30 y38 y67 z0 z1 z2 z3 z4 z5 z6 z7 : AV, trim [(13, z7), (12, z6), (73, z5), (72, z4), (68, z3), (71, z2), (70, z1), (69, z0), (0, y0), (1, y1), (2, y2), (3, y3), (6, y6), (7, y7), (8, y8), (9, y9), (10, y10), (11, y11), (12, y12), (13, y13), (14, y14), (15, y15), (17, y17), (30, y30), (38, y38), (67, y67)] [(0, y0), (1, y1), (2, y2), (3, y3), (6, y6), (7, y7), (8, y8), (9, y9), (10, y10), (11, y11), (12, y12), (13, y13), (14, y14), (15, y15), (17, y17), (30, y30), (38, y38), (67, y67)] = [(0, y0), (1, y1), (2, y2), (3, y3), (6, y6), (7, y7), (8, y8), (9, y9), (10, y10), (11, y11), (12, z6), (13, z7), (14, y14), (15, y15), (17, y17), (30, y30), (38, y38), (67, y67)] := fun y0 y1 y2 y3 y6 y7 y8 y9 y10 y11 y12 y13 y14 y15 y17 y30 y38 y67 z0 z1 z2 z3 z4 z5 z6 z7 => rfl
              refine R_nil (tr _ _ _ _ _ _ _ _ _ _ _ _ _ _ _ _ _ _ _ _ _ _ _ _ _ _) ?_; clear tr
              refine then_n ?_
              refine at_seq rfl ?_
              refine rg rfl ?_
              refine Rq ?_
              refine Rq ?_
              refine Rcall ?_
              refine ACall_eq (cap_ok _ _ n s t E cut) ?_
              refine Rq ?_
              refine Rq ?_
              refine Rq ?_
              refine Rq ?_
              refine Rq ?_
              have tr : ∀ y0 y1 y2 y3 y6 y7 y8 y9 y10 y11 y12 y13 y14 y15 y17 y30 y38 y67 z0 z1 z2 z3 z4 z5 z6 z7 : AV, trim [(15, z7), (14, z6), (79, z5), (78, z4), (74, z3), (77, z2), (76, z1), (75, z0), (0, y0), (1, y1), (2, y2), (3, y3), (6, y6), (7, y7), (8, y8), (9, y9), (10, y10), (11, y11), (12, y12), (13, y13), (14, y14), (15, y15), (17, y17), (30, y30), (38, y38), (67, y67)] [(0, y0), (1, y1), (2, y2), (3, y3), (6, y6), (7, y7), (8, y8), (9, y9), (10, y10), (11, y11), (12, y12), (13, y13), (14, y14), (15, y15), (17, y17), (30, y30), (38, y38), (67, y67)] = [(0, y0), (1, y1), (2, y2), (3, y3), (6, y6), (7, y7), (8, y8), (9, y9), (10, y10), (11, y11), (12, y12), (13, y13), (14, z6), (15, z7), (17, y17), (30, y30), (38, y38), (67, y67)] := fun y0 y1 y2 y3 y6 y7 y8 y9 y10 y11 y12 y13 y14 y15 y17 y30 y38 y67 z0 z1 z2 z3 z4 z5 z6 z7 => rfl
              refine R_nil (tr _ _ _ _ _ _ _ _ _ _ _ _ _ _ _ _ _ _ _ _ _ _ _ _ _ _) ?_; clear tr
              refine then_n ?_
              refine at_seq rfl ?_
              refine rg rfl ?_
              refine Rq ?_
              refine Rq ?_
              refine Rq ?_
              refine Rp_split (fun h9 => ?_) (fun h9 => ?_)
              · try simp only [decide_eq_true_eq, decide_eq_false_iff_not, Bool.not_eq_true', Bool.not_eq_false', beq_iff_eq, beq_eq_false_iff_ne, ne_eq] at h9
                refine Rn ?_
                refine Rn ?_
                refine Rn ?_
                refine Rq ?_
                refine Rq ?_
                refine Ry ?_
                refine Rq ?_
                refine Ry ?_
                refine Rq ?_
                refine Ry ?_
                refine Rq ?_
                refine Rp_split (fun h10 => ?_) (fun h10 => ?_)
                · try simp only [decide_eq_true_eq, decide_eq_false_iff_not, Bool.not_eq_true', Bool.not_eq_false', beq_iff_eq, beq_eq_false_iff_ne, ne_eq] at h10
                  refine Rn ?_
                  refine Rn ?_
                  refine Rn ?_
                  refine Ry ?_
                  refine Rq ?_
                  refine Rq ?_
                  refine Rq ?_
                  have tr : ∀ y0 y1 y2 y3 y6 y7 y8 y9 y10 y11 y12 y13 y14 y15 y17 y30 y38 y67 z0 z1 z2 z3 z4 z5 z6 z7 z8 z9 z10 z11 z12 z13 z14 z15 z16 : AV, trim [(6, z16), (95, z15), (94, z14), (93, z13), (92, z12), (91, z11), (90, z10), (89, z9), (88, z8), (87, z7), (86, z6), (85, z5), (84, z4), (83, z3), (82, z2), (81, z1), (80, z0), (0, y0), (1, y1), (2, y2), (3, y3), (6, y6), (7, y7), (8, y8), (9, y9), (10, y10), (11, y11), (12, y12), (13, y13), (14, y14), (15, y15), (17, y17), (30, y30), (38, y38), (67, y67)] [(0, y0), (1, y1), (2, y2), (3, y3), (6, y6), (7, y7), (8, y8), (9, y9), (10, y10), (11, y11), (12, y12), (13, y13), (14, y14), (15, y15), (17, y17), (30, y30), (38, y38), (67, y67)] = [(0, y0), (1, y1), (2, y2), (3, y3), (6, z16), (7, y7), (8, y8), (9, y9), (10, y10), (11, y11), (12, y12), (13, y13), (14, y14), (15, y15), (17, y17), (30, y30), (38, y38), (67, y67)] := fun y0 y1 y2 y3 y6 y7 y8 y9 y10 y11 y12 y13 y14 y15 y17 y30 y38 y67 z0 z1 z2 z3 z4 z5 z6 z7 z8 z9 z10 z11 z12 z13 z14 z15 z16 => rfl
                  refine R_nil (tr _ _ _ _ _ _ _ _ _ _ _ _ _ _ _ _ _ _ _ _ _ _ _ _ _ _ _ _ _ _ _ _ _ _ _) ?_; clear tr
                  refine then_n ?_
                  refine at_ret rfl ?_
                  refine fpure ?_
                  first | rfl | rw [decide_eq_true (p4 (by assumption))] | simp
                · try simp only [decide_eq_true_eq, decide_eq_false_iff_not, Bool.not_eq_true', Bool.not_eq_false', beq_iff_eq, beq_eq_false_iff_ne, ne_eq] at h10
                  refine Ry ?_
                  refine Rq ?_
                  refine Ry ?_
                  refine Rq ?_
                  refine Ry ?_
                  refine Rq ?_
                  refine Ry ?_
                  refine Rq ?_
                  refine Rq ?_
                  refine Rq ?_
                  have tr : ∀ y0 y1 y2 y3 y6 y7 y8 y9 y10 y11 y12 y13 y14 y15 y17 y30 y38 y67 z0 z1 z2 z3 z4 z5 z6 z7 z8 z9 z10 z11 z12 z13 z14 z15 z16 : AV, trim [(6, z16), (95, z15), (94, z14), (93, z13), (92, z12), (91, z11), (90, z10), (89, z9), (88, z8), (87, z7), (86, z6), (85, z5), (84, z4), (83, z3), (82, z2), (81, z1), (80, z0), (0, y0), (1, y1), (2, y2), (3, y3), (6, y6), (7, y7), (8, y8), (9, y9), (10, y10), (11, y11), (12, y12), (13, y13), (14, y14), (15, y15), (17, y17), (30, y30), (38, y38), (67, y67)] [(0, y0), (1, y1), (2, y2), (3, y3), (6, y6), (7, y7), (8, y8), (9, y9), (10, y10), (11, y11), (12, y12), (13, y13), (14, y14), (15, y15), (17, y17), (30, y30), (38, y38), (67, y67)] = [(0, y0), (1, y1), (2, y2), (3, y3), (6, z16), (7, y7), (8, y8), (9, y9), (10, y10), (11, y11), (12, y12), (13, y13), (14, y14), (15, y15), (17, y17), (30, y30), (38, y38), (67, y67)] := fun y0 y1 y2 y3 y6 y7 y8 y9 y10 y11 y12 y13 y14 y15 y17 y30 y38 y67 z0 z1 z2 z3 z4 z5 z6 z7 z8 z9 z10 z11 z12 z13 z14 z15 z16 => rfl
                  refine R_nil (tr _ _ _ _ _ _ _ _ _ _ _ _ _ _ _ _ _ _ _ _ _ _ _ _ _ _ _ _ _ _ _ _ _ _ _) ?_; clear tr
                  refine then_n ?_
                  refine at_ret rfl ?_
                  refine fpure ?_
                  first | rfl | rw [decide_eq_true (p4 (by assumption))] | simp
              · try simp only [decide_eq_true_eq, decide_eq_false_iff_not, Bool.not_eq_true', Bool.not_eq_false', beq_iff_eq, beq_eq_false_iff_ne, ne_eq] at h9
                refine Ry ?_
                refine Rq ?_
                refine Ry ?_
                refine Rq ?_
                refine Ry ?_
                refine Rq ?_
                refine Rq ?_
                refine Rq ?_
                refine Rp_split (fun h11 => ?_) (fun h11 => ?_)
                · try simp only [decide_eq_true_eq, decide_eq_false_iff_not, Bool.not_eq_true', Bool.not_eq_false', beq_iff_eq, beq_eq_false_iff_ne, ne_eq] at h11
                  refine Ry ?_
                  refine Rq ?_
                  refine Ry ?_
                  refine Rq ?_
                  refine Ry ?_
                  refine Rq ?_
                  refine Rp_split (fun h12 => ?_) (fun h12 => ?_)
                  · try simp only [decide_eq_true_eq, decide_eq_false_iff_not, Bool.not_eq_true', Bool.not_eq_false', beq_iff_eq, beq_eq_false_iff_ne, ne_eq] at h12
                    refine Rn ?_
                    refine Rn ?_
                    refine Rn ?_
                    refine Ry ?_
                    refine Rq ?_
                    refine Rq ?_
                    refine Rq ?_
                    have tr : ∀ y0 y1 y2 y3 y6 y7 y8 y9 y10 y11 y12 y13 y14 y15 y17 y30 y38 y67 z0 z1 z2 z3 z4 z5 z6 z7 z8 z9 z10 z11 z12 z13 z14 z15 z16 : AV, trim [(6, z16), (95, z15), (94, z14), (93, z13), (92, z12), (91, z11), (90, z10), (89, z9), (88, z8), (87, z7), (86, z6), (85, z5), (84, z4), (83, z3), (82, z2), (81, z1), (80, z0), (0, y0), (1, y1), (2, y2), (3, y3), (6, y6), (7, y7), (8, y8), (9, y9), (10, y10), (11, y11), (12, y12), (13, y13), (14, y14), (15, y15), (17, y17), (30, y30), (38, y38), (67, y67)] [(0, y0), (1, y1), (2, y2), (3, y3), (6, y6), (7, y7), (8, y8), (9, y9), (10, y10), (11, y11), (12, y12), (13, y13), (14, y14), (15, y15), (17, y17), (30, y30), (38, y38), (67, y67)] = [(0, y0), (1, y1), (2, y2), (3, y3), (6, z16), (7, y7), (8, y8), (9, y9), (10, y10), (11, y11), (12, y12), (13, y13), (14, y14), (15, y15), (17, y17), (30, y30), (38, y38), (67, y67)] := fun y0 y1 y2 y3 y6 y7 y8 y9 y10 y11 y12 y13 y14 y15 y17 y30 y38 y67 z0 z1 z2 z3 z4 z5 z6 z7 z8 z9 z10 z11 z12 z13 z14 z15 z16 => rfl
                    refine R_nil (tr _ _ _ _ _ _ _ _ _ _ _ _ _ _ _ _ _ _ _ _ _ _ _ _ _ _ _ _ _ _ _ _ _ _ _) ?_; clear tr
                    refine then_n ?_
                    refine at_ret rfl ?_
                    refine fpure ?_
                    first | rfl | rw [decide_eq_true (p4 (by assumption))] | simp
                  · try simp only [decide_eq_true_eq, decide_eq_false_iff_not, Bool.not_eq_true', Bool.not_eq_false', beq_iff_eq, beq_eq_false_iff_ne, ne_eq] at h12
                    refine Ry ?_
                    refine Rq ?_
                    refine Ry ?_
                    refine Rq ?_
                    refine Ry ?_
                    refine Rq ?_
                    refine Ry ?_
                    refine Rq ?_
                    refine Rq ?_
                    refine Rq ?_
                    have tr : ∀ y0 y1 y2 y3 y6 y7 y8 y9 y10 y11 y12 y13 y14 y15 y17 y30 y38 y67 z0 z1 z2 z3 z4 z5 z6 z7 z8 z9 z10 z11 z12 z13 z14 z15 z16 : AV, trim [(6, z16), (95, z15), (94, z14), (93, z13), (92, z12), (91, z11), (90, z10), (89, z9), (88, z8), (87, z7), (86, z6), (85, z5), (84, z4), (83, z3), (82, z2), (81, z1), (80, z0), (0, y0), (1, y1), (2, y2), (3, y3), (6, y6), (7, y7), (8, y8), (9, y9), (10, y10), (11, y11), (12, y12), (13, y13), (14, y14), (15, y15), (17, y17), (30, y30), (38, y38), (67, y67)] [(0, y0), (1, y1), (2, y2), (3, y3), (6, y6), (7, y7), (8, y8), (9, y9), (10, y10), (11, y11), (12, y12), (13, y13), (14, y14), (15, y15), (17, y17), (30, y30), (38, y38), (67, y67)] = [(0, y0), (1, y1), (2, y2), (3, y3), (6, z16), (7, y7), (8, y8), (9, y9), (10, y10), (11, y11), (12, y12), (13, y13), (14, y14), (15, y15), (17, y17), (30, y30), (38, y38), (67, y67)] := fun y0 y1 y2 y3 y6 y7 y8 y9 y10 y11 y12 y13 y14 y15 y17 y30 y38 y67 z0 z1 z2 z3 z4 z5 z6 z7 z8 z9 z10 z11 z12 z13 z14 z15 z16 => rfl
                    refine R_nil (tr _ _ _ _ _ _ _ _ _ _ _ _ _ _ _ _ _ _ _ _ _ _ _ _ _ _ _ _ _ _ _ _ _ _ _) ?_; clear tr
                    refine then_n ?_
                    refine at_ret rfl ?_
                    refine fpure ?_
                    first | rfl | rw [decide_eq_true (p4 (by assumption))] | simp
                · try simp only [decide_eq_true_eq, decide_eq_false_iff_not, Bool.not_eq_true', Bool.not_eq_false', beq_iff_eq, beq_eq_false_iff_ne, ne_eq] at h11
                  exact absurd (p3 (by assumption)) (by omega)

end Go.Proofs.Ytdicnojnkbmdlaa
