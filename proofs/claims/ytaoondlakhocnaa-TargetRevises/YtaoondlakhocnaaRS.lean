/-
  Walks of chapters 37, 39 and 40. The steps are written by program (walk.py).
-/
import Derived.Test.YtaoondlakhocnaaRP
import Derived.Test.YtaoondlakhocnaaRQ
set_option linter.unusedSimpArgs false
set_option linter.unusedVariables false
set_option maxHeartbeats 40000000
set_option maxRecDepth 4000
namespace Go.Proofs.Ytaoondlakhocnaa
open Go Go.Am

theorem trevises_ok (a b c e f lf : Int) : ACall sig 0 4 [.agg [AV.i a, AV.i b, AV.i c, AV.i e, AV.i f], AV.i lf] [] fun r _ => r = .v (.bool true) := by
  refine ACall_pure (fa := fa4) rfl rfl rfl rfl ?_
  have tr : ∀ a0 a1 : AV, env0 fa4.keep [a0, a1] = [(0, a0), (1, a1), (2, .any), (4, .any), (5, .any), (6, .any), (7, .any), (8, .any), (9, .any), (10, .any), (11, .any), (12, .any), (14, .any)] := fun a0 a1 => rfl
  refine W_to (tr _ _) ?_; clear tr
  refine at_seq rfl ?_
  refine rg rfl ?_
  refine R_box rfl (by simp (disch := first | omega | (simp only [List.length_map, List.length_append, List.length_set, List.length_cons, List.length_nil, List.length_take, List.length_drop]; omega)) only [go_sem, ↓reduceIte, Nat.reduceEqDiff, reduceCtorEq]; rfl) rfl rfl ?_
  refine Rq ?_
  have tr : ∀ y0 y1 y2 y4 y5 y6 y7 y8 y9 y10 y11 y12 y14 z0 z1 : AV, trim [(4, z1), (2, z0), (0, y0), (1, y1), (2, y2), (4, y4), (5, y5), (6, y6), (7, y7), (8, y8), (9, y9), (10, y10), (11, y11), (12, y12), (14, y14)] [(0, y0), (1, y1), (2, y2), (4, y4), (5, y5), (6, y6), (7, y7), (8, y8), (9, y9), (10, y10), (11, y11), (12, y12), (14, y14)] = [(0, y0), (1, y1), (2, z0), (4, z1), (5, y5), (6, y6), (7, y7), (8, y8), (9, y9), (10, y10), (11, y11), (12, y12), (14, y14)] := fun y0 y1 y2 y4 y5 y6 y7 y8 y9 y10 y11 y12 y14 z0 z1 => rfl
  refine R_nil (tr _ _ _ _ _ _ _ _ _ _ _ _ _ _ _) ?_; clear tr
  refine then_n ?_
  refine at_seq rfl ?_
  refine at_seq rfl ?_
  refine rg rfl ?_
  refine Rcall ?_
  refine ACall_eval 300 (awake_s _ _ _ _ _ _) ?_
  refine Rq ?_
  have tr : ∀ y0 y1 y2 y4 y5 y6 y7 y8 y9 y10 y11 y12 y14 z0 z1 : AV, trim [(14, z1), (13, z0), (0, y0), (1, y1), (2, y2), (4, y4), (5, y5), (6, y6), (7, y7), (8, y8), (9, y9), (10, y10), (11, y11), (12, y12), (14, y14)] [(0, y0), (1, y1), (2, y2), (4, y4), (5, y5), (6, y6), (7, y7), (8, y8), (9, y9), (10, y10), (11, y11), (12, y12), (14, y14)] = [(0, y0), (1, y1), (2, y2), (4, y4), (5, y5), (6, y6), (7, y7), (8, y8), (9, y9), (10, y10), (11, y11), (12, y12), (14, z1)] := fun y0 y1 y2 y4 y5 y6 y7 y8 y9 y10 y11 y12 y14 z0 z1 => rfl
  refine R_nil (tr _ _ _ _ _ _ _ _ _ _ _ _ _ _ _) ?_; clear tr
  refine then_n ?_
  refine cdf ?_
  refine at_skip rfl ?_
  refine then_n ?_
  refine at_seq rfl ?_
  refine rg rfl ?_
  refine Rq ?_
  refine Rq ?_
  refine Rq ?_
  refine Rq ?_
  refine Rq ?_
  refine Rq ?_
  refine Rq ?_
  refine Rq ?_
  refine Rq ?_
  refine Rq ?_
  refine Rcall ?_
  refine ACall_eq (rev_ok _ _ a b c e f) ?_
  refine Rq ?_
  refine Rq ?_
  refine Rq ?_
  refine Rq ?_
  refine Rq ?_
  have tr : ∀ y0 y1 y2 y4 y5 y6 y7 y8 y9 y10 y11 y12 y14 z0 z1 z2 z3 z4 z5 z6 z7 z8 z9 z10 z11 z12 z13 z14 z15 : AV, trim [(6, z15), (5, z14), (28, z13), (27, z12), (15, z11), (26, z10), (25, z9), (24, z8), (23, z7), (22, z6), (21, z5), (20, z4), (19, z3), (18, z2), (17, z1), (16, z0), (0, y0), (1, y1), (2, y2), (4, y4), (5, y5), (6, y6), (7, y7), (8, y8), (9, y9), (10, y10), (11, y11), (12, y12), (14, y14)] [(0, y0), (1, y1), (2, y2), (4, y4), (5, y5), (6, y6), (7, y7), (8, y8), (9, y9), (10, y10), (11, y11), (12, y12), (14, y14)] = [(0, y0), (1, y1), (2, y2), (4, y4), (5, z14), (6, z15), (7, y7), (8, y8), (9, y9), (10, y10), (11, y11), (12, y12), (14, y14)] := fun y0 y1 y2 y4 y5 y6 y7 y8 y9 y10 y11 y12 y14 z0 z1 z2 z3 z4 z5 z6 z7 z8 z9 z10 z11 z12 z13 z14 z15 => rfl
  refine R_nil (tr _ _ _ _ _ _ _ _ _ _ _ _ _ _ _ _ _ _ _ _ _ _ _ _ _ _ _ _ _) ?_; clear tr
  refine then_n ?_
  refine at_seq rfl ?_
  refine rg rfl ?_
  refine Rq ?_
  refine Rq ?_
  refine Rq ?_
  refine Rq ?_
  refine Rq ?_
  refine Rq ?_
  refine Rq ?_
  refine Rq ?_
  refine Rq ?_
  refine Rq ?_
  refine Rcall ?_
  refine ACall_eq (rrev_ok _ _ a b c e f) ?_
  refine Rq ?_
  refine Rq ?_
  refine Rq ?_
  refine Rq ?_
  refine Rq ?_
  have tr : ∀ y0 y1 y2 y4 y5 y6 y7 y8 y9 y10 y11 y12 y14 z0 z1 z2 z3 z4 z5 z6 z7 z8 z9 z10 z11 z12 z13 z14 z15 : AV, trim [(8, z15), (7, z14), (42, z13), (41, z12), (29, z11), (40, z10), (39, z9), (38, z8), (37, z7), (36, z6), (35, z5), (34, z4), (33, z3), (32, z2), (31, z1), (30, z0), (0, y0), (1, y1), (2, y2), (4, y4), (5, y5), (6, y6), (7, y7), (8, y8), (9, y9), (10, y10), (11, y11), (12, y12), (14, y14)] [(0, y0), (1, y1), (2, y2), (4, y4), (5, y5), (6, y6), (7, y7), (8, y8), (9, y9), (10, y10), (11, y11), (12, y12), (14, y14)] = [(0, y0), (1, y1), (2, y2), (4, y4), (5, y5), (6, y6), (7, z14), (8, z15), (9, y9), (10, y10), (11, y11), (12, y12), (14, y14)] := fun y0 y1 y2 y4 y5 y6 y7 y8 y9 y10 y11 y12 y14 z0 z1 z2 z3 z4 z5 z6 z7 z8 z9 z10 z11 z12 z13 z14 z15 => rfl
  refine R_nil (tr _ _ _ _ _ _ _ _ _ _ _ _ _ _ _ _ _ _ _ _ _ _ _ _ _ _ _ _ _) ?_; clear tr
  refine then_n ?_
  refine at_seq rfl ?_
  refine rg rfl ?_
  refine Rq ?_
  refine Rq ?_
  refine Rq ?_
  refine Rq ?_
  refine Rq ?_
  refine Rq ?_
  refine Rq ?_
  refine Rq ?_
  refine Rq ?_
  refine Rq ?_
  refine Rq ?_
  refine Rcall ?_
  refine ACall_eq (par_ok _ _ a b c lf e f) ?_
  refine Rq ?_
  refine Rq ?_
  refine Rq ?_
  refine Rq ?_
  refine Rq ?_
  have tr : ∀ y0 y1 y2 y4 y5 y6 y7 y8 y9 y10 y11 y12 y14 z0 z1 z2 z3 z4 z5 z6 z7 z8 z9 z10 z11 z12 z13 z14 z15 z16 : AV, trim [(10, z16), (9, z15), (57, z14), (56, z13), (43, z12), (55, z11), (54, z10), (53, z9), (52, z8), (51, z7), (50, z6), (49, z5), (48, z4), (47, z3), (46, z2), (45, z1), (44, z0), (0, y0), (1, y1), (2, y2), (4, y4), (5, y5), (6, y6), (7, y7), (8, y8), (9, y9), (10, y10), (11, y11), (12, y12), (14, y14)] [(0, y0), (1, y1), (2, y2), (4, y4), (5, y5), (6, y6), (7, y7), (8, y8), (9, y9), (10, y10), (11, y11), (12, y12), (14, y14)] = [(0, y0), (1, y1), (2, y2), (4, y4), (5, y5), (6, y6), (7, y7), (8, y8), (9, z15), (10, z16), (11, y11), (12, y12), (14, y14)] := fun y0 y1 y2 y4 y5 y6 y7 y8 y9 y10 y11 y12 y14 z0 z1 z2 z3 z4 z5 z6 z7 z8 z9 z10 z11 z12 z13 z14 z15 z16 => rfl
  refine R_nil (tr _ _ _ _ _ _ _ _ _ _ _ _ _ _ _ _ _ _ _ _ _ _ _ _ _ _ _ _ _ _) ?_; clear tr
  refine then_n ?_
  refine at_seq rfl ?_
  refine rg rfl ?_
  refine Rq ?_
  refine Rq ?_
  refine Rq ?_
  refine Rq ?_
  refine Rq ?_
  refine Rq ?_
  refine Rq ?_
  refine Rq ?_
  refine Rq ?_
  refine Rq ?_
  refine Rq ?_
  refine Rcall ?_
  refine ACall_eq (rpar_ok _ _ a b c lf e f) ?_
  refine Rq ?_
  refine Rq ?_
  refine Rq ?_
  refine Rq ?_
  refine Rq ?_
  have tr : ∀ y0 y1 y2 y4 y5 y6 y7 y8 y9 y10 y11 y12 y14 z0 z1 z2 z3 z4 z5 z6 z7 z8 z9 z10 z11 z12 z13 z14 z15 z16 : AV, trim [(12, z16), (11, z15), (72, z14), (71, z13), (58, z12), (70, z11), (69, z10), (68, z9), (67, z8), (66, z7), (65, z6), (64, z5), (63, z4), (62, z3), (61, z2), (60, z1), (59, z0), (0, y0), (1, y1), (2, y2), (4, y4), (5, y5), (6, y6), (7, y7), (8, y8), (9, y9), (10, y10), (11, y11), (12, y12), (14, y14)] [(0, y0), (1, y1), (2, y2), (4, y4), (5, y5), (6, y6), (7, y7), (8, y8), (9, y9), (10, y10), (11, y11), (12, y12), (14, y14)] = [(0, y0), (1, y1), (2, y2), (4, y4), (5, y5), (6, y6), (7, y7), (8, y8), (9, y9), (10, y10), (11, z15), (12, z16), (14, y14)] := fun y0 y1 y2 y4 y5 y6 y7 y8 y9 y10 y11 y12 y14 z0 z1 z2 z3 z4 z5 z6 z7 z8 z9 z10 z11 z12 z13 z14 z15 z16 => rfl
  refine R_nil (tr _ _ _ _ _ _ _ _ _ _ _ _ _ _ _ _ _ _ _ _ _ _ _ _ _ _ _ _ _ _) ?_; clear tr
  refine then_n ?_
  refine at_seq rfl ?_
  refine rg rfl ?_
  refine Rq ?_
  refine Rq ?_
  refine Rq ?_
  refine Rq ?_
  refine Rp_split (fun h1 => ?_) (fun h1 => ?_)
  · try simp only [decide_eq_true_eq, decide_eq_false_iff_not, Bool.not_eq_true', Bool.not_eq_false', beq_iff_eq, beq_eq_false_iff_ne, ne_eq] at h1
    refine Ry ?_
    refine Rq ?_
    refine Ry ?_
    refine Rq ?_
    refine Ry ?_
    refine Rq ?_
    refine Rq ?_
    refine Rq ?_
    refine Rp_split (fun h2 => ?_) (fun h2 => ?_)
    · try simp only [decide_eq_true_eq, decide_eq_false_iff_not, Bool.not_eq_true', Bool.not_eq_false', beq_iff_eq, beq_eq_false_iff_ne, ne_eq] at h2
      refine Ry ?_
      refine Rq ?_
      refine Ry ?_
      refine Rq ?_
      refine Ry ?_
      refine Rq ?_
      refine Rq ?_
      refine Rq ?_
      refine Rp_split (fun h3 => ?_) (fun h3 => ?_)
      · try simp only [decide_eq_true_eq, decide_eq_false_iff_not, Bool.not_eq_true', Bool.not_eq_false', beq_iff_eq, beq_eq_false_iff_ne, ne_eq] at h3
        refine Ry ?_
        refine Rq ?_
        refine Ry ?_
        refine Rq ?_
        refine Ry ?_
        refine Rq ?_
        refine Rq ?_
        refine Rq ?_
        have tr : ∀ y0 y1 y2 y4 y5 y6 y7 y8 y9 y10 y11 y12 y14 z0 z1 z2 z3 z4 z5 z6 z7 z8 z9 z10 z11 z12 z13 z14 z15 z16 z17 z18 : AV, trim [(4, z18), (90, z17), (89, z16), (88, z15), (87, z14), (86, z13), (85, z12), (84, z11), (83, z10), (82, z9), (81, z8), (80, z7), (79, z6), (78, z5), (77, z4), (76, z3), (75, z2), (74, z1), (73, z0), (0, y0), (1, y1), (2, y2), (4, y4), (5, y5), (6, y6), (7, y7), (8, y8), (9, y9), (10, y10), (11, y11), (12, y12), (14, y14)] [(0, y0), (1, y1), (2, y2), (4, y4), (5, y5), (6, y6), (7, y7), (8, y8), (9, y9), (10, y10), (11, y11), (12, y12), (14, y14)] = [(0, y0), (1, y1), (2, y2), (4, z18), (5, y5), (6, y6), (7, y7), (8, y8), (9, y9), (10, y10), (11, y11), (12, y12), (14, y14)] := fun y0 y1 y2 y4 y5 y6 y7 y8 y9 y10 y11 y12 y14 z0 z1 z2 z3 z4 z5 z6 z7 z8 z9 z10 z11 z12 z13 z14 z15 z16 z17 z18 => rfl
        refine R_nil (tr _ _ _ _ _ _ _ _ _ _ _ _ _ _ _ _ _ _ _ _ _ _ _ _ _ _ _ _ _ _ _ _) ?_; clear tr
        refine then_n ?_
        refine at_ret rfl ?_
        refine fpure ?_
        first | rfl | simp
      · try simp only [decide_eq_true_eq, decide_eq_false_iff_not, Bool.not_eq_true', Bool.not_eq_false', beq_iff_eq, beq_eq_false_iff_ne, ne_eq] at h3
        first | omega | exact absurd trivial (by assumption)
    · try simp only [decide_eq_true_eq, decide_eq_false_iff_not, Bool.not_eq_true', Bool.not_eq_false', beq_iff_eq, beq_eq_false_iff_ne, ne_eq] at h2
      first | omega | exact absurd trivial (by assumption)
  · try simp only [decide_eq_true_eq, decide_eq_false_iff_not, Bool.not_eq_true', Bool.not_eq_false', beq_iff_eq, beq_eq_false_iff_ne, ne_eq] at h1
    first | omega | exact absurd trivial (by assumption)

end Go.Proofs.Ytaoondlakhocnaa
