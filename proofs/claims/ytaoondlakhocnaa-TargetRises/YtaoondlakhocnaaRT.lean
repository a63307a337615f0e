/-
  Walks of chapters 37, 39 and 40. The steps are written by program (walk.py).
-/
import Derived.Test.YtaoondlakhocnaaRP
import Derived.Test.YtaoondlakhocnaaRQ
set_option linter.unusedSimpArgs false
set_option linter.unusedVariables false
set_option maxHeartbeats 40000000
set_option maxRecDepth 4000
namespace Go.Proofs.Ytaoondlakhocnaa
open Go Go.Am

theorem trises_ok (a b c e f x y z : Int) (hx : 0 ≤ x ∧ x ≤ 65535) (hy : 0 ≤ y ∧ y ≤ 65535) (hz : 0 ≤ z ∧ z ≤ 65535) : ACall sig 0 5 [.agg [AV.i a, AV.i b, AV.i c, AV.i e, AV.i f], .agg [.v (.int .u16 x), .v (.int .u16 y), .v (.int .u16 z)]] [] fun r _ => r = .v (.bool true) := by
  refine ACall_pure (fa := fa5) rfl rfl rfl rfl ?_
  have tr : ∀ a0 a1 : AV, env0 fa5.keep [a0, a1] = [(0, a0), (1, a1), (2, .any), (3, .any), (4, .any), (5, .any), (6, .any), (7, .any), (8, .any), (9, .any), (10, .any), (11, .any), (12, .any), (13, .any), (15, .any), (31, .any), (58, .any), (83, .any), (108, .any)] := fun a0 a1 => rfl
  refine W_to (tr _ _) ?_; clear tr
  refine at_seq rfl ?_
  refine rg rfl ?_
  refine R_box rfl (by simp (disch := first | omega | (simp only [List.length_map, List.length_append, List.length_set, List.length_cons, List.length_nil, List.length_take, List.length_drop]; omega)) only [go_sem, ↓reduceIte, Nat.reduceEqDiff, reduceCtorEq]; rfl) rfl rfl ?_
  refine R_box rfl (by simp (disch := first | omega | (simp only [List.length_map, List.length_append, List.length_set, List.length_cons, List.length_nil, List.length_take, List.length_drop]; omega)) only [go_sem, ↓reduceIte, Nat.reduceEqDiff, reduceCtorEq]; rfl) rfl rfl ?_
  refine Rq ?_
  have tr : ∀ y0 y1 y2 y3 y4 y5 y6 y7 y8 y9 y10 y11 y12 y13 y15 y31 y58 y83 y108 z0 z1 z2 : AV, trim [(4, z2), (3, z1), (2, z0), (0, y0), (1, y1), (2, y2), (3, y3), (4, y4), (5, y5), (6, y6), (7, y7), (8, y8), (9, y9), (10, y10), (11, y11), (12, y12), (13, y13), (15, y15), (31, y31), (58, y58), (83, y83), (108, y108)] [(0, y0), (1, y1), (2, y2), (3, y3), (4, y4), (5, y5), (6, y6), (7, y7), (8, y8), (9, y9), (10, y10), (11, y11), (12, y12), (13, y13), (15, y15), (31, y31), (58, y58), (83, y83), (108, y108)] = [(0, y0), (1, y1), (2, z0), (3, z1), (4, z2), (5, y5), (6, y6), (7, y7), (8, y8), (9, y9), (10, y10), (11, y11), (12, y12), (13, y13), (15, y15), (31, y31), (58, y58), (83, y83), (108, y108)] := fun y0 y1 y2 y3 y4 y5 y6 y7 y8 y9 y10 y11 y12 y13 y15 y31 y58 y83 y108 z0 z1 z2 => rfl
  refine R_nil (tr _ _ _ _ _ _ _ _ _ _ _ _ _ _ _ _ _ _ _ _ _ _) ?_; clear tr
  refine then_n ?_
  refine at_seq rfl ?_
  refine at_seq rfl ?_
  refine rg rfl ?_
  refine Rcall ?_
  refine ACall_eval 300 (awake_s3 _ _ _ _ _ _ _ _ _) ?_
  refine Rq ?_
  have tr : ∀ y0 y1 y2 y3 y4 y5 y6 y7 y8 y9 y10 y11 y12 y13 y15 y31 y58 y83 y108 z0 z1 : AV, trim [(15, z1), (14, z0), (0, y0), (1, y1), (2, y2), (3, y3), (4, y4), (5, y5), (6, y6), (7, y7), (8, y8), (9, y9), (10, y10), (11, y11), (12, y12), (13, y13), (15, y15), (31, y31), (58, y58), (83, y83), (108, y108)] [(0, y0), (1, y1), (2, y2), (3, y3), (4, y4), (5, y5), (6, y6), (7, y7), (8, y8), (9, y9), (10, y10), (11, y11), (12, y12), (13, y13), (15, y15), (31, y31), (58, y58), (83, y83), (108, y108)] = [(0, y0), (1, y1), (2, y2), (3, y3), (4, y4), (5, y5), (6, y6), (7, y7), (8, y8), (9, y9), (10, y10), (11, y11), (12, y12), (13, y13), (15, z1), (31, y31), (58, y58), (83, y83), (108, y108)] := fun y0 y1 y2 y3 y4 y5 y6 y7 y8 y9 y10 y11 y12 y13 y15 y31 y58 y83 y108 z0 z1 => rfl
  refine R_nil (tr _ _ _ _ _ _ _ _ _ _ _ _ _ _ _ _ _ _ _ _ _) ?_; clear tr
  refine then_n ?_
  refine cdf ?_
  refine at_skip rfl ?_
  refine then_n ?_
  refine at_seq rfl ?_
  refine rg rfl ?_
  refine Rq ?_
  refine Rq ?_
  refine Rq ?_
  refine Rq ?_
  refine Rq ?_
  refine Rq ?_
  refine Rq ?_
  refine Rq ?_
  refine Rq ?_
  refine Rq ?_
  refine Rcall ?_
  refine ACall_eq (rev_ok _ _ a b c e f) ?_
  refine Rq ?_
  refine Rq ?_
  refine Rq ?_
  refine Rq ?_
  refine Rq ?_
  have tr : ∀ y0 y1 y2 y3 y4 y5 y6 y7 y8 y9 y10 y11 y12 y13 y15 y31 y58 y83 y108 z0 z1 z2 z3 z4 z5 z6 z7 z8 z9 z10 z11 z12 z13 z14 z15 : AV, trim [(6, z15), (5, z14), (29, z13), (28, z12), (16, z11), (27, z10), (26, z9), (25, z8), (24, z7), (23, z6), (22, z5), (21, z4), (20, z3), (19, z2), (18, z1), (17, z0), (0, y0), (1, y1), (2, y2), (3, y3), (4, y4), (5, y5), (6, y6), (7, y7), (8, y8), (9, y9), (10, y10), (11, y11), (12, y12), (13, y13), (15, y15), (31, y31), (58, y58), (83, y83), (108, y108)] [(0, y0), (1, y1), (2, y2), (3, y3), (4, y4), (5, y5), (6, y6), (7, y7), (8, y8), (9, y9), (10, y10), (11, y11), (12, y12), (13, y13), (15, y15), (31, y31), (58, y58), (83, y83), (108, y108)] = [(0, y0), (1, y1), (2, y2), (3, y3), (4, y4), (5, z14), (6, z15), (7, y7), (8, y8), (9, y9), (10, y10), (11, y11), (12, y12), (13, y13), (15, y15), (31, y31), (58, y58), (83, y83), (108, y108)] := fun y0 y1 y2 y3 y4 y5 y6 y7 y8 y9 y10 y11 y12 y13 y15 y31 y58 y83 y108 z0 z1 z2 z3 z4 z5 z6 z7 z8 z9 z10 z11 z12 z13 z14 z15 => rfl
  refine R_nil (tr _ _ _ _ _ _ _ _ _ _ _ _ _ _ _ _ _ _ _ _ _ _ _ _ _ _ _ _ _ _ _ _ _ _ _) ?_; clear tr
  refine then_n ?_
  refine at_seq rfl ?_
  refine at_seq rfl ?_
  refine rg rfl ?_
  refine Rq ?_
  refine Rq ?_
  have tr : ∀ y0 y1 y2 y3 y4 y5 y6 y7 y8 y9 y10 y11 y12 y13 y15 y31 y58 y83 y108 z0 z1 : AV, trim [(31, z1), (30, z0), (0, y0), (1, y1), (2, y2), (3, y3), (4, y4), (5, y5), (6, y6), (7, y7), (8, y8), (9, y9), (10, y10), (11, y11), (12, y12), (13, y13), (15, y15), (31, y31), (58, y58), (83, y83), (108, y108)] [(0, y0), (1, y1), (2, y2), (3, y3), (4, y4), (5, y5), (6, y6), (7, y7), (8, y8), (9, y9), (10, y10), (11, y11), (12, y12), (13, y13), (15, y15), (31, y31), (58, y58), (83, y83), (108, y108)] = [(0, y0), (1, y1), (2, y2), (3, y3), (4, y4), (5, y5), (6, y6), (7, y7), (8, y8), (9, y9), (10, y10), (11, y11), (12, y12), (13, y13), (15, y15), (31, z1), (58, y58), (83, y83), (108, y108)] := fun y0 y1 y2 y3 y4 y5 y6 y7 y8 y9 y10 y11 y12 y13 y15 y31 y58 y83 y108 z0 z1 => rfl
  refine R_nil (tr _ _ _ _ _ _ _ _ _ _ _ _ _ _ _ _ _ _ _ _ _) ?_; clear tr
  refine then_n ?_
  refine cdd (fun h1 => ?_) (fun h1 => ?_)
  · try simp only [decide_eq_true_eq, decide_eq_false_iff_not, Bool.not_eq_true', Bool.not_eq_false', beq_iff_eq, beq_eq_false_iff_ne, ne_eq] at h1
    refine at_seq rfl ?_
    refine rg rfl ?_
    have hre := rev_err (by assumption)
    refine Rq ?_
    refine Rq ?_
    refine Rq ?_
    have tr : ∀ y0 y1 y2 y3 y4 y5 y6 y7 y8 y9 y10 y11 y12 y13 y15 y31 y58 y83 y108 z0 z1 z2 : AV, trim [(4, z2), (33, z1), (32, z0), (0, y0), (1, y1), (2, y2), (3, y3), (4, y4), (5, y5), (6, y6), (7, y7), (8, y8), (9, y9), (10, y10), (11, y11), (12, y12), (13, y13), (15, y15), (31, y31), (58, y58), (83, y83), (108, y108)] [(0, y0), (1, y1), (2, y2), (3, y3), (4, y4), (5, y5), (6, y6), (7, y7), (8, y8), (9, y9), (10, y10), (11, y11), (12, y12), (13, y13), (15, y15), (31, y31), (58, y58), (83, y83), (108, y108)] = [(0, y0), (1, y1), (2, y2), (3, y3), (4, z2), (5, y5), (6, y6), (7, y7), (8, y8), (9, y9), (10, y10), (11, y11), (12, y12), (13, y13), (15, y15), (31, y31), (58, y58), (83, y83), (108, y108)] := fun y0 y1 y2 y3 y4 y5 y6 y7 y8 y9 y10 y11 y12 y13 y15 y31 y58 y83 y108 z0 z1 z2 => rfl
    refine R_nil (tr _ _ _ _ _ _ _ _ _ _ _ _ _ _ _ _ _ _ _ _ _ _) ?_; clear tr
    refine then_n ?_
    refine at_ret rfl ?_
    refine then_r ?_
    first | (refine fpure ?_; first | rfl | (rw [hre]; rfl) | (rw [e7]; simp; done)) | (exfalso; have hnb2 := rev_of0 (by assumption : (reviseS (a + x) b c e f).2 = 0); have e1 : (reviseS a b c e f).1 = revV a b c e f := congrArg Prod.fst (rev_ok0 hnb); have e2 : (reviseS (a + x) b c e f).1 = revV (a + x) b c e f := congrArg Prod.fst (rev_ok0 hnb2); have m := rev_total hnb hnb2 (by omega); omega) | (exfalso; have hnb2 := rev_of0 (by assumption : (reviseS a b (c + y) e f).2 = 0); have e1 : (reviseS a b c e f).1 = revV a b c e f := congrArg Prod.fst (rev_ok0 hnb); have e2 : (reviseS a b (c + y) e f).1 = revV a b (c + y) e f := congrArg Prod.fst (rev_ok0 hnb2); have m := rev_second hnb hnb2 (by omega); omega) | (exfalso; have hnb2 := rev_of0 (by assumption : (reviseS a (b + z) c e f).2 = 0); have e1 : (reviseS a b c e f).1 = revV a b c e f := congrArg Prod.fst (rev_ok0 hnb); have e2 : (reviseS a (b + z) c e f).1 = revV a (b + z) c e f := congrArg Prod.fst (rev_ok0 hnb2); have m := rev_first hnb hnb2 (by omega); omega)
  · try simp only [decide_eq_true_eq, decide_eq_false_iff_not, Bool.not_eq_true', Bool.not_eq_false', beq_iff_eq, beq_eq_false_iff_ne, ne_eq] at h1
    refine at_skip rfl ?_
    refine then_n ?_
    refine at_seq rfl ?_
    refine at_seq rfl ?_
    refine rg rfl ?_
    have hnb := rev_of0 (by assumption : (reviseS a b c e f).2 = 0)
    have hnb0 := hnb
    unfold revBad at hnb0
    refine Rq ?_
    refine Rq ?_
    refine Rq ?_
    refine Rq ?_
    refine Rq ?_
    refine Rq ?_
    refine Rq ?_
    refine Rq ?_
    refine Rq ?_
    refine Rq ?_
    refine Rq ?_
    refine Rq ?_
    refine Rq ?_
    refine Rq ?_
    refine Rcall ?_
    refine ACall_eq (rev_ok _ _ (a + x) b c e f) ?_
    refine Rq ?_
    refine Rq ?_
    refine Rq ?_
    refine Rq ?_
    refine Rq ?_
    have tr : ∀ y0 y1 y2 y3 y4 y5 y6 y7 y8 y9 y10 y11 y12 y13 y15 y31 y58 y83 y108 z0 z1 z2 z3 z4 z5 z6 z7 z8 z9 z10 z11 z12 z13 z14 z15 z16 z17 z18 z19 : AV, trim [(8, z19), (7, z18), (51, z17), (50, z16), (34, z15), (49, z14), (48, z13), (47, z12), (46, z11), (45, z10), (44, z9), (43, z8), (42, z7), (41, z6), (40, z5), (39, z4), (38, z3), (37, z2), (36, z1), (35, z0), (0, y0), (1, y1), (2, y2), (3, y3), (4, y4), (5, y5), (6, y6), (7, y7), (8, y8), (9, y9), (10, y10), (11, y11), (12, y12), (13, y13), (15, y15), (31, y31), (58, y58), (83, y83), (108, y108)] [(0, y0), (1, y1), (2, y2), (3, y3), (4, y4), (5, y5), (6, y6), (7, y7), (8, y8), (9, y9), (10, y10), (11, y11), (12, y12), (13, y13), (15, y15), (31, y31), (58, y58), (83, y83), (108, y108)] = [(0, y0), (1, y1), (2, y2), (3, y3), (4, y4), (5, y5), (6, y6), (7, z18), (8, z19), (9, y9), (10, y10), (11, y11), (12, y12), (13, y13), (15, y15), (31, y31), (58, y58), (83, y83), (108, y108)] := fun y0 y1 y2 y3 y4 y5 y6 y7 y8 y9 y10 y11 y12 y13 y15 y31 y58 y83 y108 z0 z1 z2 z3 z4 z5 z6 z7 z8 z9 z10 z11 z12 z13 z14 z15 z16 z17 z18 z19 => rfl
    refine R_nil (tr _ _ _ _ _ _ _ _ _ _ _ _ _ _ _ _ _ _ _ _ _ _ _ _ _ _ _ _ _ _ _ _ _ _ _ _ _ _ _) ?_; clear tr
    refine then_n ?_
    refine at_seq rfl ?_
    refine rg rfl ?_
    refine Rq ?_
    refine Rq ?_
    refine Rq ?_
    refine Rp_split (fun h2 => ?_) (fun h2 => ?_)
    · try simp only [decide_eq_true_eq, decide_eq_false_iff_not, Bool.not_eq_true', Bool.not_eq_false', beq_iff_eq, beq_eq_false_iff_ne, ne_eq] at h2
      refine Ry ?_
      refine Rq ?_
      refine Ry ?_
      refine Rq ?_
      refine Ry ?_
      refine Rq ?_
      refine Rq ?_
      have tr : ∀ y0 y1 y2 y3 y4 y5 y6 y7 y8 y9 y10 y11 y12 y13 y15 y31 y58 y83 y108 z0 z1 z2 z3 z4 z5 z6 : AV, trim [(58, z6), (57, z5), (56, z4), (55, z3), (54, z2), (53, z1), (52, z0), (0, y0), (1, y1), (2, y2), (3, y3), (4, y4), (5, y5), (6, y6), (7, y7), (8, y8), (9, y9), (10, y10), (11, y11), (12, y12), (13, y13), (15, y15), (31, y31), (58, y58), (83, y83), (108, y108)] [(0, y0), (1, y1), (2, y2), (3, y3), (4, y4), (5, y5), (6, y6), (7, y7), (8, y8), (9, y9), (10, y10), (11, y11), (12, y12), (13, y13), (15, y15), (31, y31), (58, y58), (83, y83), (108, y108)] = [(0, y0), (1, y1), (2, y2), (3, y3), (4, y4), (5, y5), (6, y6), (7, y7), (8, y8), (9, y9), (10, y10), (11, y11), (12, y12), (13, y13), (15, y15), (31, y31), (58, z6), (83, y83), (108, y108)] := fun y0 y1 y2 y3 y4 y5 y6 y7 y8 y9 y10 y11 y12 y13 y15 y31 y58 y83 y108 z0 z1 z2 z3 z4 z5 z6 => rfl
      refine R_nil (tr _ _ _ _ _ _ _ _ _ _ _ _ _ _ _ _ _ _ _ _ _ _ _ _ _ _) ?_; clear tr
      refine then_n ?_
      refine cdd (fun h3 => ?_) (fun h3 => ?_)
      · try simp only [decide_eq_true_eq, decide_eq_false_iff_not, Bool.not_eq_true', Bool.not_eq_false', beq_iff_eq, beq_eq_false_iff_ne, ne_eq] at h3
        refine at_seq rfl ?_
        refine rg rfl ?_
        refine Rq ?_
        have tr : ∀ y0 y1 y2 y3 y4 y5 y6 y7 y8 y9 y10 y11 y12 y13 y15 y31 y58 y83 y108 z0 : AV, trim [(4, z0), (0, y0), (1, y1), (2, y2), (3, y3), (4, y4), (5, y5), (6, y6), (7, y7), (8, y8), (9, y9), (10, y10), (11, y11), (12, y12), (13, y13), (15, y15), (31, y31), (58, y58), (83, y83), (108, y108)] [(0, y0), (1, y1), (2, y2), (3, y3), (4, y4), (5, y5), (6, y6), (7, y7), (8, y8), (9, y9), (10, y10), (11, y11), (12, y12), (13, y13), (15, y15), (31, y31), (58, y58), (83, y83), (108, y108)] = [(0, y0), (1, y1), (2, y2), (3, y3), (4, z0), (5, y5), (6, y6), (7, y7), (8, y8), (9, y9), (10, y10), (11, y11), (12, y12), (13, y13), (15, y15), (31, y31), (58, y58), (83, y83), (108, y108)] := fun y0 y1 y2 y3 y4 y5 y6 y7 y8 y9 y10 y11 y12 y13 y15 y31 y58 y83 y108 z0 => rfl
        refine R_nil (tr _ _ _ _ _ _ _ _ _ _ _ _ _ _ _ _ _ _ _ _) ?_; clear tr
        refine then_n ?_
        refine at_ret rfl ?_
        refine then_r ?_
        first | (refine fpure ?_; first | rfl | (rw [hre]; rfl) | (rw [e7]; simp; done)) | (exfalso; have hnb2 := rev_of0 (by assumption : (reviseS (a + x) b c e f).2 = 0); have e1 : (reviseS a b c e f).1 = revV a b c e f := congrArg Prod.fst (rev_ok0 hnb); have e2 : (reviseS (a + x) b c e f).1 = revV (a + x) b c e f := congrArg Prod.fst (rev_ok0 hnb2); have m := rev_total hnb hnb2 (by omega); omega) | (exfalso; have hnb2 := rev_of0 (by assumption : (reviseS a b (c + y) e f).2 = 0); have e1 : (reviseS a b c e f).1 = revV a b c e f := congrArg Prod.fst (rev_ok0 hnb); have e2 : (reviseS a b (c + y) e f).1 = revV a b (c + y) e f := congrArg Prod.fst (rev_ok0 hnb2); have m := rev_second hnb hnb2 (by omega); omega) | (exfalso; have hnb2 := rev_of0 (by assumption : (reviseS a (b + z) c e f).2 = 0); have e1 : (reviseS a b c e f).1 = revV a b c e f := congrArg Prod.fst (rev_ok0 hnb); have e2 : (reviseS a (b + z) c e f).1 = revV a (b + z) c e f := congrArg Prod.fst (rev_ok0 hnb2); have m := rev_first hnb hnb2 (by omega); omega)
      · try simp only [decide_eq_true_eq, decide_eq_false_iff_not, Bool.not_eq_true', Bool.not_eq_false', beq_iff_eq, beq_eq_false_iff_ne, ne_eq] at h3
        refine at_skip rfl ?_
        refine then_n ?_
        refine at_seq rfl ?_
        refine at_seq rfl ?_
        refine rg rfl ?_
        refine Rq ?_
        refine Rq ?_
        refine Rq ?_
        refine Rq ?_
        refine Rq ?_
        refine Rq ?_
        refine Rq ?_
        refine Rq ?_
        refine Rq ?_
        refine Rq ?_
        refine Rq ?_
        refine Rq ?_
        refine Rq ?_
        refine Rq ?_
        refine Rcall ?_
        refine ACall_eq (rev_ok _ _ a b (c + y) e f) ?_
        refine Rq ?_
        refine Rq ?_
        refine Rq ?_
        refine Rq ?_
        refine Rq ?_
        have tr : ∀ y0 y1 y2 y3 y4 y5 y6 y7 y8 y9 y10 y11 y12 y13 y15 y31 y58 y83 y108 z0 z1 z2 z3 z4 z5 z6 z7 z8 z9 z10 z11 z12 z13 z14 z15 z16 z17 z18 z19 : AV, trim [(10, z19), (9, z18), (76, z17), (75, z16), (59, z15), (74, z14), (73, z13), (72, z12), (71, z11), (70, z10), (69, z9), (68, z8), (67, z7), (66, z6), (65, z5), (64, z4), (63, z3), (62, z2), (61, z1), (60, z0), (0, y0), (1, y1), (2, y2), (3, y3), (4, y4), (5, y5), (6, y6), (7, y7), (8, y8), (9, y9), (10, y10), (11, y11), (12, y12), (13, y13), (15, y15), (31, y31), (58, y58), (83, y83), (108, y108)] [(0, y0), (1, y1), (2, y2), (3, y3), (4, y4), (5, y5), (6, y6), (7, y7), (8, y8), (9, y9), (10, y10), (11, y11), (12, y12), (13, y13), (15, y15), (31, y31), (58, y58), (83, y83), (108, y108)] = [(0, y0), (1, y1), (2, y2), (3, y3), (4, y4), (5, y5), (6, y6), (7, y7), (8, y8), (9, z18), (10, z19), (11, y11), (12, y12), (13, y13), (15, y15), (31, y31), (58, y58), (83, y83), (108, y108)] := fun y0 y1 y2 y3 y4 y5 y6 y7 y8 y9 y10 y11 y12 y13 y15 y31 y58 y83 y108 z0 z1 z2 z3 z4 z5 z6 z7 z8 z9 z10 z11 z12 z13 z14 z15 z16 z17 z18 z19 => rfl
        refine R_nil (tr _ _ _ _ _ _ _ _ _ _ _ _ _ _ _ _ _ _ _ _ _ _ _ _ _ _ _ _ _ _ _ _ _ _ _ _ _ _ _) ?_; clear tr
        refine then_n ?_
        refine at_seq rfl ?_
        refine rg rfl ?_
        refine Rq ?_
        refine Rq ?_
        refine Rq ?_
        refine Rp_split (fun h4 => ?_) (fun h4 => ?_)
        · try simp only [decide_eq_true_eq, decide_eq_false_iff_not, Bool.not_eq_true', Bool.not_eq_false', beq_iff_eq, beq_eq_false_iff_ne, ne_eq] at h4
          refine Ry ?_
          refine Rq ?_
          refine Ry ?_
          refine Rq ?_
          refine Ry ?_
          refine Rq ?_
          refine Rq ?_
          have tr : ∀ y0 y1 y2 y3 y4 y5 y6 y7 y8 y9 y10 y11 y12 y13 y15 y31 y58 y83 y108 z0 z1 z2 z3 z4 z5 z6 : AV, trim [(83, z6), (82, z5), (81, z4), (80, z3), (79, z2), (78, z1), (77, z0), (0, y0), (1, y1), (2, y2), (3, y3), (4, y4), (5, y5), (6, y6), (7, y7), (8, y8), (9, y9), (10, y10), (11, y11), (12, y12), (13, y13), (15, y15), (31, y31), (58, y58), (83, y83), (108, y108)] [(0, y0), (1, y1), (2, y2), (3, y3), (4, y4), (5, y5), (6, y6), (7, y7), (8, y8), (9, y9), (10, y10), (11, y11), (12, y12), (13, y13), (15, y15), (31, y31), (58, y58), (83, y83), (108, y108)] = [(0, y0), (1, y1), (2, y2), (3, y3), (4, y4), (5, y5), (6, y6), (7, y7), (8, y8), (9, y9), (10, y10), (11, y11), (12, y12), (13, y13), (15, y15), (31, y31), (58, y58), (83, z6), (108, y108)] := fun y0 y1 y2 y3 y4 y5 y6 y7 y8 y9 y10 y11 y12 y13 y15 y31 y58 y83 y108 z0 z1 z2 z3 z4 z5 z6 => rfl
          refine R_nil (tr _ _ _ _ _ _ _ _ _ _ _ _ _ _ _ _ _ _ _ _ _ _ _ _ _ _) ?_; clear tr
          refine then_n ?_
          refine cdd (fun h5 => ?_) (fun h5 => ?_)
          · try simp only [decide_eq_true_eq, decide_eq_false_iff_not, Bool.not_eq_true', Bool.not_eq_false', beq_iff_eq, beq_eq_false_iff_ne, ne_eq] at h5
            refine at_seq rfl ?_
            refine rg rfl ?_
            refine Rq ?_
            have tr : ∀ y0 y1 y2 y3 y4 y5 y6 y7 y8 y9 y10 y11 y12 y13 y15 y31 y58 y83 y108 z0 : AV, trim [(4, z0), (0, y0), (1, y1), (2, y2), (3, y3), (4, y4), (5, y5), (6, y6), (7, y7), (8, y8), (9, y9), (10, y10), (11, y11), (12, y12), (13, y13), (15, y15), (31, y31), (58, y58), (83, y83), (108, y108)] [(0, y0), (1, y1), (2, y2), (3, y3), (4, y4), (5, y5), (6, y6), (7, y7), (8, y8), (9, y9), (10, y10), (11, y11), (12, y12), (13, y13), (15, y15), (31, y31), (58, y58), (83, y83), (108, y108)] = [(0, y0), (1, y1), (2, y2), (3, y3), (4, z0), (5, y5), (6, y6), (7, y7), (8, y8), (9, y9), (10, y10), (11, y11), (12, y12), (13, y13), (15, y15), (31, y31), (58, y58), (83, y83), (108, y108)] := fun y0 y1 y2 y3 y4 y5 y6 y7 y8 y9 y10 y11 y12 y13 y15 y31 y58 y83 y108 z0 => rfl
            refine R_nil (tr _ _ _ _ _ _ _ _ _ _ _ _ _ _ _ _ _ _ _ _) ?_; clear tr
            refine then_n ?_
            refine at_ret rfl ?_
            refine then_r ?_
            first | (refine fpure ?_; first | rfl | (rw [hre]; rfl) | (rw [e7]; simp; done)) | (exfalso; have hnb2 := rev_of0 (by assumption : (reviseS (a + x) b c e f).2 = 0); have e1 : (reviseS a b c e f).1 = revV a b c e f := congrArg Prod.fst (rev_ok0 hnb); have e2 : (reviseS (a + x) b c e f).1 = revV (a + x) b c e f := congrArg Prod.fst (rev_ok0 hnb2); have m := rev_total hnb hnb2 (by omega); omega) | (exfalso; have hnb2 := rev_of0 (by assumption : (reviseS a b (c + y) e f).2 = 0); have e1 : (reviseS a b c e f).1 = revV a b c e f := congrArg Prod.fst (rev_ok0 hnb); have e2 : (reviseS a b (c + y) e f).1 = revV a b (c + y) e f := congrArg Prod.fst (rev_ok0 hnb2); have m := rev_second hnb hnb2 (by omega); omega) | (exfalso; have hnb2 := rev_of0 (by assumption : (reviseS a (b + z) c e f).2 = 0); have e1 : (reviseS a b c e f).1 = revV a b c e f := congrArg Prod.fst (rev_ok0 hnb); have e2 : (reviseS a (b + z) c e f).1 = revV a (b + z) c e f := congrArg Prod.fst (rev_ok0 hnb2); have m := rev_first hnb hnb2 (by omega); omega)
          · try simp only [decide_eq_true_eq, decide_eq_false_iff_not, Bool.not_eq_true', Bool.not_eq_false', beq_iff_eq, beq_eq_false_iff_ne, ne_eq] at h5
            refine at_skip rfl ?_
            refine then_n ?_
            refine at_seq rfl ?_
            refine at_seq rfl ?_
            refine rg rfl ?_
            refine Rq ?_
            refine Rq ?_
            refine Rq ?_
            refine Rq ?_
            refine Rq ?_
            refine Rq ?_
            refine Rq ?_
            refine Rq ?_
            refine Rq ?_
            refine Rq ?_
            refine Rq ?_
            refine Rq ?_
            refine Rq ?_
            refine Rq ?_
            refine Rcall ?_
            refine ACall_eq (rev_ok _ _ a (b + z) c e f) ?_
            refine Rq ?_
            refine Rq ?_
            refine Rq ?_
            refine Rq ?_
            refine Rq ?_
            have tr : ∀ y0 y1 y2 y3 y4 y5 y6 y7 y8 y9 y10 y11 y12 y13 y15 y31 y58 y83 y108 z0 z1 z2 z3 z4 z5 z6 z7 z8 z9 z10 z11 z12 z13 z14 z15 z16 z17 z18 z19 : AV, trim [(12, z19), (11, z18), (101, z17), (100, z16), (84, z15), (99, z14), (98, z13), (97, z12), (96, z11), (95, z10), (94, z9), (93, z8), (92, z7), (91, z6), (90, z5), (89, z4), (88, z3), (87, z2), (86, z1), (85, z0), (0, y0), (1, y1), (2, y2), (3, y3), (4, y4), (5, y5), (6, y6), (7, y7), (8, y8), (9, y9), (10, y10), (11, y11), (12, y12), (13, y13), (15, y15), (31, y31), (58, y58), (83, y83), (108, y108)] [(0, y0), (1, y1), (2, y2), (3, y3), (4, y4), (5, y5), (6, y6), (7, y7), (8, y8), (9, y9), (10, y10), (11, y11), (12, y12), (13, y13), (15, y15), (31, y31), (58, y58), (83, y83), (108, y108)] = [(0, y0), (1, y1), (2, y2), (3, y3), (4, y4), (5, y5), (6, y6), (7, y7), (8, y8), (9, y9), (10, y10), (11, z18), (12, z19), (13, y13), (15, y15), (31, y31), (58, y58), (83, y83), (108, y108)] := fun y0 y1 y2 y3 y4 y5 y6 y7 y8 y9 y10 y11 y12 y13 y15 y31 y58 y83 y108 z0 z1 z2 z3 z4 z5 z6 z7 z8 z9 z10 z11 z12 z13 z14 z15 z16 z17 z18 z19 => rfl
            refine R_nil (tr _ _ _ _ _ _ _ _ _ _ _ _ _ _ _ _ _ _ _ _ _ _ _ _ _ _ _ _ _ _ _ _ _ _ _ _ _ _ _) ?_; clear tr
            refine then_n ?_
            refine at_seq rfl ?_
            refine rg rfl ?_
            refine Rq ?_
            refine Rq ?_
            refine Rq ?_
            refine Rp_split (fun h6 => ?_) (fun h6 => ?_)
            · try simp only [decide_eq_true_eq, decide_eq_false_iff_not, Bool.not_eq_true', Bool.not_eq_false', beq_iff_eq, beq_eq_false_iff_ne, ne_eq] at h6
              refine Ry ?_
              refine Rq ?_
              refine Ry ?_
              refine Rq ?_
              refine Ry ?_
              refine Rq ?_
              refine Rq ?_
              have tr : ∀ y0 y1 y2 y3 y4 y5 y6 y7 y8 y9 y10 y11 y12 y13 y15 y31 y58 y83 y108 z0 z1 z2 z3 z4 z5 z6 : AV, trim [(108, z6), (107, z5), (106, z4), (105, z3), (104, z2), (103, z1), (102, z0), (0, y0), (1, y1), (2, y2), (3, y3), (4, y4), (5, y5), (6, y6), (7, y7), (8, y8), (9, y9), (10, y10), (11, y11), (12, y12), (13, y13), (15, y15), (31, y31), (58, y58), (83, y83), (108, y108)] [(0, y0), (1, y1), (2, y2), (3, y3), (4, y4), (5, y5), (6, y6), (7, y7), (8, y8), (9, y9), (10, y10), (11, y11), (12, y12), (13, y13), (15, y15), (31, y31), (58, y58), (83, y83), (108, y108)] = [(0, y0), (1, y1), (2, y2), (3, y3), (4, y4), (5, y5), (6, y6), (7, y7), (8, y8), (9, y9), (10, y10), (11, y11), (12, y12), (13, y13), (15, y15), (31, y31), (58, y58), (83, y83), (108, z6)] := fun y0 y1 y2 y3 y4 y5 y6 y7 y8 y9 y10 y11 y12 y13 y15 y31 y58 y83 y108 z0 z1 z2 z3 z4 z5 z6 => rfl
              refine R_nil (tr _ _ _ _ _ _ _ _ _ _ _ _ _ _ _ _ _ _ _ _ _ _ _ _ _ _) ?_; clear tr
              refine then_n ?_
              refine cdd (fun h7 => ?_) (fun h7 => ?_)
              · try simp only [decide_eq_true_eq, decide_eq_false_iff_not, Bool.not_eq_true', Bool.not_eq_false', beq_iff_eq, beq_eq_false_iff_ne, ne_eq] at h7
                refine at_seq rfl ?_
                refine rg rfl ?_
                refine Rq ?_
                have tr : ∀ y0 y1 y2 y3 y4 y5 y6 y7 y8 y9 y10 y11 y12 y13 y15 y31 y58 y83 y108 z0 : AV, trim [(4, z0), (0, y0), (1, y1), (2, y2), (3, y3), (4, y4), (5, y5), (6, y6), (7, y7), (8, y8), (9, y9), (10, y10), (11, y11), (12, y12), (13, y13), (15, y15), (31, y31), (58, y58), (83, y83), (108, y108)] [(0, y0), (1, y1), (2, y2), (3, y3), (4, y4), (5, y5), (6, y6), (7, y7), (8, y8), (9, y9), (10, y10), (11, y11), (12, y12), (13, y13), (15, y15), (31, y31), (58, y58), (83, y83), (108, y108)] = [(0, y0), (1, y1), (2, y2), (3, y3), (4, z0), (5, y5), (6, y6), (7, y7), (8, y8), (9, y9), (10, y10), (11, y11), (12, y12), (13, y13), (15, y15), (31, y31), (58, y58), (83, y83), (108, y108)] := fun y0 y1 y2 y3 y4 y5 y6 y7 y8 y9 y10 y11 y12 y13 y15 y31 y58 y83 y108 z0 => rfl
                refine R_nil (tr _ _ _ _ _ _ _ _ _ _ _ _ _ _ _ _ _ _ _ _) ?_; clear tr
                refine then_n ?_
                refine at_ret rfl ?_
                refine then_r ?_
                first | (refine fpure ?_; first | rfl | (rw [hre]; rfl) | (rw [e7]; simp; done)) | (exfalso; have hnb2 := rev_of0 (by assumption : (reviseS (a + x) b c e f).2 = 0); have e1 : (reviseS a b c e f).1 = revV a b c e f := congrArg Prod.fst (rev_ok0 hnb); have e2 : (reviseS (a + x) b c e f).1 = revV (a + x) b c e f := congrArg Prod.fst (rev_ok0 hnb2); have m := rev_total hnb hnb2 (by omega); omega) | (exfalso; have hnb2 := rev_of0 (by assumption : (reviseS a b (c + y) e f).2 = 0); have e1 : (reviseS a b c e f).1 = revV a b c e f := congrArg Prod.fst (rev_ok0 hnb); have e2 : (reviseS a b (c + y) e f).1 = revV a b (c + y) e f := congrArg Prod.fst (rev_ok0 hnb2); have m := rev_second hnb hnb2 (by omega); omega) | (exfalso; have hnb2 := rev_of0 (by assumption : (reviseS a (b + z) c e f).2 = 0); have e1 : (reviseS a b c e f).1 = revV a b c e f := congrArg Prod.fst (rev_ok0 hnb); have e2 : (reviseS a (b + z) c e f).1 = revV a (b + z) c e f := congrArg Prod.fst (rev_ok0 hnb2); have m := rev_first hnb hnb2 (by omega); omega)
              · try simp only [decide_eq_true_eq, decide_eq_false_iff_not, Bool.not_eq_true', Bool.not_eq_false', beq_iff_eq, beq_eq_false_iff_ne, ne_eq] at h7
                refine at_skip rfl ?_
                refine then_n ?_
                refine at_seq rfl ?_
                refine rg rfl ?_
                have hsm := rev_same hnb
                refine Rq ?_
                refine Rq ?_
                refine Rq ?_
                refine Rq ?_
                refine Rq ?_
                refine Rq ?_
                refine Rq ?_
                refine Rq ?_
                refine Rq ?_
                refine Rq ?_
                refine Rcall ?_
                refine ACall_eq (rev_ok _ _ a b b e f) ?_
                refine Rq ?_
                refine Rq ?_
                refine Rq ?_
                refine Rq ?_
                refine Rq ?_
                have tr : ∀ y0 y1 y2 y3 y4 y5 y6 y7 y8 y9 y10 y11 y12 y13 y15 y31 y58 y83 y108 z0 z1 z2 z3 z4 z5 z6 z7 z8 z9 z10 z11 z12 z13 z14 z15 : AV, trim [(6, z15), (13, z14), (122, z13), (121, z12), (109, z11), (120, z10), (119, z9), (118, z8), (117, z7), (116, z6), (115, z5), (114, z4), (113, z3), (112, z2), (111, z1), (110, z0), (0, y0), (1, y1), (2, y2), (3, y3), (4, y4), (5, y5), (6, y6), (7, y7), (8, y8), (9, y9), (10, y10), (11, y11), (12, y12), (13, y13), (15, y15), (31, y31), (58, y58), (83, y83), (108, y108)] [(0, y0), (1, y1), (2, y2), (3, y3), (4, y4), (5, y5), (6, y6), (7, y7), (8, y8), (9, y9), (10, y10), (11, y11), (12, y12), (13, y13), (15, y15), (31, y31), (58, y58), (83, y83), (108, y108)] = [(0, y0), (1, y1), (2, y2), (3, y3), (4, y4), (5, y5), (6, z15), (7, y7), (8, y8), (9, y9), (10, y10), (11, y11), (12, y12), (13, z14), (15, y15), (31, y31), (58, y58), (83, y83), (108, y108)] := fun y0 y1 y2 y3 y4 y5 y6 y7 y8 y9 y10 y11 y12 y13 y15 y31 y58 y83 y108 z0 z1 z2 z3 z4 z5 z6 z7 z8 z9 z10 z11 z12 z13 z14 z15 => rfl
                refine R_nil (tr _ _ _ _ _ _ _ _ _ _ _ _ _ _ _ _ _ _ _ _ _ _ _ _ _ _ _ _ _ _ _ _ _ _ _) ?_; clear tr
                refine then_n ?_
                refine at_seq rfl ?_
                refine rg rfl ?_
                have e5 := rev_ok0 hsm.1
                have e6 : (reviseS a b b e f).2 = 0 := by rw [e5]
                have e7 : (reviseS a b b e f).1 = a + 1 := by rw [e5]; exact hsm.2
                refine Rq ?_
                refine Rq ?_
                refine Rq ?_
                refine Rp_split (fun h8 => ?_) (fun h8 => ?_)
                · try simp only [decide_eq_true_eq, decide_eq_false_iff_not, Bool.not_eq_true', Bool.not_eq_false', beq_iff_eq, beq_eq_false_iff_ne, ne_eq] at h8
                  refine Ry ?_
                  refine Rq ?_
                  refine Ry ?_
                  refine Rq ?_
                  refine Ry ?_
                  refine Rq ?_
                  refine Ry ?_
                  refine Rq ?_
                  refine Ry ?_
                  refine Rq ?_
                  refine Rq ?_
                  refine Rq ?_
                  have tr : ∀ y0 y1 y2 y3 y4 y5 y6 y7 y8 y9 y10 y11 y12 y13 y15 y31 y58 y83 y108 z0 z1 z2 z3 z4 z5 z6 z7 z8 z9 : AV, trim [(4, z9), (131, z8), (130, z7), (129, z6), (128, z5), (127, z4), (126, z3), (125, z2), (124, z1), (123, z0), (0, y0), (1, y1), (2, y2), (3, y3), (4, y4), (5, y5), (6, y6), (7, y7), (8, y8), (9, y9), (10, y10), (11, y11), (12, y12), (13, y13), (15, y15), (31, y31), (58, y58), (83, y83), (108, y108)] [(0, y0), (1, y1), (2, y2), (3, y3), (4, y4), (5, y5), (6, y6), (7, y7), (8, y8), (9, y9), (10, y10), (11, y11), (12, y12), (13, y13), (15, y15), (31, y31), (58, y58), (83, y83), (108, y108)] = [(0, y0), (1, y1), (2, y2), (3, y3), (4, z9), (5, y5), (6, y6), (7, y7), (8, y8), (9, y9), (10, y10), (11, y11), (12, y12), (13, y13), (15, y15), (31, y31), (58, y58), (83, y83), (108, y108)] := fun y0 y1 y2 y3 y4 y5 y6 y7 y8 y9 y10 y11 y12 y13 y15 y31 y58 y83 y108 z0 z1 z2 z3 z4 z5 z6 z7 z8 z9 => rfl
                  refine R_nil (tr _ _ _ _ _ _ _ _ _ _ _ _ _ _ _ _ _ _ _ _ _ _ _ _ _ _ _ _ _) ?_; clear tr
                  refine then_n ?_
                  refine at_ret rfl ?_
                  first | (refine fpure ?_; first | rfl | (rw [hre]; rfl) | (rw [e7]; simp; done)) | (exfalso; have hnb2 := rev_of0 (by assumption : (reviseS (a + x) b c e f).2 = 0); have e1 : (reviseS a b c e f).1 = revV a b c e f := congrArg Prod.fst (rev_ok0 hnb); have e2 : (reviseS (a + x) b c e f).1 = revV (a + x) b c e f := congrArg Prod.fst (rev_ok0 hnb2); have m := rev_total hnb hnb2 (by omega); omega) | (exfalso; have hnb2 := rev_of0 (by assumption : (reviseS a b (c + y) e f).2 = 0); have e1 : (reviseS a b c e f).1 = revV a b c e f := congrArg Prod.fst (rev_ok0 hnb); have e2 : (reviseS a b (c + y) e f).1 = revV a b (c + y) e f := congrArg Prod.fst (rev_ok0 hnb2); have m := rev_second hnb hnb2 (by omega); omega) | (exfalso; have hnb2 := rev_of0 (by assumption : (reviseS a (b + z) c e f).2 = 0); have e1 : (reviseS a b c e f).1 = revV a b c e f := congrArg Prod.fst (rev_ok0 hnb); have e2 : (reviseS a (b + z) c e f).1 = revV a (b + z) c e f := congrArg Prod.fst (rev_ok0 hnb2); have m := rev_first hnb hnb2 (by omega); omega)
                · try simp only [decide_eq_true_eq, decide_eq_false_iff_not, Bool.not_eq_true', Bool.not_eq_false', beq_iff_eq, beq_eq_false_iff_ne, ne_eq] at h8
                  exfalso; omega
            · try simp only [decide_eq_true_eq, decide_eq_false_iff_not, Bool.not_eq_true', Bool.not_eq_false', beq_iff_eq, beq_eq_false_iff_ne, ne_eq] at h6
              refine Rn ?_
              refine Rn ?_
              refine Rn ?_
              refine Rq ?_
              have tr : ∀ y0 y1 y2 y3 y4 y5 y6 y7 y8 y9 y10 y11 y12 y13 y15 y31 y58 y83 y108 z0 z1 z2 z3 z4 z5 z6 : AV, trim [(108, z6), (107, z5), (106, z4), (105, z3), (104, z2), (103, z1), (102, z0), (0, y0), (1, y1), (2, y2), (3, y3), (4, y4), (5, y5), (6, y6), (7, y7), (8, y8), (9, y9), (10, y10), (11, y11), (12, y12), (13, y13), (15, y15), (31, y31), (58, y58), (83, y83), (108, y108)] [(0, y0), (1, y1), (2, y2), (3, y3), (4, y4), (5, y5), (6, y6), (7, y7), (8, y8), (9, y9), (10, y10), (11, y11), (12, y12), (13, y13), (15, y15), (31, y31), (58, y58), (83, y83), (108, y108)] = [(0, y0), (1, y1), (2, y2), (3, y3), (4, y4), (5, y5), (6, y6), (7, y7), (8, y8), (9, y9), (10, y10), (11, y11), (12, y12), (13, y13), (15, y15), (31, y31), (58, y58), (83, y83), (108, z6)] := fun y0 y1 y2 y3 y4 y5 y6 y7 y8 y9 y10 y11 y12 y13 y15 y31 y58 y83 y108 z0 z1 z2 z3 z4 z5 z6 => rfl
              refine R_nil (tr _ _ _ _ _ _ _ _ _ _ _ _ _ _ _ _ _ _ _ _ _ _ _ _ _ _) ?_; clear tr
              refine then_n ?_
              refine cdf ?_
              refine at_skip rfl ?_
              refine then_n ?_
              refine at_seq rfl ?_
              refine rg rfl ?_
              have hsm := rev_same hnb
              refine Rq ?_
              refine Rq ?_
              refine Rq ?_
              refine Rq ?_
              refine Rq ?_
              refine Rq ?_
              refine Rq ?_
              refine Rq ?_
              refine Rq ?_
              refine Rq ?_
              refine Rcall ?_
              refine ACall_eq (rev_ok _ _ a b b e f) ?_
              refine Rq ?_
              refine Rq ?_
              refine Rq ?_
              refine Rq ?_
              refine Rq ?_
              have tr : ∀ y0 y1 y2 y3 y4 y5 y6 y7 y8 y9 y10 y11 y12 y13 y15 y31 y58 y83 y108 z0 z1 z2 z3 z4 z5 z6 z7 z8 z9 z10 z11 z12 z13 z14 z15 : AV, trim [(6, z15), (13, z14), (122, z13), (121, z12), (109, z11), (120, z10), (119, z9), (118, z8), (117, z7), (116, z6), (115, z5), (114, z4), (113, z3), (112, z2), (111, z1), (110, z0), (0, y0), (1, y1), (2, y2), (3, y3), (4, y4), (5, y5), (6, y6), (7, y7), (8, y8), (9, y9), (10, y10), (11, y11), (12, y12), (13, y13), (15, y15), (31, y31), (58, y58), (83, y83), (108, y108)] [(0, y0), (1, y1), (2, y2), (3, y3), (4, y4), (5, y5), (6, y6), (7, y7), (8, y8), (9, y9), (10, y10), (11, y11), (12, y12), (13, y13), (15, y15), (31, y31), (58, y58), (83, y83), (108, y108)] = [(0, y0), (1, y1), (2, y2), (3, y3), (4, y4), (5, y5), (6, z15), (7, y7), (8, y8), (9, y9), (10, y10), (11, y11), (12, y12), (13, z14), (15, y15), (31, y31), (58, y58), (83, y83), (108, y108)] := fun y0 y1 y2 y3 y4 y5 y6 y7 y8 y9 y10 y11 y12 y13 y15 y31 y58 y83 y108 z0 z1 z2 z3 z4 z5 z6 z7 z8 z9 z10 z11 z12 z13 z14 z15 => rfl
              refine R_nil (tr _ _ _ _ _ _ _ _ _ _ _ _ _ _ _ _ _ _ _ _ _ _ _ _ _ _ _ _ _ _ _ _ _ _ _) ?_; clear tr
              refine then_n ?_
              refine at_seq rfl ?_
              refine rg rfl ?_
              have e5 := rev_ok0 hsm.1
              have e6 : (reviseS a b b e f).2 = 0 := by rw [e5]
              have e7 : (reviseS a b b e f).1 = a + 1 := by rw [e5]; exact hsm.2
              refine Rq ?_
              refine Rq ?_
              refine Rq ?_
              refine Rp_split (fun h9 => ?_) (fun h9 => ?_)
              · try simp only [decide_eq_true_eq, decide_eq_false_iff_not, Bool.not_eq_true', Bool.not_eq_false', beq_iff_eq, beq_eq_false_iff_ne, ne_eq] at h9
                refine Ry ?_
                refine Rq ?_
                refine Ry ?_
                refine Rq ?_
                refine Ry ?_
                refine Rq ?_
                refine Ry ?_
                refine Rq ?_
                refine Ry ?_
                refine Rq ?_
                refine Rq ?_
                refine Rq ?_
                have tr : ∀ y0 y1 y2 y3 y4 y5 y6 y7 y8 y9 y10 y11 y12 y13 y15 y31 y58 y83 y108 z0 z1 z2 z3 z4 z5 z6 z7 z8 z9 : AV, trim [(4, z9), (131, z8), (130, z7), (129, z6), (128, z5), (127, z4), (126, z3), (125, z2), (124, z1), (123, z0), (0, y0), (1, y1), (2, y2), (3, y3), (4, y4), (5, y5), (6, y6), (7, y7), (8, y8), (9, y9), (10, y10), (11, y11), (12, y12), (13, y13), (15, y15), (31, y31), (58, y58), (83, y83), (108, y108)] [(0, y0), (1, y1), (2, y2), (3, y3), (4, y4), (5, y5), (6, y6), (7, y7), (8, y8), (9, y9), (10, y10), (11, y11), (12, y12), (13, y13), (15, y15), (31, y31), (58, y58), (83, y83), (108, y108)] = [(0, y0), (1, y1), (2, y2), (3, y3), (4, z9), (5, y5), (6, y6), (7, y7), (8, y8), (9, y9), (10, y10), (11, y11), (12, y12), (13, y13), (15, y15), (31, y31), (58, y58), (83, y83), (108, y108)] := fun y0 y1 y2 y3 y4 y5 y6 y7 y8 y9 y10 y11 y12 y13 y15 y31 y58 y83 y108 z0 z1 z2 z3 z4 z5 z6 z7 z8 z9 => rfl
                refine R_nil (tr _ _ _ _ _ _ _ _ _ _ _ _ _ _ _ _ _ _ _ _ _ _ _ _ _ _ _ _ _) ?_; clear tr
                refine then_n ?_
                refine at_ret rfl ?_
                first | (refine fpure ?_; first | rfl | (rw [hre]; rfl) | (rw [e7]; simp; done)) | (exfalso; have hnb2 := rev_of0 (by assumption : (reviseS (a + x) b c e f).2 = 0); have e1 : (reviseS a b c e f).1 = revV a b c e f := congrArg Prod.fst (rev_ok0 hnb); have e2 : (reviseS (a + x) b c e f).1 = revV (a + x) b c e f := congrArg Prod.fst (rev_ok0 hnb2); have m := rev_total hnb hnb2 (by omega); omega) | (exfalso; have hnb2 := rev_of0 (by assumption : (reviseS a b (c + y) e f).2 = 0); have e1 : (reviseS a b c e f).1 = revV a b c e f := congrArg Prod.fst (rev_ok0 hnb); have e2 : (reviseS a b (c + y) e f).1 = revV a b (c + y) e f := congrArg Prod.fst (rev_ok0 hnb2); have m := rev_second hnb hnb2 (by omega); omega) | (exfalso; have hnb2 := rev_of0 (by assumption : (reviseS a (b + z) c e f).2 = 0); have e1 : (reviseS a b c e f).1 = revV a b c e f := congrArg Prod.fst (rev_ok0 hnb); have e2 : (reviseS a (b + z) c e f).1 = revV a (b + z) c e f := congrArg Prod.fst (rev_ok0 hnb2); have m := rev_first hnb hnb2 (by omega); omega)
              · try simp only [decide_eq_true_eq, decide_eq_false_iff_not, Bool.not_eq_true', Bool.not_eq_false', beq_iff_eq, beq_eq_false_iff_ne, ne_eq] at h9
                exfalso; omega
        · try simp only [decide_eq_true_eq, decide_eq_false_iff_not, Bool.not_eq_true', Bool.not_eq_false', beq_iff_eq, beq_eq_false_iff_ne, ne_eq] at h4
          refine Rn ?_
          refine Rn ?_
          refine Rn ?_
          refine Rq ?_
          have tr : ∀ y0 y1 y2 y3 y4 y5 y6 y7 y8 y9 y10 y11 y12 y13 y15 y31 y58 y83 y108 z0 z1 z2 z3 z4 z5 z6 : AV, trim [(83, z6), (82, z5), (81, z4), (80, z3), (79, z2), (78, z1), (77, z0), (0, y0), (1, y1), (2, y2), (3, y3), (4, y4), (5, y5), (6, y6), (7, y7), (8, y8), (9, y9), (10, y10), (11, y11), (12, y12), (13, y13), (15, y15), (31, y31), (58, y58), (83, y83), (108, y108)] [(0, y0), (1, y1), (2, y2), (3, y3), (4, y4), (5, y5), (6, y6), (7, y7), (8, y8), (9, y9), (10, y10), (11, y11), (12, y12), (13, y13), (15, y15), (31, y31), (58, y58), (83, y83), (108, y108)] = [(0, y0), (1, y1), (2, y2), (3, y3), (4, y4), (5, y5), (6, y6), (7, y7), (8, y8), (9, y9), (10, y10), (11, y11), (12, y12), (13, y13), (15, y15), (31, y31), (58, y58), (83, z6), (108, y108)] := fun y0 y1 y2 y3 y4 y5 y6 y7 y8 y9 y10 y11 y12 y13 y15 y31 y58 y83 y108 z0 z1 z2 z3 z4 z5 z6 => rfl
          refine R_nil (tr _ _ _ _ _ _ _ _ _ _ _ _ _ _ _ _ _ _ _ _ _ _ _ _ _ _) ?_; clear tr
          refine then_n ?_
          refine cdf ?_
          refine at_skip rfl ?_
          refine then_n ?_
          refine at_seq rfl ?_
          refine at_seq rfl ?_
          refine rg rfl ?_
          refine Rq ?_
          refine Rq ?_
          refine Rq ?_
          refine Rq ?_
          refine Rq ?_
          refine Rq ?_
          refine Rq ?_
          refine Rq ?_
          refine Rq ?_
          refine Rq ?_
          refine Rq ?_
          refine Rq ?_
          refine Rq ?_
          refine Rq ?_
          refine Rcall ?_
          refine ACall_eq (rev_ok _ _ a (b + z) c e f) ?_
          refine Rq ?_
          refine Rq ?_
          refine Rq ?_
          refine Rq ?_
          refine Rq ?_
          have tr : ∀ y0 y1 y2 y3 y4 y5 y6 y7 y8 y9 y10 y11 y12 y13 y15 y31 y58 y83 y108 z0 z1 z2 z3 z4 z5 z6 z7 z8 z9 z10 z11 z12 z13 z14 z15 z16 z17 z18 z19 : AV, trim [(12, z19), (11, z18), (101, z17), (100, z16), (84, z15), (99, z14), (98, z13), (97, z12), (96, z11), (95, z10), (94, z9), (93, z8), (92, z7), (91, z6), (90, z5), (89, z4), (88, z3), (87, z2), (86, z1), (85, z0), (0, y0), (1, y1), (2, y2), (3, y3), (4, y4), (5, y5), (6, y6), (7, y7), (8, y8), (9, y9), (10, y10), (11, y11), (12, y12), (13, y13), (15, y15), (31, y31), (58, y58), (83, y83), (108, y108)] [(0, y0), (1, y1), (2, y2), (3, y3), (4, y4), (5, y5), (6, y6), (7, y7), (8, y8), (9, y9), (10, y10), (11, y11), (12, y12), (13, y13), (15, y15), (31, y31), (58, y58), (83, y83), (108, y108)] = [(0, y0), (1, y1), (2, y2), (3, y3), (4, y4), (5, y5), (6, y6), (7, y7), (8, y8), (9, y9), (10, y10), (11, z18), (12, z19), (13, y13), (15, y15), (31, y31), (58, y58), (83, y83), (108, y108)] := fun y0 y1 y2 y3 y4 y5 y6 y7 y8 y9 y10 y11 y12 y13 y15 y31 y58 y83 y108 z0 z1 z2 z3 z4 z5 z6 z7 z8 z9 z10 z11 z12 z13 z14 z15 z16 z17 z18 z19 => rfl
          refine R_nil (tr _ _ _ _ _ _ _ _ _ _ _ _ _ _ _ _ _ _ _ _ _ _ _ _ _ _ _ _ _ _ _ _ _ _ _ _ _ _ _) ?_; clear tr
          refine then_n ?_
          refine at_seq rfl ?_
          refine rg rfl ?_
          refine Rq ?_
          refine Rq ?_
          refine Rq ?_
          refine Rp_split (fun h10 => ?_) (fun h10 => ?_)
          · try simp only [decide_eq_true_eq, decide_eq_false_iff_not, Bool.not_eq_true', Bool.not_eq_false', beq_iff_eq, beq_eq_false_iff_ne, ne_eq] at h10
            refine Ry ?_
            refine Rq ?_
            refine Ry ?_
            refine Rq ?_
            refine Ry ?_
            refine Rq ?_
            refine Rq ?_
            have tr : ∀ y0 y1 y2 y3 y4 y5 y6 y7 y8 y9 y10 y11 y12 y13 y15 y31 y58 y83 y108 z0 z1 z2 z3 z4 z5 z6 : AV, trim [(108, z6), (107, z5), (106, z4), (105, z3), (104, z2), (103, z1), (102, z0), (0, y0), (1, y1), (2, y2), (3, y3), (4, y4), (5, y5), (6, y6), (7, y7), (8, y8), (9, y9), (10, y10), (11, y11), (12, y12), (13, y13), (15, y15), (31, y31), (58, y58), (83, y83), (108, y108)] [(0, y0), (1, y1), (2, y2), (3, y3), (4, y4), (5, y5), (6, y6), (7, y7), (8, y8), (9, y9), (10, y10), (11, y11), (12, y12), (13, y13), (15, y15), (31, y31), (58, y58), (83, y83), (108, y108)] = [(0, y0), (1, y1), (2, y2), (3, y3), (4, y4), (5, y5), (6, y6), (7, y7), (8, y8), (9, y9), (10, y10), (11, y11), (12, y12), (13, y13), (15, y15), (31, y31), (58, y58), (83, y83), (108, z6)] := fun y0 y1 y2 y3 y4 y5 y6 y7 y8 y9 y10 y11 y12 y13 y15 y31 y58 y83 y108 z0 z1 z2 z3 z4 z5 z6 => rfl
            refine R_nil (tr _ _ _ _ _ _ _ _ _ _ _ _ _ _ _ _ _ _ _ _ _ _ _ _ _ _) ?_; clear tr
            refine then_n ?_
            refine cdd (fun h11 => ?_) (fun h11 => ?_)
            · try simp only [decide_eq_true_eq, decide_eq_false_iff_not, Bool.not_eq_true', Bool.not_eq_false', beq_iff_eq, beq_eq_false_iff_ne, ne_eq] at h11
              refine at_seq rfl ?_
              refine rg rfl ?_
              refine Rq ?_
              have tr : ∀ y0 y1 y2 y3 y4 y5 y6 y7 y8 y9 y10 y11 y12 y13 y15 y31 y58 y83 y108 z0 : AV, trim [(4, z0), (0, y0), (1, y1), (2, y2), (3, y3), (4, y4), (5, y5), (6, y6), (7, y7), (8, y8), (9, y9), (10, y10), (11, y11), (12, y12), (13, y13), (15, y15), (31, y31), (58, y58), (83, y83), (108, y108)] [(0, y0), (1, y1), (2, y2), (3, y3), (4, y4), (5, y5), (6, y6), (7, y7), (8, y8), (9, y9), (10, y10), (11, y11), (12, y12), (13, y13), (15, y15), (31, y31), (58, y58), (83, y83), (108, y108)] = [(0, y0), (1, y1), (2, y2), (3, y3), (4, z0), (5, y5), (6, y6), (7, y7), (8, y8), (9, y9), (10, y10), (11, y11), (12, y12), (13, y13), (15, y15), (31, y31), (58, y58), (83, y83), (108, y108)] := fun y0 y1 y2 y3 y4 y5 y6 y7 y8 y9 y10 y11 y12 y13 y15 y31 y58 y83 y108 z0 => rfl
              refine R_nil (tr _ _ _ _ _ _ _ _ _ _ _ _ _ _ _ _ _ _ _ _) ?_; clear tr
              refine then_n ?_
              refine at_ret rfl ?_
              refine then_r ?_
              first | (refine fpure ?_; first | rfl | (rw [hre]; rfl) | (rw [e7]; simp; done)) | (exfalso; have hnb2 := rev_of0 (by assumption : (reviseS (a + x) b c e f).2 = 0); have e1 : (reviseS a b c e f).1 = revV a b c e f := congrArg Prod.fst (rev_ok0 hnb); have e2 : (reviseS (a + x) b c e f).1 = revV (a + x) b c e f := congrArg Prod.fst (rev_ok0 hnb2); have m := rev_total hnb hnb2 (by omega); omega) | (exfalso; have hnb2 := rev_of0 (by assumption : (reviseS a b (c + y) e f).2 = 0); have e1 : (reviseS a b c e f).1 = revV a b c e f := congrArg Prod.fst (rev_ok0 hnb); have e2 : (reviseS a b (c + y) e f).1 = revV a b (c + y) e f := congrArg Prod.fst (rev_ok0 hnb2); have m := rev_second hnb hnb2 (by omega); omega) | (exfalso; have hnb2 := rev_of0 (by assumption : (reviseS a (b + z) c e f).2 = 0); have e1 : (reviseS a b c e f).1 = revV a b c e f := congrArg Prod.fst (rev_ok0 hnb); have e2 : (reviseS a (b + z) c e f).1 = revV a (b + z) c e f := congrArg Prod.fst (rev_ok0 hnb2); have m := rev_first hnb hnb2 (by omega); omega)
            · try simp only [decide_eq_true_eq, decide_eq_false_iff_not, Bool.not_eq_true', Bool.not_eq_false', beq_iff_eq, beq_eq_false_iff_ne, ne_eq] at h11
              refine at_skip rfl ?_
              refine then_n ?_
              refine at_seq rfl ?_
              refine rg rfl ?_
              have hsm := rev_same hnb
              refine Rq ?_
              refine Rq ?_
              refine Rq ?_
              refine Rq ?_
              refine Rq ?_
              refine Rq ?_
              refine Rq ?_
              refine Rq ?_
              refine Rq ?_
              refine Rq ?_
              refine Rcall ?_
              refine ACall_eq (rev_ok _ _ a b b e f) ?_
              refine Rq ?_
              refine Rq ?_
              refine Rq ?_
              refine Rq ?_
              refine Rq ?_
              have tr : ∀ y0 y1 y2 y3 y4 y5 y6 y7 y8 y9 y10 y11 y12 y13 y15 y31 y58 y83 y108 z0 z1 z2 z3 z4 z5 z6 z7 z8 z9 z10 z11 z12 z13 z14 z15 : AV, trim [(6, z15), (13, z14), (122, z13), (121, z12), (109, z11), (120, z10), (119, z9), (118, z8), (117, z7), (116, z6), (115, z5), (114, z4), (113, z3), (112, z2), (111, z1), (110, z0), (0, y0), (1, y1), (2, y2), (3, y3), (4, y4), (5, y5), (6, y6), (7, y7), (8, y8), (9, y9), (10, y10), (11, y11), (12, y12), (13, y13), (15, y15), (31, y31), (58, y58), (83, y83), (108, y108)] [(0, y0), (1, y1), (2, y2), (3, y3), (4, y4), (5, y5), (6, y6), (7, y7), (8, y8), (9, y9), (10, y10), (11, y11), (12, y12), (13, y13), (15, y15), (31, y31), (58, y58), (83, y83), (108, y108)] = [(0, y0), (1, y1), (2, y2), (3, y3), (4, y4), (5, y5), (6, z15), (7, y7), (8, y8), (9, y9), (10, y10), (11, y11), (12, y12), (13, z14), (15, y15), (31, y31), (58, y58), (83, y83), (108, y108)] := fun y0 y1 y2 y3 y4 y5 y6 y7 y8 y9 y10 y11 y12 y13 y15 y31 y58 y83 y108 z0 z1 z2 z3 z4 z5 z6 z7 z8 z9 z10 z11 z12 z13 z14 z15 => rfl
              refine R_nil (tr _ _ _ _ _ _ _ _ _ _ _ _ _ _ _ _ _ _ _ _ _ _ _ _ _ _ _ _ _ _ _ _ _ _ _) ?_; clear tr
              refine then_n ?_
              refine at_seq rfl ?_
              refine rg rfl ?_
              have e5 := rev_ok0 hsm.1
              have e6 : (reviseS a b b e f).2 = 0 := by rw [e5]
              have e7 : (reviseS a b b e f).1 = a + 1 := by rw [e5]; exact hsm.2
              refine Rq ?_
              refine Rq ?_
              refine Rq ?_
              refine Rp_split (fun h12 => ?_) (fun h12 => ?_)
              · try simp only [decide_eq_true_eq, decide_eq_false_iff_not, Bool.not_eq_true', Bool.not_eq_false', beq_iff_eq, beq_eq_false_iff_ne, ne_eq] at h12
                refine Ry ?_
                refine Rq ?_
                refine Ry ?_
                refine Rq ?_
                refine Ry ?_
                refine Rq ?_
                refine Ry ?_
                refine Rq ?_
                refine Ry ?_
                refine Rq ?_
                refine Rq ?_
                refine Rq ?_
                have tr : ∀ y0 y1 y2 y3 y4 y5 y6 y7 y8 y9 y10 y11 y12 y13 y15 y31 y58 y83 y108 z0 z1 z2 z3 z4 z5 z6 z7 z8 z9 : AV, trim [(4, z9), (131, z8), (130, z7), (129, z6), (128, z5), (127, z4), (126, z3), (125, z2), (124, z1), (123, z0), (0, y0), (1, y1), (2, y2), (3, y3), (4, y4), (5, y5), (6, y6), (7, y7), (8, y8), (9, y9), (10, y10), (11, y11), (12, y12), (13, y13), (15, y15), (31, y31), (58, y58), (83, y83), (108, y108)] [(0, y0), (1, y1), (2, y2), (3, y3), (4, y4), (5, y5), (6, y6), (7, y7), (8, y8), (9, y9), (10, y10), (11, y11), (12, y12), (13, y13), (15, y15), (31, y31), (58, y58), (83, y83), (108, y108)] = [(0, y0), (1, y1), (2, y2), (3, y3), (4, z9), (5, y5), (6, y6), (7, y7), (8, y8), (9, y9), (10, y10), (11, y11), (12, y12), (13, y13), (15, y15), (31, y31), (58, y58), (83, y83), (108, y108)] := fun y0 y1 y2 y3 y4 y5 y6 y7 y8 y9 y10 y11 y12 y13 y15 y31 y58 y83 y108 z0 z1 z2 z3 z4 z5 z6 z7 z8 z9 => rfl
                refine R_nil (tr _ _ _ _ _ _ _ _ _ _ _ _ _ _ _ _ _ _ _ _ _ _ _ _ _ _ _ _ _) ?_; clear tr
                refine then_n ?_
                refine at_ret rfl ?_
                first | (refine fpure ?_; first | rfl | (rw [hre]; rfl) | (rw [e7]; simp; done)) | (exfalso; have hnb2 := rev_of0 (by assumption : (reviseS (a + x) b c e f).2 = 0); have e1 : (reviseS a b c e f).1 = revV a b c e f := congrArg Prod.fst (rev_ok0 hnb); have e2 : (reviseS (a + x) b c e f).1 = revV (a + x) b c e f := congrArg Prod.fst (rev_ok0 hnb2); have m := rev_total hnb hnb2 (by omega); omega) | (exfalso; have hnb2 := rev_of0 (by assumption : (reviseS a b (c + y) e f).2 = 0); have e1 : (reviseS a b c e f).1 = revV a b c e f := congrArg Prod.fst (rev_ok0 hnb); have e2 : (reviseS a b (c + y) e f).1 = revV a b (c + y) e f := congrArg Prod.fst (rev_ok0 hnb2); have m := rev_second hnb hnb2 (by omega); omega) | (exfalso; have hnb2 := rev_of0 (by assumption : (reviseS a (b + z) c e f).2 = 0); have e1 : (reviseS a b c e f).1 = revV a b c e f := congrArg Prod.fst (rev_ok0 hnb); have e2 : (reviseS a (b + z) c e f).1 = revV a (b + z) c e f := congrArg Prod.fst (rev_ok0 hnb2); have m := rev_first hnb hnb2 (by omega); omega)
              · try simp only [decide_eq_true_eq, decide_eq_false_iff_not, Bool.not_eq_true', Bool.not_eq_false', beq_iff_eq, beq_eq_false_iff_ne, ne_eq] at h12
                exfalso; omega
          · try simp only [decide_eq_true_eq, decide_eq_false_iff_not, Bool.not_eq_true', Bool.not_eq_false', beq_iff_eq, beq_eq_false_iff_ne, ne_eq] at h10
            refine Rn ?_
            refine Rn ?_
            refine Rn ?_
            refine Rq ?_
            have tr : ∀ y0 y1 y2 y3 y4 y5 y6 y7 y8 y9 y10 y11 y12 y13 y15 y31 y58 y83 y108 z0 z1 z2 z3 z4 z5 z6 : AV, trim [(108, z6), (107, z5), (106, z4), (105, z3), (104, z2), (103, z1), (102, z0), (0, y0), (1, y1), (2, y2), (3, y3), (4, y4), (5, y5), (6, y6), (7, y7), (8, y8), (9, y9), (10, y10), (11, y11), (12, y12), (13, y13), (15, y15), (31, y31), (58, y58), (83, y83), (108, y108)] [(0, y0), (1, y1), (2, y2), (3, y3), (4, y4), (5, y5), (6, y6), (7, y7), (8, y8), (9, y9), (10, y10), (11, y11), (12, y12), (13, y13), (15, y15), (31, y31), (58, y58), (83, y83), (108, y108)] = [(0, y0), (1, y1), (2, y2), (3, y3), (4, y4), (5, y5), (6, y6), (7, y7), (8, y8), (9, y9), (10, y10), (11, y11), (12, y12), (13, y13), (15, y15), (31, y31), (58, y58), (83, y83), (108, z6)] := fun y0 y1 y2 y3 y4 y5 y6 y7 y8 y9 y10 y11 y12 y13 y15 y31 y58 y83 y108 z0 z1 z2 z3 z4 z5 z6 => rfl
            refine R_nil (tr _ _ _ _ _ _ _ _ _ _ _ _ _ _ _ _ _ _ _ _ _ _ _ _ _ _) ?_; clear tr
            refine then_n ?_
            refine cdf ?_
            refine at_skip rfl ?_
            refine then_n ?_
            refine at_seq rfl ?_
            refine rg rfl ?_
            have hsm := rev_same hnb
            refine Rq ?_
            refine Rq ?_
            refine Rq ?_
            refine Rq ?_
            refine Rq ?_
            refine Rq ?_
            refine Rq ?_
            refine Rq ?_
            refine Rq ?_
            refine Rq ?_
            refine Rcall ?_
            refine ACall_eq (rev_ok _ _ a b b e f) ?_
            refine Rq ?_
            refine Rq ?_
            refine Rq ?_
            refine Rq ?_
            refine Rq ?_
            have tr : ∀ y0 y1 y2 y3 y4 y5 y6 y7 y8 y9 y10 y11 y12 y13 y15 y31 y58 y83 y108 z0 z1 z2 z3 z4 z5 z6 z7 z8 z9 z10 z11 z12 z13 z14 z15 : AV, trim [(6, z15), (13, z14), (122, z13), (121, z12), (109, z11), (120, z10), (119, z9), (118, z8), (117, z7), (116, z6), (115, z5), (114, z4), (113, z3), (112, z2), (111, z1), (110, z0), (0, y0), (1, y1), (2, y2), (3, y3), (4, y4), (5, y5), (6, y6), (7, y7), (8, y8), (9, y9), (10, y10), (11, y11), (12, y12), (13, y13), (15, y15), (31, y31), (58, y58), (83, y83), (108, y108)] [(0, y0), (1, y1), (2, y2), (3, y3), (4, y4), (5, y5), (6, y6), (7, y7), (8, y8), (9, y9), (10, y10), (11, y11), (12, y12), (13, y13), (15, y15), (31, y31), (58, y58), (83, y83), (108, y108)] = [(0, y0), (1, y1), (2, y2), (3, y3), (4, y4), (5, y5), (6, z15), (7, y7), (8, y8), (9, y9), (10, y10), (11, y11), (12, y12), (13, z14), (15, y15), (31, y31), (58, y58), (83, y83), (108, y108)] := fun y0 y1 y2 y3 y4 y5 y6 y7 y8 y9 y10 y11 y12 y13 y15 y31 y58 y83 y108 z0 z1 z2 z3 z4 z5 z6 z7 z8 z9 z10 z11 z12 z13 z14 z15 => rfl
            refine R_nil (tr _ _ _ _ _ _ _ _ _ _ _ _ _ _ _ _ _ _ _ _ _ _ _ _ _ _ _ _ _ _ _ _ _ _ _) ?_; clear tr
            refine then_n ?_
            refine at_seq rfl ?_
            refine rg rfl ?_
            have e5 := rev_ok0 hsm.1
            have e6 : (reviseS a b b e f).2 = 0 := by rw [e5]
            have e7 : (reviseS a b b e f).1 = a + 1 := by rw [e5]; exact hsm.2
            refine Rq ?_
            refine Rq ?_
            refine Rq ?_
            refine Rp_split (fun h13 => ?_) (fun h13 => ?_)
            · try simp only [decide_eq_true_eq, decide_eq_false_iff_not, Bool.not_eq_true', Bool.not_eq_false', beq_iff_eq, beq_eq_false_iff_ne, ne_eq] at h13
              refine Ry ?_
              refine Rq ?_
              refine Ry ?_
              refine Rq ?_
              refine Ry ?_
              refine Rq ?_
              refine Ry ?_
              refine Rq ?_
              refine Ry ?_
              refine Rq ?_
              refine Rq ?_
              refine Rq ?_
              have tr : ∀ y0 y1 y2 y3 y4 y5 y6 y7 y8 y9 y10 y11 y12 y13 y15 y31 y58 y83 y108 z0 z1 z2 z3 z4 z5 z6 z7 z8 z9 : AV, trim [(4, z9), (131, z8), (130, z7), (129, z6), (128, z5), (127, z4), (126, z3), (125, z2), (124, z1), (123, z0), (0, y0), (1, y1), (2, y2), (3, y3), (4, y4), (5, y5), (6, y6), (7, y7), (8, y8), (9, y9), (10, y10), (11, y11), (12, y12), (13, y13), (15, y15), (31, y31), (58, y58), (83, y83), (108, y108)] [(0, y0), (1, y1), (2, y2), (3, y3), (4, y4), (5, y5), (6, y6), (7, y7), (8, y8), (9, y9), (10, y10), (11, y11), (12, y12), (13, y13), (15, y15), (31, y31), (58, y58), (83, y83), (108, y108)] = [(0, y0), (1, y1), (2, y2), (3, y3), (4, z9), (5, y5), (6, y6), (7, y7), (8, y8), (9, y9), (10, y10), (11, y11), (12, y12), (13, y13), (15, y15), (31, y31), (58, y58), (83, y83), (108, y108)] := fun y0 y1 y2 y3 y4 y5 y6 y7 y8 y9 y10 y11 y12 y13 y15 y31 y58 y83 y108 z0 z1 z2 z3 z4 z5 z6 z7 z8 z9 => rfl
              refine R_nil (tr _ _ _ _ _ _ _ _ _ _ _ _ _ _ _ _ _ _ _ _ _ _ _ _ _ _ _ _ _) ?_; clear tr
              refine then_n ?_
              refine at_ret rfl ?_
              first | (refine fpure ?_; first | rfl | (rw [hre]; rfl) | (rw [e7]; simp; done)) | (exfalso; have hnb2 := rev_of0 (by assumption : (reviseS (a + x) b c e f).2 = 0); have e1 : (reviseS a b c e f).1 = revV a b c e f := congrArg Prod.fst (rev_ok0 hnb); have e2 : (reviseS (a + x) b c e f).1 = revV (a + x) b c e f := congrArg Prod.fst (rev_ok0 hnb2); have m := rev_total hnb hnb2 (by omega); omega) | (exfalso; have hnb2 := rev_of0 (by assumption : (reviseS a b (c + y) e f).2 = 0); have e1 : (reviseS a b c e f).1 = revV a b c e f := congrArg Prod.fst (rev_ok0 hnb); have e2 : (reviseS a b (c + y) e f).1 = revV a b (c + y) e f := congrArg Prod.fst (rev_ok0 hnb2); have m := rev_second hnb hnb2 (by omega); omega) | (exfalso; have hnb2 := rev_of0 (by assumption : (reviseS a (b + z) c e f).2 = 0); have e1 : (reviseS a b c e f).1 = revV a b c e f := congrArg Prod.fst (rev_ok0 hnb); have e2 : (reviseS a (b + z) c e f).1 = revV a (b + z) c e f := congrArg Prod.fst (rev_ok0 hnb2); have m := rev_first hnb hnb2 (by omega); omega)
            · try simp only [decide_eq_true_eq, decide_eq_false_iff_not, Bool.not_eq_true', Bool.not_eq_false', beq_iff_eq, beq_eq_false_iff_ne, ne_eq] at h13
              exfalso; omega
    · try simp only [decide_eq_true_eq, decide_eq_false_iff_not, Bool.not_eq_true', Bool.not_eq_false', beq_iff_eq, beq_eq_false_iff_ne, ne_eq] at h2
      refine Rn ?_
      refine Rn ?_
      refine Rn ?_
      refine Rq ?_
      have tr : ∀ y0 y1 y2 y3 y4 y5 y6 y7 y8 y9 y10 y11 y12 y13 y15 y31 y58 y83 y108 z0 z1 z2 z3 z4 z5 z6 : AV, trim [(58, z6), (57, z5), (56, z4), (55, z3), (54, z2), (53, z1), (52, z0), (0, y0), (1, y1), (2, y2), (3, y3), (4, y4), (5, y5), (6, y6), (7, y7), (8, y8), (9, y9), (10, y10), (11, y11), (12, y12), (13, y13), (15, y15), (31, y31), (58, y58), (83, y83), (108, y108)] [(0, y0), (1, y1), (2, y2), (3, y3), (4, y4), (5, y5), (6, y6), (7, y7), (8, y8), (9, y9), (10, y10), (11, y11), (12, y12), (13, y13), (15, y15), (31, y31), (58, y58), (83, y83), (108, y108)] = [(0, y0), (1, y1), (2, y2), (3, y3), (4, y4), (5, y5), (6, y6), (7, y7), (8, y8), (9, y9), (10, y10), (11, y11), (12, y12), (13, y13), (15, y15), (31, y31), (58, z6), (83, y83), (108, y108)] := fun y0 y1 y2 y3 y4 y5 y6 y7 y8 y9 y10 y11 y12 y13 y15 y31 y58 y83 y108 z0 z1 z2 z3 z4 z5 z6 => rfl
      refine R_nil (tr _ _ _ _ _ _ _ _ _ _ _ _ _ _ _ _ _ _ _ _ _ _ _ _ _ _) ?_; clear tr
      refine then_n ?_
      refine cdf ?_
      refine at_skip rfl ?_
      refine then_n ?_
      refine at_seq rfl ?_
      refine at_seq rfl ?_
      refine rg rfl ?_
      refine Rq ?_
      refine Rq ?_
      refine Rq ?_
      refine Rq ?_
      refine Rq ?_
      refine Rq ?_
      refine Rq ?_
      refine Rq ?_
      refine Rq ?_
      refine Rq ?_
      refine Rq ?_
      refine Rq ?_
      refine Rq ?_
      refine Rq ?_
      refine Rcall ?_
      refine ACall_eq (rev_ok _ _ a b (c + y) e f) ?_
      refine Rq ?_
      refine Rq ?_
      refine Rq ?_
      refine Rq ?_
      refine Rq ?_
      have tr : ∀ y0 y1 y2 y3 y4 y5 y6 y7 y8 y9 y10 y11 y12 y13 y15 y31 y58 y83 y108 z0 z1 z2 z3 z4 z5 z6 z7 z8 z9 z10 z11 z12 z13 z14 z15 z16 z17 z18 z19 : AV, trim [(10, z19), (9, z18), (76, z17), (75, z16), (59, z15), (74, z14), (73, z13), (72, z12), (71, z11), (70, z10), (69, z9), (68, z8), (67, z7), (66, z6), (65, z5), (64, z4), (63, z3), (62, z2), (61, z1), (60, z0), (0, y0), (1, y1), (2, y2), (3, y3), (4, y4), (5, y5), (6, y6), (7, y7), (8, y8), (9, y9), (10, y10), (11, y11), (12, y12), (13, y13), (15, y15), (31, y31), (58, y58), (83, y83), (108, y108)] [(0, y0), (1, y1), (2, y2), (3, y3), (4, y4), (5, y5), (6, y6), (7, y7), (8, y8), (9, y9), (10, y10), (11, y11), (12, y12), (13, y13), (15, y15), (31, y31), (58, y58), (83, y83), (108, y108)] = [(0, y0), (1, y1), (2, y2), (3, y3), (4, y4), (5, y5), (6, y6), (7, y7), (8, y8), (9, z18), (10, z19), (11, y11), (12, y12), (13, y13), (15, y15), (31, y31), (58, y58), (83, y83), (108, y108)] := fun y0 y1 y2 y3 y4 y5 y6 y7 y8 y9 y10 y11 y12 y13 y15 y31 y58 y83 y108 z0 z1 z2 z3 z4 z5 z6 z7 z8 z9 z10 z11 z12 z13 z14 z15 z16 z17 z18 z19 => rfl
      refine R_nil (tr _ _ _ _ _ _ _ _ _ _ _ _ _ _ _ _ _ _ _ _ _ _ _ _ _ _ _ _ _ _ _ _ _ _ _ _ _ _ _) ?_; clear tr
      refine then_n ?_
      refine at_seq rfl ?_
      refine rg rfl ?_
      refine Rq ?_
      refine Rq ?_
      refine Rq ?_
      refine Rp_split (fun h14 => ?_) (fun h14 => ?_)
      · try simp only [decide_eq_true_eq, decide_eq_false_iff_not, Bool.not_eq_true', Bool.not_eq_false', beq_iff_eq, beq_eq_false_iff_ne, ne_eq] at h14
        refine Ry ?_
        refine Rq ?_
        refine Ry ?_
        refine Rq ?_
        refine Ry ?_
        refine Rq ?_
        refine Rq ?_
        have tr : ∀ y0 y1 y2 y3 y4 y5 y6 y7 y8 y9 y10 y11 y12 y13 y15 y31 y58 y83 y108 z0 z1 z2 z3 z4 z5 z6 : AV, trim [(83, z6), (82, z5), (81, z4), (80, z3), (79, z2), (78, z1), (77, z0), (0, y0), (1, y1), (2, y2), (3, y3), (4, y4), (5, y5), (6, y6), (7, y7), (8, y8), (9, y9), (10, y10), (11, y11), (12, y12), (13, y13), (15, y15), (31, y31), (58, y58), (83, y83), (108, y108)] [(0, y0), (1, y1), (2, y2), (3, y3), (4, y4), (5, y5), (6, y6), (7, y7), (8, y8), (9, y9), (10, y10), (11, y11), (12, y12), (13, y13), (15, y15), (31, y31), (58, y58), (83, y83), (108, y108)] = [(0, y0), (1, y1), (2, y2), (3, y3), (4, y4), (5, y5), (6, y6), (7, y7), (8, y8), (9, y9), (10, y10), (11, y11), (12, y12), (13, y13), (15, y15), (31, y31), (58, y58), (83, z6), (108, y108)] := fun y0 y1 y2 y3 y4 y5 y6 y7 y8 y9 y10 y11 y12 y13 y15 y31 y58 y83 y108 z0 z1 z2 z3 z4 z5 z6 => rfl
        refine R_nil (tr _ _ _ _ _ _ _ _ _ _ _ _ _ _ _ _ _ _ _ _ _ _ _ _ _ _) ?_; clear tr
        refine then_n ?_
        refine cdd (fun h15 => ?_) (fun h15 => ?_)
        · try simp only [decide_eq_true_eq, decide_eq_false_iff_not, Bool.not_eq_true', Bool.not_eq_false', beq_iff_eq, beq_eq_false_iff_ne, ne_eq] at h15
          refine at_seq rfl ?_
          refine rg rfl ?_
          refine Rq ?_
          have tr : ∀ y0 y1 y2 y3 y4 y5 y6 y7 y8 y9 y10 y11 y12 y13 y15 y31 y58 y83 y108 z0 : AV, trim [(4, z0), (0, y0), (1, y1), (2, y2), (3, y3), (4, y4), (5, y5), (6, y6), (7, y7), (8, y8), (9, y9), (10, y10), (11, y11), (12, y12), (13, y13), (15, y15), (31, y31), (58, y58), (83, y83), (108, y108)] [(0, y0), (1, y1), (2, y2), (3, y3), (4, y4), (5, y5), (6, y6), (7, y7), (8, y8), (9, y9), (10, y10), (11, y11), (12, y12), (13, y13), (15, y15), (31, y31), (58, y58), (83, y83), (108, y108)] = [(0, y0), (1, y1), (2, y2), (3, y3), (4, z0), (5, y5), (6, y6), (7, y7), (8, y8), (9, y9), (10, y10), (11, y11), (12, y12), (13, y13), (15, y15), (31, y31), (58, y58), (83, y83), (108, y108)] := fun y0 y1 y2 y3 y4 y5 y6 y7 y8 y9 y10 y11 y12 y13 y15 y31 y58 y83 y108 z0 => rfl
          refine R_nil (tr _ _ _ _ _ _ _ _ _ _ _ _ _ _ _ _ _ _ _ _) ?_; clear tr
          refine then_n ?_
          refine at_ret rfl ?_
          refine then_r ?_
          first | (refine fpure ?_; first | rfl | (rw [hre]; rfl) | (rw [e7]; simp; done)) | (exfalso; have hnb2 := rev_of0 (by assumption : (reviseS (a + x) b c e f).2 = 0); have e1 : (reviseS a b c e f).1 = revV a b c e f := congrArg Prod.fst (rev_ok0 hnb); have e2 : (reviseS (a + x) b c e f).1 = revV (a + x) b c e f := congrArg Prod.fst (rev_ok0 hnb2); have m := rev_total hnb hnb2 (by omega); omega) | (exfalso; have hnb2 := rev_of0 (by assumption : (reviseS a b (c + y) e f).2 = 0); have e1 : (reviseS a b c e f).1 = revV a b c e f := congrArg Prod.fst (rev_ok0 hnb); have e2 : (reviseS a b (c + y) e f).1 = revV a b (c + y) e f := congrArg Prod.fst (rev_ok0 hnb2); have m := rev_second hnb hnb2 (by omega); omega) | (exfalso; have hnb2 := rev_of0 (by assumption : (reviseS a (b + z) c e f).2 = 0); have e1 : (reviseS a b c e f).1 = revV a b c e f := congrArg Prod.fst (rev_ok0 hnb); have e2 : (reviseS a (b + z) c e f).1 = revV a (b + z) c e f := congrArg Prod.fst (rev_ok0 hnb2); have m := rev_first hnb hnb2 (by omega); omega)
        · try simp only [decide_eq_true_eq, decide_eq_false_iff_not, Bool.not_eq_true', Bool.not_eq_false', beq_iff_eq, beq_eq_false_iff_ne, ne_eq] at h15
          refine at_skip rfl ?_
          refine then_n ?_
          refine at_seq rfl ?_
          refine at_seq rfl ?_
          refine rg rfl ?_
          refine Rq ?_
          refine Rq ?_
          refine Rq ?_
          refine Rq ?_
          refine Rq ?_
          refine Rq ?_
          refine Rq ?_
          refine Rq ?_
          refine Rq ?_
          refine Rq ?_
          refine Rq ?_
          refine Rq ?_
          refine Rq ?_
          refine Rq ?_
          refine Rcall ?_
          refine ACall_eq (rev_ok _ _ a (b + z) c e f) ?_
          refine Rq ?_
          refine Rq ?_
          refine Rq ?_
          refine Rq ?_
          refine Rq ?_
          have tr : ∀ y0 y1 y2 y3 y4 y5 y6 y7 y8 y9 y10 y11 y12 y13 y15 y31 y58 y83 y108 z0 z1 z2 z3 z4 z5 z6 z7 z8 z9 z10 z11 z12 z13 z14 z15 z16 z17 z18 z19 : AV, trim [(12, z19), (11, z18), (101, z17), (100, z16), (84, z15), (99, z14), (98, z13), (97, z12), (96, z11), (95, z10), (94, z9), (93, z8), (92, z7), (91, z6), (90, z5), (89, z4), (88, z3), (87, z2), (86, z1), (85, z0), (0, y0), (1, y1), (2, y2), (3, y3), (4, y4), (5, y5), (6, y6), (7, y7), (8, y8), (9, y9), (10, y10), (11, y11), (12, y12), (13, y13), (15, y15), (31, y31), (58, y58), (83, y83), (108, y108)] [(0, y0), (1, y1), (2, y2), (3, y3), (4, y4), (5, y5), (6, y6), (7, y7), (8, y8), (9, y9), (10, y10), (11, y11), (12, y12), (13, y13), (15, y15), (31, y31), (58, y58), (83, y83), (108, y108)] = [(0, y0), (1, y1), (2, y2), (3, y3), (4, y4), (5, y5), (6, y6), (7, y7), (8, y8), (9, y9), (10, y10), (11, z18), (12, z19), (13, y13), (15, y15), (31, y31), (58, y58), (83, y83), (108, y108)] := fun y0 y1 y2 y3 y4 y5 y6 y7 y8 y9 y10 y11 y12 y13 y15 y31 y58 y83 y108 z0 z1 z2 z3 z4 z5 z6 z7 z8 z9 z10 z11 z12 z13 z14 z15 z16 z17 z18 z19 => rfl
          refine R_nil (tr _ _ _ _ _ _ _ _ _ _ _ _ _ _ _ _ _ _ _ _ _ _ _ _ _ _ _ _ _ _ _ _ _ _ _ _ _ _ _) ?_; clear tr
          refine then_n ?_
          refine at_seq rfl ?_
          refine rg rfl ?_
          refine Rq ?_
          refine Rq ?_
          refine Rq ?_
          refine Rp_split (fun h16 => ?_) (fun h16 => ?_)
          · try simp only [decide_eq_true_eq, decide_eq_false_iff_not, Bool.not_eq_true', Bool.not_eq_false', beq_iff_eq, beq_eq_false_iff_ne, ne_eq] at h16
            refine Ry ?_
            refine Rq ?_
            refine Ry ?_
            refine Rq ?_
            refine Ry ?_
            refine Rq ?_
            refine Rq ?_
            have tr : ∀ y0 y1 y2 y3 y4 y5 y6 y7 y8 y9 y10 y11 y12 y13 y15 y31 y58 y83 y108 z0 z1 z2 z3 z4 z5 z6 : AV, trim [(108, z6), (107, z5), (106, z4), (105, z3), (104, z2), (103, z1), (102, z0), (0, y0), (1, y1), (2, y2), (3, y3), (4, y4), (5, y5), (6, y6), (7, y7), (8, y8), (9, y9), (10, y10), (11, y11), (12, y12), (13, y13), (15, y15), (31, y31), (58, y58), (83, y83), (108, y108)] [(0, y0), (1, y1), (2, y2), (3, y3), (4, y4), (5, y5), (6, y6), (7, y7), (8, y8), (9, y9), (10, y10), (11, y11), (12, y12), (13, y13), (15, y15), (31, y31), (58, y58), (83, y83), (108, y108)] = [(0, y0), (1, y1), (2, y2), (3, y3), (4, y4), (5, y5), (6, y6), (7, y7), (8, y8), (9, y9), (10, y10), (11, y11), (12, y12), (13, y13), (15, y15), (31, y31), (58, y58), (83, y83), (108, z6)] := fun y0 y1 y2 y3 y4 y5 y6 y7 y8 y9 y10 y11 y12 y13 y15 y31 y58 y83 y108 z0 z1 z2 z3 z4 z5 z6 => rfl
            refine R_nil (tr _ _ _ _ _ _ _ _ _ _ _ _ _ _ _ _ _ _ _ _ _ _ _ _ _ _) ?_; clear tr
            refine then_n ?_
            refine cdd (fun h17 => ?_) (fun h17 => ?_)
            · try simp only [decide_eq_true_eq, decide_eq_false_iff_not, Bool.not_eq_true', Bool.not_eq_false', beq_iff_eq, beq_eq_false_iff_ne, ne_eq] at h17
              refine at_seq rfl ?_
              refine rg rfl ?_
              refine Rq ?_
              have tr : ∀ y0 y1 y2 y3 y4 y5 y6 y7 y8 y9 y10 y11 y12 y13 y15 y31 y58 y83 y108 z0 : AV, trim [(4, z0), (0, y0), (1, y1), (2, y2), (3, y3), (4, y4), (5, y5), (6, y6), (7, y7), (8, y8), (9, y9), (10, y10), (11, y11), (12, y12), (13, y13), (15, y15), (31, y31), (58, y58), (83, y83), (108, y108)] [(0, y0), (1, y1), (2, y2), (3, y3), (4, y4), (5, y5), (6, y6), (7, y7), (8, y8), (9, y9), (10, y10), (11, y11), (12, y12), (13, y13), (15, y15), (31, y31), (58, y58), (83, y83), (108, y108)] = [(0, y0), (1, y1), (2, y2), (3, y3), (4, z0), (5, y5), (6, y6), (7, y7), (8, y8), (9, y9), (10, y10), (11, y11), (12, y12), (13, y13), (15, y15), (31, y31), (58, y58), (83, y83), (108, y108)] := fun y0 y1 y2 y3 y4 y5 y6 y7 y8 y9 y10 y11 y12 y13 y15 y31 y58 y83 y108 z0 => rfl
              refine R_nil (tr _ _ _ _ _ _ _ _ _ _ _ _ _ _ _ _ _ _ _ _) ?_; clear tr
              refine then_n ?_
              refine at_ret rfl ?_
              refine then_r ?_
              first | (refine fpure ?_; first | rfl | (rw [hre]; rfl) | (rw [e7]; simp; done)) | (exfalso; have hnb2 := rev_of0 (by assumption : (reviseS (a + x) b c e f).2 = 0); have e1 : (reviseS a b c e f).1 = revV a b c e f := congrArg Prod.fst (rev_ok0 hnb); have e2 : (reviseS (a + x) b c e f).1 = revV (a + x) b c e f := congrArg Prod.fst (rev_ok0 hnb2); have m := rev_total hnb hnb2 (by omega); omega) | (exfalso; have hnb2 := rev_of0 (by assumption : (reviseS a b (c + y) e f).2 = 0); have e1 : (reviseS a b c e f).1 = revV a b c e f := congrArg Prod.fst (rev_ok0 hnb); have e2 : (reviseS a b (c + y) e f).1 = revV a b (c + y) e f := congrArg Prod.fst (rev_ok0 hnb2); have m := rev_second hnb hnb2 (by omega); omega) | (exfalso; have hnb2 := rev_of0 (by assumption : (reviseS a (b + z) c e f).2 = 0); have e1 : (reviseS a b c e f).1 = revV a b c e f := congrArg Prod.fst (rev_ok0 hnb); have e2 : (reviseS a (b + z) c e f).1 = revV a (b + z) c e f := congrArg Prod.fst (rev_ok0 hnb2); have m := rev_first hnb hnb2 (by omega); omega)
            · try simp only [decide_eq_true_eq, decide_eq_false_iff_not, Bool.not_eq_true', Bool.not_eq_false', beq_iff_eq, beq_eq_false_iff_ne, ne_eq] at h17
              refine at_skip rfl ?_
              refine then_n ?_
              refine at_seq rfl ?_
              refine rg rfl ?_
              have hsm := rev_same hnb
              refine Rq ?_
              refine Rq ?_
              refine Rq ?_
              refine Rq ?_
              refine Rq ?_
              refine Rq ?_
              refine Rq ?_
              refine Rq ?_
              refine Rq ?_
              refine Rq ?_
              refine Rcall ?_
              refine ACall_eq (rev_ok _ _ a b b e f) ?_
              refine Rq ?_
              refine Rq ?_
              refine Rq ?_
              refine Rq ?_
              refine Rq ?_
              have tr : ∀ y0 y1 y2 y3 y4 y5 y6 y7 y8 y9 y10 y11 y12 y13 y15 y31 y58 y83 y108 z0 z1 z2 z3 z4 z5 z6 z7 z8 z9 z10 z11 z12 z13 z14 z15 : AV, trim [(6, z15), (13, z14), (122, z13), (121, z12), (109, z11), (120, z10), (119, z9), (118, z8), (117, z7), (116, z6), (115, z5), (114, z4), (113, z3), (112, z2), (111, z1), (110, z0), (0, y0), (1, y1), (2, y2), (3, y3), (4, y4), (5, y5), (6, y6), (7, y7), (8, y8), (9, y9), (10, y10), (11, y11), (12, y12), (13, y13), (15, y15), (31, y31), (58, y58), (83, y83), (108, y108)] [(0, y0), (1, y1), (2, y2), (3, y3), (4, y4), (5, y5), (6, y6), (7, y7), (8, y8), (9, y9), (10, y10), (11, y11), (12, y12), (13, y13), (15, y15), (31, y31), (58, y58), (83, y83), (108, y108)] = [(0, y0), (1, y1), (2, y2), (3, y3), (4, y4), (5, y5), (6, z15), (7, y7), (8, y8), (9, y9), (10, y10), (11, y11), (12, y12), (13, z14), (15, y15), (31, y31), (58, y58), (83, y83), (108, y108)] := fun y0 y1 y2 y3 y4 y5 y6 y7 y8 y9 y10 y11 y12 y13 y15 y31 y58 y83 y108 z0 z1 z2 z3 z4 z5 z6 z7 z8 z9 z10 z11 z12 z13 z14 z15 => rfl
              refine R_nil (tr _ _ _ _ _ _ _ _ _ _ _ _ _ _ _ _ _ _ _ _ _ _ _ _ _ _ _ _ _ _ _ _ _ _ _) ?_; clear tr
              refine then_n ?_
              refine at_seq rfl ?_
              refine rg rfl ?_
              have e5 := rev_ok0 hsm.1
              have e6 : (reviseS a b b e f).2 = 0 := by rw [e5]
              have e7 : (reviseS a b b e f).1 = a + 1 := by rw [e5]; exact hsm.2
              refine Rq ?_
              refine Rq ?_
              refine Rq ?_
              refine Rp_split (fun h18 => ?_) (fun h18 => ?_)
              · try simp only [decide_eq_true_eq, decide_eq_false_iff_not, Bool.not_eq_true', Bool.not_eq_false', beq_iff_eq, beq_eq_false_iff_ne, ne_eq] at h18
                refine Ry ?_
                refine Rq ?_
                refine Ry ?_
                refine Rq ?_
                refine Ry ?_
                refine Rq ?_
                refine Ry ?_
                refine Rq ?_
                refine Ry ?_
                refine Rq ?_
                refine Rq ?_
                refine Rq ?_
                have tr : ∀ y0 y1 y2 y3 y4 y5 y6 y7 y8 y9 y10 y11 y12 y13 y15 y31 y58 y83 y108 z0 z1 z2 z3 z4 z5 z6 z7 z8 z9 : AV, trim [(4, z9), (131, z8), (130, z7), (129, z6), (128, z5), (127, z4), (126, z3), (125, z2), (124, z1), (123, z0), (0, y0), (1, y1), (2, y2), (3, y3), (4, y4), (5, y5), (6, y6), (7, y7), (8, y8), (9, y9), (10, y10), (11, y11), (12, y12), (13, y13), (15, y15), (31, y31), (58, y58), (83, y83), (108, y108)] [(0, y0), (1, y1), (2, y2), (3, y3), (4, y4), (5, y5), (6, y6), (7, y7), (8, y8), (9, y9), (10, y10), (11, y11), (12, y12), (13, y13), (15, y15), (31, y31), (58, y58), (83, y83), (108, y108)] = [(0, y0), (1, y1), (2, y2), (3, y3), (4, z9), (5, y5), (6, y6), (7, y7), (8, y8), (9, y9), (10, y10), (11, y11), (12, y12), (13, y13), (15, y15), (31, y31), (58, y58), (83, y83), (108, y108)] := fun y0 y1 y2 y3 y4 y5 y6 y7 y8 y9 y10 y11 y12 y13 y15 y31 y58 y83 y108 z0 z1 z2 z3 z4 z5 z6 z7 z8 z9 => rfl
                refine R_nil (tr _ _ _ _ _ _ _ _ _ _ _ _ _ _ _ _ _ _ _ _ _ _ _ _ _ _ _ _ _) ?_; clear tr
                refine then_n ?_
                refine at_ret rfl ?_
                first | (refine fpure ?_; first | rfl | (rw [hre]; rfl) | (rw [e7]; simp; done)) | (exfalso; have hnb2 := rev_of0 (by assumption : (reviseS (a + x) b c e f).2 = 0); have e1 : (reviseS a b c e f).1 = revV a b c e f := congrArg Prod.fst (rev_ok0 hnb); have e2 : (reviseS (a + x) b c e f).1 = revV (a + x) b c e f := congrArg Prod.fst (rev_ok0 hnb2); have m := rev_total hnb hnb2 (by omega); omega) | (exfalso; have hnb2 := rev_of0 (by assumption : (reviseS a b (c + y) e f).2 = 0); have e1 : (reviseS a b c e f).1 = revV a b c e f := congrArg Prod.fst (rev_ok0 hnb); have e2 : (reviseS a b (c + y) e f).1 = revV a b (c + y) e f := congrArg Prod.fst (rev_ok0 hnb2); have m := rev_second hnb hnb2 (by omega); omega) | (exfalso; have hnb2 := rev_of0 (by assumption : (reviseS a (b + z) c e f).2 = 0); have e1 : (reviseS a b c e f).1 = revV a b c e f := congrArg Prod.fst (rev_ok0 hnb); have e2 : (reviseS a (b + z) c e f).1 = revV a (b + z) c e f := congrArg Prod.fst (rev_ok0 hnb2); have m := rev_first hnb hnb2 (by omega); omega)
              · try simp only [decide_eq_true_eq, decide_eq_false_iff_not, Bool.not_eq_true', Bool.not_eq_false', beq_iff_eq, beq_eq_false_iff_ne, ne_eq] at h18
                exfalso; omega
          · try simp only [decide_eq_true_eq, decide_eq_false_iff_not, Bool.not_eq_true', Bool.not_eq_false', beq_iff_eq, beq_eq_false_iff_ne, ne_eq] at h16
            refine Rn ?_
            refine Rn ?_
            refine Rn ?_
            refine Rq ?_
            have tr : ∀ y0 y1 y2 y3 y4 y5 y6 y7 y8 y9 y10 y11 y12 y13 y15 y31 y58 y83 y108 z0 z1 z2 z3 z4 z5 z6 : AV, trim [(108, z6), (107, z5), (106, z4), (105, z3), (104, z2), (103, z1), (102, z0), (0, y0), (1, y1), (2, y2), (3, y3), (4, y4), (5, y5), (6, y6), (7, y7), (8, y8), (9, y9), (10, y10), (11, y11), (12, y12), (13, y13), (15, y15), (31, y31), (58, y58), (83, y83), (108, y108)] [(0, y0), (1, y1), (2, y2), (3, y3), (4, y4), (5, y5), (6, y6), (7, y7), (8, y8), (9, y9), (10, y10), (11, y11), (12, y12), (13, y13), (15, y15), (31, y31), (58, y58), (83, y83), (108, y108)] = [(0, y0), (1, y1), (2, y2), (3, y3), (4, y4), (5, y5), (6, y6), (7, y7), (8, y8), (9, y9), (10, y10), (11, y11), (12, y12), (13, y13), (15, y15), (31, y31), (58, y58), (83, y83), (108, z6)] := fun y0 y1 y2 y3 y4 y5 y6 y7 y8 y9 y10 y11 y12 y13 y15 y31 y58 y83 y108 z0 z1 z2 z3 z4 z5 z6 => rfl
            refine R_nil (tr _ _ _ _ _ _ _ _ _ _ _ _ _ _ _ _ _ _ _ _ _ _ _ _ _ _) ?_; clear tr
            refine then_n ?_
            refine cdf ?_
            refine at_skip rfl ?_
            refine then_n ?_
            refine at_seq rfl ?_
            refine rg rfl ?_
            have hsm := rev_same hnb
            refine Rq ?_
            refine Rq ?_
            refine Rq ?_
            refine Rq ?_
            refine Rq ?_
            refine Rq ?_
            refine Rq ?_
            refine Rq ?_
            refine Rq ?_
            refine Rq ?_
            refine Rcall ?_
            refine ACall_eq (rev_ok _ _ a b b e f) ?_
            refine Rq ?_
            refine Rq ?_
            refine Rq ?_
            refine Rq ?_
            refine Rq ?_
            have tr : ∀ y0 y1 y2 y3 y4 y5 y6 y7 y8 y9 y10 y11 y12 y13 y15 y31 y58 y83 y108 z0 z1 z2 z3 z4 z5 z6 z7 z8 z9 z10 z11 z12 z13 z14 z15 : AV, trim [(6, z15), (13, z14), (122, z13), (121, z12), (109, z11), (120, z10), (119, z9), (118, z8), (117, z7), (116, z6), (115, z5), (114, z4), (113, z3), (112, z2), (111, z1), (110, z0), (0, y0), (1, y1), (2, y2), (3, y3), (4, y4), (5, y5), (6, y6), (7, y7), (8, y8), (9, y9), (10, y10), (11, y11), (12, y12), (13, y13), (15, y15), (31, y31), (58, y58), (83, y83), (108, y108)] [(0, y0), (1, y1), (2, y2), (3, y3), (4, y4), (5, y5), (6, y6), (7, y7), (8, y8), (9, y9), (10, y10), (11, y11), (12, y12), (13, y13), (15, y15), (31, y31), (58, y58), (83, y83), (108, y108)] = [(0, y0), (1, y1), (2, y2), (3, y3), (4, y4), (5, y5), (6, z15), (7, y7), (8, y8), (9, y9), (10, y10), (11, y11), (12, y12), (13, z14), (15, y15), (31, y31), (58, y58), (83, y83), (108, y108)] := fun y0 y1 y2 y3 y4 y5 y6 y7 y8 y9 y10 y11 y12 y13 y15 y31 y58 y83 y108 z0 z1 z2 z3 z4 z5 z6 z7 z8 z9 z10 z11 z12 z13 z14 z15 => rfl
            refine R_nil (tr _ _ _ _ _ _ _ _ _ _ _ _ _ _ _ _ _ _ _ _ _ _ _ _ _ _ _ _ _ _ _ _ _ _ _) ?_; clear tr
            refine then_n ?_
            refine at_seq rfl ?_
            refine rg rfl ?_
            have e5 := rev_ok0 hsm.1
            have e6 : (reviseS a b b e f).2 = 0 := by rw [e5]
            have e7 : (reviseS a b b e f).1 = a + 1 := by rw [e5]; exact hsm.2
            refine Rq ?_
            refine Rq ?_
            refine Rq ?_
            refine Rp_split (fun h19 => ?_) (fun h19 => ?_)
            · try simp only [decide_eq_true_eq, decide_eq_false_iff_not, Bool.not_eq_true', Bool.not_eq_false', beq_iff_eq, beq_eq_false_iff_ne, ne_eq] at h19
              refine Ry ?_
              refine Rq ?_
              refine Ry ?_
              refine Rq ?_
              refine Ry ?_
              refine Rq ?_
              refine Ry ?_
              refine Rq ?_
              refine Ry ?_
              refine Rq ?_
              refine Rq ?_
              refine Rq ?_
              have tr : ∀ y0 y1 y2 y3 y4 y5 y6 y7 y8 y9 y10 y11 y12 y13 y15 y31 y58 y83 y108 z0 z1 z2 z3 z4 z5 z6 z7 z8 z9 : AV, trim [(4, z9), (131, z8), (130, z7), (129, z6), (128, z5), (127, z4), (126, z3), (125, z2), (124, z1), (123, z0), (0, y0), (1, y1), (2, y2), (3, y3), (4, y4), (5, y5), (6, y6), (7, y7), (8, y8), (9, y9), (10, y10), (11, y11), (12, y12), (13, y13), (15, y15), (31, y31), (58, y58), (83, y83), (108, y108)] [(0, y0), (1, y1), (2, y2), (3, y3), (4, y4), (5, y5), (6, y6), (7, y7), (8, y8), (9, y9), (10, y10), (11, y11), (12, y12), (13, y13), (15, y15), (31, y31), (58, y58), (83, y83), (108, y108)] = [(0, y0), (1, y1), (2, y2), (3, y3), (4, z9), (5, y5), (6, y6), (7, y7), (8, y8), (9, y9), (10, y10), (11, y11), (12, y12), (13, y13), (15, y15), (31, y31), (58, y58), (83, y83), (108, y108)] := fun y0 y1 y2 y3 y4 y5 y6 y7 y8 y9 y10 y11 y12 y13 y15 y31 y58 y83 y108 z0 z1 z2 z3 z4 z5 z6 z7 z8 z9 => rfl
              refine R_nil (tr _ _ _ _ _ _ _ _ _ _ _ _ _ _ _ _ _ _ _ _ _ _ _ _ _ _ _ _ _) ?_; clear tr
              refine then_n ?_
              refine at_ret rfl ?_
              first | (refine fpure ?_; first | rfl | (rw [hre]; rfl) | (rw [e7]; simp; done)) | (exfalso; have hnb2 := rev_of0 (by assumption : (reviseS (a + x) b c e f).2 = 0); have e1 : (reviseS a b c e f).1 = revV a b c e f := congrArg Prod.fst (rev_ok0 hnb); have e2 : (reviseS (a + x) b c e f).1 = revV (a + x) b c e f := congrArg Prod.fst (rev_ok0 hnb2); have m := rev_total hnb hnb2 (by omega); omega) | (exfalso; have hnb2 := rev_of0 (by assumption : (reviseS a b (c + y) e f).2 = 0); have e1 : (reviseS a b c e f).1 = revV a b c e f := congrArg Prod.fst (rev_ok0 hnb); have e2 : (reviseS a b (c + y) e f).1 = revV a b (c + y) e f := congrArg Prod.fst (rev_ok0 hnb2); have m := rev_second hnb hnb2 (by omega); omega) | (exfalso; have hnb2 := rev_of0 (by assumption : (reviseS a (b + z) c e f).2 = 0); have e1 : (reviseS a b c e f).1 = revV a b c e f := congrArg Prod.fst (rev_ok0 hnb); have e2 : (reviseS a (b + z) c e f).1 = revV a (b + z) c e f := congrArg Prod.fst (rev_ok0 hnb2); have m := rev_first hnb hnb2 (by omega); omega)
            · try simp only [decide_eq_true_eq, decide_eq_false_iff_not, Bool.not_eq_true', Bool.not_eq_false', beq_iff_eq, beq_eq_false_iff_ne, ne_eq] at h19
              exfalso; omega
      · try simp only [decide_eq_true_eq, decide_eq_false_iff_not, Bool.not_eq_true', Bool.not_eq_false', beq_iff_eq, beq_eq_false_iff_ne, ne_eq] at h14
        refine Rn ?_
        refine Rn ?_
        refine Rn ?_
        refine Rq ?_
        have tr : ∀ y0 y1 y2 y3 y4 y5 y6 y7 y8 y9 y10 y11 y12 y13 y15 y31 y58 y83 y108 z0 z1 z2 z3 z4 z5 z6 : AV, trim [(83, z6), (82, z5), (81, z4), (80, z3), (79, z2), (78, z1), (77, z0), (0, y0), (1, y1), (2, y2), (3, y3), (4, y4), (5, y5), (6, y6), (7, y7), (8, y8), (9, y9), (10, y10), (11, y11), (12, y12), (13, y13), (15, y15), (31, y31), (58, y58), (83, y83), (108, y108)] [(0, y0), (1, y1), (2, y2), (3, y3), (4, y4), (5, y5), (6, y6), (7, y7), (8, y8), (9, y9), (10, y10), (11, y11), (12, y12), (13, y13), (15, y15), (31, y31), (58, y58), (83, y83), (108, y108)] = [(0, y0), (1, y1), (2, y2), (3, y3), (4, y4), (5, y5), (6, y6), (7, y7), (8, y8), (9, y9), (10, y10), (11, y11), (12, y12), (13, y13), (15, y15), (31, y31), (58, y58), (83, z6), (108, y108)] := fun y0 y1 y2 y3 y4 y5 y6 y7 y8 y9 y10 y11 y12 y13 y15 y31 y58 y83 y108 z0 z1 z2 z3 z4 z5 z6 => rfl
        refine R_nil (tr _ _ _ _ _ _ _ _ _ _ _ _ _ _ _ _ _ _ _ _ _ _ _ _ _ _) ?_; clear tr
        refine then_n ?_
        refine cdf ?_
        refine at_skip rfl ?_
        refine then_n ?_
        refine at_seq rfl ?_
        refine at_seq rfl ?_
        refine rg rfl ?_
        refine Rq ?_
        refine Rq ?_
        refine Rq ?_
        refine Rq ?_
        refine Rq ?_
        refine Rq ?_
        refine Rq ?_
        refine Rq ?_
        refine Rq ?_
        refine Rq ?_
        refine Rq ?_
        refine Rq ?_
        refine Rq ?_
        refine Rq ?_
        refine Rcall ?_
        refine ACall_eq (rev_ok _ _ a (b + z) c e f) ?_
        refine Rq ?_
        refine Rq ?_
        refine Rq ?_
        refine Rq ?_
        refine Rq ?_
        have tr : ∀ y0 y1 y2 y3 y4 y5 y6 y7 y8 y9 y10 y11 y12 y13 y15 y31 y58 y83 y108 z0 z1 z2 z3 z4 z5 z6 z7 z8 z9 z10 z11 z12 z13 z14 z15 z16 z17 z18 z19 : AV, trim [(12, z19), (11, z18), (101, z17), (100, z16), (84, z15), (99, z14), (98, z13), (97, z12), (96, z11), (95, z10), (94, z9), (93, z8), (92, z7), (91, z6), (90, z5), (89, z4), (88, z3), (87, z2), (86, z1), (85, z0), (0, y0), (1, y1), (2, y2), (3, y3), (4, y4), (5, y5), (6, y6), (7, y7), (8, y8), (9, y9), (10, y10), (11, y11), (12, y12), (13, y13), (15, y15), (31, y31), (58, y58), (83, y83), (108, y108)] [(0, y0), (1, y1), (2, y2), (3, y3), (4, y4), (5, y5), (6, y6), (7, y7), (8, y8), (9, y9), (10, y10), (11, y11), (12, y12), (13, y13), (15, y15), (31, y31), (58, y58), (83, y83), (108, y108)] = [(0, y0), (1, y1), (2, y2), (3, y3), (4, y4), (5, y5), (6, y6), (7, y7), (8, y8), (9, y9), (10, y10), (11, z18), (12, z19), (13, y13), (15, y15), (31, y31), (58, y58), (83, y83), (108, y108)] := fun y0 y1 y2 y3 y4 y5 y6 y7 y8 y9 y10 y11 y12 y13 y15 y31 y58 y83 y108 z0 z1 z2 z3 z4 z5 z6 z7 z8 z9 z10 z11 z12 z13 z14 z15 z16 z17 z18 z19 => rfl
        refine R_nil (tr _ _ _ _ _ _ _ _ _ _ _ _ _ _ _ _ _ _ _ _ _ _ _ _ _ _ _ _ _ _ _ _ _ _ _ _ _ _ _) ?_; clear tr
        refine then_n ?_
        refine at_seq rfl ?_
        refine rg rfl ?_
        refine Rq ?_
        refine Rq ?_
        refine Rq ?_
        refine Rp_split (fun h20 => ?_) (fun h20 => ?_)
        · try simp only [decide_eq_true_eq, decide_eq_false_iff_not, Bool.not_eq_true', Bool.not_eq_false', beq_iff_eq, beq_eq_false_iff_ne, ne_eq] at h20
          refine Ry ?_
          refine Rq ?_
          refine Ry ?_
          refine Rq ?_
          refine Ry ?_
          refine Rq ?_
          refine Rq ?_
          have tr : ∀ y0 y1 y2 y3 y4 y5 y6 y7 y8 y9 y10 y11 y12 y13 y15 y31 y58 y83 y108 z0 z1 z2 z3 z4 z5 z6 : AV, trim [(108, z6), (107, z5), (106, z4), (105, z3), (104, z2), (103, z1), (102, z0), (0, y0), (1, y1), (2, y2), (3, y3), (4, y4), (5, y5), (6, y6), (7, y7), (8, y8), (9, y9), (10, y10), (11, y11), (12, y12), (13, y13), (15, y15), (31, y31), (58, y58), (83, y83), (108, y108)] [(0, y0), (1, y1), (2, y2), (3, y3), (4, y4), (5, y5), (6, y6), (7, y7), (8, y8), (9, y9), (10, y10), (11, y11), (12, y12), (13, y13), (15, y15), (31, y31), (58, y58), (83, y83), (108, y108)] = [(0, y0), (1, y1), (2, y2), (3, y3), (4, y4), (5, y5), (6, y6), (7, y7), (8, y8), (9, y9), (10, y10), (11, y11), (12, y12), (13, y13), (15, y15), (31, y31), (58, y58), (83, y83), (108, z6)] := fun y0 y1 y2 y3 y4 y5 y6 y7 y8 y9 y10 y11 y12 y13 y15 y31 y58 y83 y108 z0 z1 z2 z3 z4 z5 z6 => rfl
          refine R_nil (tr _ _ _ _ _ _ _ _ _ _ _ _ _ _ _ _ _ _ _ _ _ _ _ _ _ _) ?_; clear tr
          refine then_n ?_
          refine cdd (fun h21 => ?_) (fun h21 => ?_)
          · try simp only [decide_eq_true_eq, decide_eq_false_iff_not, Bool.not_eq_true', Bool.not_eq_false', beq_iff_eq, beq_eq_false_iff_ne, ne_eq] at h21
            refine at_seq rfl ?_
            refine rg rfl ?_
            refine Rq ?_
            have tr : ∀ y0 y1 y2 y3 y4 y5 y6 y7 y8 y9 y10 y11 y12 y13 y15 y31 y58 y83 y108 z0 : AV, trim [(4, z0), (0, y0), (1, y1), (2, y2), (3, y3), (4, y4), (5, y5), (6, y6), (7, y7), (8, y8), (9, y9), (10, y10), (11, y11), (12, y12), (13, y13), (15, y15), (31, y31), (58, y58), (83, y83), (108, y108)] [(0, y0), (1, y1), (2, y2), (3, y3), (4, y4), (5, y5), (6, y6), (7, y7), (8, y8), (9, y9), (10, y10), (11, y11), (12, y12), (13, y13), (15, y15), (31, y31), (58, y58), (83, y83), (108, y108)] = [(0, y0), (1, y1), (2, y2), (3, y3), (4, z0), (5, y5), (6, y6), (7, y7), (8, y8), (9, y9), (10, y10), (11, y11), (12, y12), (13, y13), (15, y15), (31, y31), (58, y58), (83, y83), (108, y108)] := fun y0 y1 y2 y3 y4 y5 y6 y7 y8 y9 y10 y11 y12 y13 y15 y31 y58 y83 y108 z0 => rfl
            refine R_nil (tr _ _ _ _ _ _ _ _ _ _ _ _ _ _ _ _ _ _ _ _) ?_; clear tr
            refine then_n ?_
            refine at_ret rfl ?_
            refine then_r ?_
            first | (refine fpure ?_; first | rfl | (rw [hre]; rfl) | (rw [e7]; simp; done)) | (exfalso; have hnb2 := rev_of0 (by assumption : (reviseS (a + x) b c e f).2 = 0); have e1 : (reviseS a b c e f).1 = revV a b c e f := congrArg Prod.fst (rev_ok0 hnb); have e2 : (reviseS (a + x) b c e f).1 = revV (a + x) b c e f := congrArg Prod.fst (rev_ok0 hnb2); have m := rev_total hnb hnb2 (by omega); omega) | (exfalso; have hnb2 := rev_of0 (by assumption : (reviseS a b (c + y) e f).2 = 0); have e1 : (reviseS a b c e f).1 = revV a b c e f := congrArg Prod.fst (rev_ok0 hnb); have e2 : (reviseS a b (c + y) e f).1 = revV a b (c + y) e f := congrArg Prod.fst (rev_ok0 hnb2); have m := rev_second hnb hnb2 (by omega); omega) | (exfalso; have hnb2 := rev_of0 (by assumption : (reviseS a (b + z) c e f).2 = 0); have e1 : (reviseS a b c e f).1 = revV a b c e f := congrArg Prod.fst (rev_ok0 hnb); have e2 : (reviseS a (b + z) c e f).1 = revV a (b + z) c e f := congrArg Prod.fst (rev_ok0 hnb2); have m := rev_first hnb hnb2 (by omega); omega)
          · try simp only [decide_eq_true_eq, decide_eq_false_iff_not, Bool.not_eq_true', Bool.not_eq_false', beq_iff_eq, beq_eq_false_iff_ne, ne_eq] at h21
            refine at_skip rfl ?_
            refine then_n ?_
            refine at_seq rfl ?_
            refine rg rfl ?_
            have hsm := rev_same hnb
            refine Rq ?_
            refine Rq ?_
            refine Rq ?_
            refine Rq ?_
            refine Rq ?_
            refine Rq ?_
            refine Rq ?_
            refine Rq ?_
            refine Rq ?_
            refine Rq ?_
            refine Rcall ?_
            refine ACall_eq (rev_ok _ _ a b b e f) ?_
            refine Rq ?_
            refine Rq ?_
            refine Rq ?_
            refine Rq ?_
            refine Rq ?_
            have tr : ∀ y0 y1 y2 y3 y4 y5 y6 y7 y8 y9 y10 y11 y12 y13 y15 y31 y58 y83 y108 z0 z1 z2 z3 z4 z5 z6 z7 z8 z9 z10 z11 z12 z13 z14 z15 : AV, trim [(6, z15), (13, z14), (122, z13), (121, z12), (109, z11), (120, z10), (119, z9), (118, z8), (117, z7), (116, z6), (115, z5), (114, z4), (113, z3), (112, z2), (111, z1), (110, z0), (0, y0), (1, y1), (2, y2), (3, y3), (4, y4), (5, y5), (6, y6), (7, y7), (8, y8), (9, y9), (10, y10), (11, y11), (12, y12), (13, y13), (15, y15), (31, y31), (58, y58), (83, y83), (108, y108)] [(0, y0), (1, y1), (2, y2), (3, y3), (4, y4), (5, y5), (6, y6), (7, y7), (8, y8), (9, y9), (10, y10), (11, y11), (12, y12), (13, y13), (15, y15), (31, y31), (58, y58), (83, y83), (108, y108)] = [(0, y0), (1, y1), (2, y2), (3, y3), (4, y4), (5, y5), (6, z15), (7, y7), (8, y8), (9, y9), (10, y10), (11, y11), (12, y12), (13, z14), (15, y15), (31, y31), (58, y58), (83, y83), (108, y108)] := fun y0 y1 y2 y3 y4 y5 y6 y7 y8 y9 y10 y11 y12 y13 y15 y31 y58 y83 y108 z0 z1 z2 z3 z4 z5 z6 z7 z8 z9 z10 z11 z12 z13 z14 z15 => rfl
            refine R_nil (tr _ _ _ _ _ _ _ _ _ _ _ _ _ _ _ _ _ _ _ _ _ _ _ _ _ _ _ _ _ _ _ _ _ _ _) ?_; clear tr
            refine then_n ?_
            refine at_seq rfl ?_
            refine rg rfl ?_
            have e5 := rev_ok0 hsm.1
            have e6 : (reviseS a b b e f).2 = 0 := by rw [e5]
            have e7 : (reviseS a b b e f).1 = a + 1 := by rw [e5]; exact hsm.2
            refine Rq ?_
            refine Rq ?_
            refine Rq ?_
            refine Rp_split (fun h22 => ?_) (fun h22 => ?_)
            · try simp only [decide_eq_true_eq, decide_eq_false_iff_not, Bool.not_eq_true', Bool.not_eq_false', beq_iff_eq, beq_eq_false_iff_ne, ne_eq] at h22
              refine Ry ?_
              refine Rq ?_
              refine Ry ?_
              refine Rq ?_
              refine Ry ?_
              refine Rq ?_
              refine Ry ?_
              refine Rq ?_
              refine Ry ?_
              refine Rq ?_
              refine Rq ?_
              refine Rq ?_
              have tr : ∀ y0 y1 y2 y3 y4 y5 y6 y7 y8 y9 y10 y11 y12 y13 y15 y31 y58 y83 y108 z0 z1 z2 z3 z4 z5 z6 z7 z8 z9 : AV, trim [(4, z9), (131, z8), (130, z7), (129, z6), (128, z5), (127, z4), (126, z3), (125, z2), (124, z1), (123, z0), (0, y0), (1, y1), (2, y2), (3, y3), (4, y4), (5, y5), (6, y6), (7, y7), (8, y8), (9, y9), (10, y10), (11, y11), (12, y12), (13, y13), (15, y15), (31, y31), (58, y58), (83, y83), (108, y108)] [(0, y0), (1, y1), (2, y2), (3, y3), (4, y4), (5, y5), (6, y6), (7, y7), (8, y8), (9, y9), (10, y10), (11, y11), (12, y12), (13, y13), (15, y15), (31, y31), (58, y58), (83, y83), (108, y108)] = [(0, y0), (1, y1), (2, y2), (3, y3), (4, z9), (5, y5), (6, y6), (7, y7), (8, y8), (9, y9), (10, y10), (11, y11), (12, y12), (13, y13), (15, y15), (31, y31), (58, y58), (83, y83), (108, y108)] := fun y0 y1 y2 y3 y4 y5 y6 y7 y8 y9 y10 y11 y12 y13 y15 y31 y58 y83 y108 z0 z1 z2 z3 z4 z5 z6 z7 z8 z9 => rfl
              refine R_nil (tr _ _ _ _ _ _ _ _ _ _ _ _ _ _ _ _ _ _ _ _ _ _ _ _ _ _ _ _ _) ?_; clear tr
              refine then_n ?_
              refine at_ret rfl ?_
              first | (refine fpure ?_; first | rfl | (rw [hre]; rfl) | (rw [e7]; simp; done)) | (exfalso; have hnb2 := rev_of0 (by assumption : (reviseS (a + x) b c e f).2 = 0); have e1 : (reviseS a b c e f).1 = revV a b c e f := congrArg Prod.fst (rev_ok0 hnb); have e2 : (reviseS (a + x) b c e f).1 = revV (a + x) b c e f := congrArg Prod.fst (rev_ok0 hnb2); have m := rev_total hnb hnb2 (by omega); omega) | (exfalso; have hnb2 := rev_of0 (by assumption : (reviseS a b (c + y) e f).2 = 0); have e1 : (reviseS a b c e f).1 = revV a b c e f := congrArg Prod.fst (rev_ok0 hnb); have e2 : (reviseS a b (c + y) e f).1 = revV a b (c + y) e f := congrArg Prod.fst (rev_ok0 hnb2); have m := rev_second hnb hnb2 (by omega); omega) | (exfalso; have hnb2 := rev_of0 (by assumption : (reviseS a (b + z) c e f).2 = 0); have e1 : (reviseS a b c e f).1 = revV a b c e f := congrArg Prod.fst (rev_ok0 hnb); have e2 : (reviseS a (b + z) c e f).1 = revV a (b + z) c e f := congrArg Prod.fst (rev_ok0 hnb2); have m := rev_first hnb hnb2 (by omega); omega)
            · try simp only [decide_eq_true_eq, decide_eq_false_iff_not, Bool.not_eq_true', Bool.not_eq_false', beq_iff_eq, beq_eq_false_iff_ne, ne_eq] at h22
              exfalso; omega
        · try simp only [decide_eq_true_eq, decide_eq_false_iff_not, Bool.not_eq_true', Bool.not_eq_false', beq_iff_eq, beq_eq_false_iff_ne, ne_eq] at h20
          refine Rn ?_
          refine Rn ?_
          refine Rn ?_
          refine Rq ?_
          have tr : ∀ y0 y1 y2 y3 y4 y5 y6 y7 y8 y9 y10 y11 y12 y13 y15 y31 y58 y83 y108 z0 z1 z2 z3 z4 z5 z6 : AV, trim [(108, z6), (107, z5), (106, z4), (105, z3), (104, z2), (103, z1), (102, z0), (0, y0), (1, y1), (2, y2), (3, y3), (4, y4), (5, y5), (6, y6), (7, y7), (8, y8), (9, y9), (10, y10), (11, y11), (12, y12), (13, y13), (15, y15), (31, y31), (58, y58), (83, y83), (108, y108)] [(0, y0), (1, y1), (2, y2), (3, y3), (4, y4), (5, y5), (6, y6), (7, y7), (8, y8), (9, y9), (10, y10), (11, y11), (12, y12), (13, y13), (15, y15), (31, y31), (58, y58), (83, y83), (108, y108)] = [(0, y0), (1, y1), (2, y2), (3, y3), (4, y4), (5, y5), (6, y6), (7, y7), (8, y8), (9, y9), (10, y10), (11, y11), (12, y12), (13, y13), (15, y15), (31, y31), (58, y58), (83, y83), (108, z6)] := fun y0 y1 y2 y3 y4 y5 y6 y7 y8 y9 y10 y11 y12 y13 y15 y31 y58 y83 y108 z0 z1 z2 z3 z4 z5 z6 => rfl
          refine R_nil (tr _ _ _ _ _ _ _ _ _ _ _ _ _ _ _ _ _ _ _ _ _ _ _ _ _ _) ?_; clear tr
          refine then_n ?_
          refine cdf ?_
          refine at_skip rfl ?_
          refine then_n ?_
          refine at_seq rfl ?_
          refine rg rfl ?_
          have hsm := rev_same hnb
          refine Rq ?_
          refine Rq ?_
          refine Rq ?_
          refine Rq ?_
          refine Rq ?_
          refine Rq ?_
          refine Rq ?_
          refine Rq ?_
          refine Rq ?_
          refine Rq ?_
          refine Rcall ?_
          refine ACall_eq (rev_ok _ _ a b b e f) ?_
          refine Rq ?_
          refine Rq ?_
          refine Rq ?_
          refine Rq ?_
          refine Rq ?_
          have tr : ∀ y0 y1 y2 y3 y4 y5 y6 y7 y8 y9 y10 y11 y12 y13 y15 y31 y58 y83 y108 z0 z1 z2 z3 z4 z5 z6 z7 z8 z9 z10 z11 z12 z13 z14 z15 : AV, trim [(6, z15), (13, z14), (122, z13), (121, z12), (109, z11), (120, z10), (119, z9), (118, z8), (117, z7), (116, z6), (115, z5), (114, z4), (113, z3), (112, z2), (111, z1), (110, z0), (0, y0), (1, y1), (2, y2), (3, y3), (4, y4), (5, y5), (6, y6), (7, y7), (8, y8), (9, y9), (10, y10), (11, y11), (12, y12), (13, y13), (15, y15), (31, y31), (58, y58), (83, y83), (108, y108)] [(0, y0), (1, y1), (2, y2), (3, y3), (4, y4), (5, y5), (6, y6), (7, y7), (8, y8), (9, y9), (10, y10), (11, y11), (12, y12), (13, y13), (15, y15), (31, y31), (58, y58), (83, y83), (108, y108)] = [(0, y0), (1, y1), (2, y2), (3, y3), (4, y4), (5, y5), (6, z15), (7, y7), (8, y8), (9, y9), (10, y10), (11, y11), (12, y12), (13, z14), (15, y15), (31, y31), (58, y58), (83, y83), (108, y108)] := fun y0 y1 y2 y3 y4 y5 y6 y7 y8 y9 y10 y11 y12 y13 y15 y31 y58 y83 y108 z0 z1 z2 z3 z4 z5 z6 z7 z8 z9 z10 z11 z12 z13 z14 z15 => rfl
          refine R_nil (tr _ _ _ _ _ _ _ _ _ _ _ _ _ _ _ _ _ _ _ _ _ _ _ _ _ _ _ _ _ _ _ _ _ _ _) ?_; clear tr
          refine then_n ?_
          refine at_seq rfl ?_
          refine rg rfl ?_
          have e5 := rev_ok0 hsm.1
          have e6 : (reviseS a b b e f).2 = 0 := by rw [e5]
          have e7 : (reviseS a b b e f).1 = a + 1 := by rw [e5]; exact hsm.2
          refine Rq ?_
          refine Rq ?_
          refine Rq ?_
          refine Rp_split (fun h23 => ?_) (fun h23 => ?_)
          · try simp only [decide_eq_true_eq, decide_eq_false_iff_not, Bool.not_eq_true', Bool.not_eq_false', beq_iff_eq, beq_eq_false_iff_ne, ne_eq] at h23
            refine Ry ?_
            refine Rq ?_
            refine Ry ?_
            refine Rq ?_
            refine Ry ?_
            refine Rq ?_
            refine Ry ?_
            refine Rq ?_
            refine Ry ?_
            refine Rq ?_
            refine Rq ?_
            refine Rq ?_
            have tr : ∀ y0 y1 y2 y3 y4 y5 y6 y7 y8 y9 y10 y11 y12 y13 y15 y31 y58 y83 y108 z0 z1 z2 z3 z4 z5 z6 z7 z8 z9 : AV, trim [(4, z9), (131, z8), (130, z7), (129, z6), (128, z5), (127, z4), (126, z3), (125, z2), (124, z1), (123, z0), (0, y0), (1, y1), (2, y2), (3, y3), (4, y4), (5, y5), (6, y6), (7, y7), (8, y8), (9, y9), (10, y10), (11, y11), (12, y12), (13, y13), (15, y15), (31, y31), (58, y58), (83, y83), (108, y108)] [(0, y0), (1, y1), (2, y2), (3, y3), (4, y4), (5, y5), (6, y6), (7, y7), (8, y8), (9, y9), (10, y10), (11, y11), (12, y12), (13, y13), (15, y15), (31, y31), (58, y58), (83, y83), (108, y108)] = [(0, y0), (1, y1), (2, y2), (3, y3), (4, z9), (5, y5), (6, y6), (7, y7), (8, y8), (9, y9), (10, y10), (11, y11), (12, y12), (13, y13), (15, y15), (31, y31), (58, y58), (83, y83), (108, y108)] := fun y0 y1 y2 y3 y4 y5 y6 y7 y8 y9 y10 y11 y12 y13 y15 y31 y58 y83 y108 z0 z1 z2 z3 z4 z5 z6 z7 z8 z9 => rfl
            refine R_nil (tr _ _ _ _ _ _ _ _ _ _ _ _ _ _ _ _ _ _ _ _ _ _ _ _ _ _ _ _ _) ?_; clear tr
            refine then_n ?_
            refine at_ret rfl ?_
            first | (refine fpure ?_; first | rfl | (rw [hre]; rfl) | (rw [e7]; simp; done)) | (exfalso; have hnb2 := rev_of0 (by assumption : (reviseS (a + x) b c e f).2 = 0); have e1 : (reviseS a b c e f).1 = revV a b c e f := congrArg Prod.fst (rev_ok0 hnb); have e2 : (reviseS (a + x) b c e f).1 = revV (a + x) b c e f := congrArg Prod.fst (rev_ok0 hnb2); have m := rev_total hnb hnb2 (by omega); omega) | (exfalso; have hnb2 := rev_of0 (by assumption : (reviseS a b (c + y) e f).2 = 0); have e1 : (reviseS a b c e f).1 = revV a b c e f := congrArg Prod.fst (rev_ok0 hnb); have e2 : (reviseS a b (c + y) e f).1 = revV a b (c + y) e f := congrArg Prod.fst (rev_ok0 hnb2); have m := rev_second hnb hnb2 (by omega); omega) | (exfalso; have hnb2 := rev_of0 (by assumption : (reviseS a (b + z) c e f).2 = 0); have e1 : (reviseS a b c e f).1 = revV a b c e f := congrArg Prod.fst (rev_ok0 hnb); have e2 : (reviseS a (b + z) c e f).1 = revV a (b + z) c e f := congrArg Prod.fst (rev_ok0 hnb2); have m := rev_first hnb hnb2 (by omega); omega)
          · try simp only [decide_eq_true_eq, decide_eq_false_iff_not, Bool.not_eq_true', Bool.not_eq_false', beq_iff_eq, beq_eq_false_iff_ne, ne_eq] at h23
            exfalso; omega

end Go.Proofs.Ytaoondlakhocnaa
