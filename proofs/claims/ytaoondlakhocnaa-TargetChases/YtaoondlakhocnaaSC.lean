/-
  Walks of chapters 37, 39 and 40. The steps are written by program (walk.py).
-/
import Derived.Test.YtaoondlakhocnaaSA
import Derived.Test.YtaoondlakhocnaaSB
import Derived.KernelRfl
set_option linter.unusedSimpArgs false
set_option linter.unusedVariables false
set_option maxHeartbeats 40000000
set_option maxRecDepth 4000
namespace Go.Proofs.Ytaoondlakhocnaa
open Go Go.Am

abbrev kk8_7 (rows : Tb) (per tot wth balls : Int) (l m : List Stp) (n x y : Int) (y0 y2 y6 y7 y8 y9 y10 y11 y12 y13 y14 y15 y16 y17 y18 y20 y23 : AV) : Env → Heap → Prop := fun eZ HZ => eZ = [(36, (.agg [rowsAV rows, AV.i per, AV.i tot, AV.i wth, AV.i balls, stopsAV l, stopsAV m])), (37, (.agg [rowsAV rows, AV.i per, AV.i tot, AV.i wth, AV.i balls, stopsAV l, stopsAV m])), (38, AV.i n), (39, (.ptr ([] ++ [some [rowsAV rows, AV.i per, AV.i tot, AV.i wth, AV.i balls, stopsAV l, stopsAV m]]).length 0)), (40, AV.i x), (41, (.tup [AV.i (patS rows per tot wth balls l m n x).1, AV.i (patS rows per tot wth balls l m n x).2])), (35, (.tup [AV.i (patS rows per tot wth balls l m n x).1, AV.i (patS rows per tot wth balls l m n x).2])), (42, (AV.i (patS rows per tot wth balls l m n x).1)), (43, (AV.i (patS rows per tot wth balls l m n x).2)), (11, (AV.i (patS rows per tot wth balls l m n x).1)), (12, (AV.i (patS rows per tot wth balls l m n x).2)), (0, y0), (1, AV.i n), (2, y2), (3, (.ptr ([] : Heap).length 0)), (5, (.ptr ([] ++ [some [rowsAV rows, AV.i per, AV.i tot, AV.i wth, AV.i balls, stopsAV l, stopsAV m]]).length 0)), (6, y6), (7, y7), (8, y8), (9, y9), (10, y10), (11, y11), (12, y12), (13, y13), (14, y14), (15, y15), (16, y16), (17, y17), (18, y18), (20, y20), (23, y23)] ∧ HZ = ([] ++ [some [rowsAV rows, AV.i per, AV.i tot, AV.i wth, AV.i balls, stopsAV l, stopsAV m]] ++ [some [AV.i x, AV.i y]])
abbrev kk8_9 (rows : Tb) (per tot wth balls : Int) (l m : List Stp) (n x y : Int) (y0 y2 y6 y7 y8 y9 y10 y11 y12 y13 y14 y15 y16 y17 y18 y20 y23 : AV) : Env → Heap → Prop := fun eZ HZ => eZ = [(53, (.agg [rowsAV rows, AV.i per, AV.i tot, AV.i wth, AV.i balls, stopsAV l, stopsAV m])), (54, (.agg [rowsAV rows, AV.i per, AV.i tot, AV.i wth, AV.i balls, stopsAV l, stopsAV m])), (55, (.ptr ([] ++ [some [rowsAV rows, AV.i per, AV.i tot, AV.i wth, AV.i balls, stopsAV l, stopsAV m]]).length 1)), (56, AV.i y), (57, AV.i n), (58, (.ptr ([] ++ [some [rowsAV rows, AV.i per, AV.i tot, AV.i wth, AV.i balls, stopsAV l, stopsAV m]]).length 0)), (59, AV.i x), (60, (.tup [AV.i (winS rows per tot wth balls l m y n x).1, AV.i (winS rows per tot wth balls l m y n x).2])), (52, (.tup [AV.i (winS rows per tot wth balls l m y n x).1, AV.i (winS rows per tot wth balls l m y n x).2])), (61, (AV.i (winS rows per tot wth balls l m y n x).1)), (62, (AV.i (winS rows per tot wth balls l m y n x).2)), (15, (AV.i (winS rows per tot wth balls l m y n x).1)), (16, (AV.i (winS rows per tot wth balls l m y n x).2)), (0, y0), (1, AV.i n), (2, y2), (3, (.ptr ([] : Heap).length 0)), (5, (.ptr ([] ++ [some [rowsAV rows, AV.i per, AV.i tot, AV.i wth, AV.i balls, stopsAV l, stopsAV m]]).length 0)), (6, y6), (7, y7), (8, y8), (9, y9), (10, y10), (11, y11), (12, y12), (13, y13), (14, y14), (15, y15), (16, y16), (17, y17), (18, y18), (20, y20), (23, y23)] ∧ HZ = ([] ++ [some [rowsAV rows, AV.i per, AV.i tot, AV.i wth, AV.i balls, stopsAV l, stopsAV m]] ++ [some [AV.i x, AV.i y]])
theorem chases_ok (rows : Tb) (per tot wth balls : Int) (l m : List Stp) (n x y : Int) : ACall sig 0 8 [.agg [rowsAV rows, AV.i per, AV.i tot, AV.i wth, AV.i balls, stopsAV l, stopsAV m], AV.i n, .agg [AV.i x, AV.i y]] [] fun r _ => r = .v (.bool true) := by
  refine ACall_pure (fa := fa8) rfl rfl rfl rfl ?_
  have tr : ∀ a0 a1 a2 : AV, env0 fa8.keep [a0, a1, a2] = [(0, a0), (1, a1), (2, a2), (3, .any), (5, .any), (6, .any), (7, .any), (8, .any), (9, .any), (10, .any), (11, .any), (12, .any), (13, .any), (14, .any), (15, .any), (16, .any), (17, .any), (18, .any), (20, .any), (23, .any)] := fun a0 a1 a2 => rfl
  refine W_to (tr _ _ _) ?_; clear tr
  refine at_seq rfl ?_
  refine rg rfl ?_
  refine R_box rfl (by simp (disch := first | omega | (simp only [List.length_map, List.length_append, List.length_set, List.length_cons, List.length_nil, List.length_take, List.length_drop]; omega)) only [go_sem, ↓reduceIte, Nat.reduceEqDiff, reduceCtorEq]; rfl) rfl rfl ?_
  refine R_box rfl (by simp (disch := first | omega | (simp only [List.length_map, List.length_append, List.length_set, List.length_cons, List.length_nil, List.length_take, List.length_drop]; omega)) only [go_sem, ↓reduceIte, Nat.reduceEqDiff, reduceCtorEq]; rfl) rfl rfl ?_
  refine Rq ?_
  have tr : ∀ y0 y1 y2 y3 y5 y6 y7 y8 y9 y10 y11 y12 y13 y14 y15 y16 y17 y18 y20 y23 z0 z1 z2 : AV, trim [(6, z2), (5, z1), (3, z0), (0, y0), (1, y1), (2, y2), (3, y3), (5, y5), (6, y6), (7, y7), (8, y8), (9, y9), (10, y10), (11, y11), (12, y12), (13, y13), (14, y14), (15, y15), (16, y16), (17, y17), (18, y18), (20, y20), (23, y23)] [(0, y0), (1, y1), (2, y2), (3, y3), (5, y5), (6, y6), (7, y7), (8, y8), (9, y9), (10, y10), (11, y11), (12, y12), (13, y13), (14, y14), (15, y15), (16, y16), (17, y17), (18, y18), (20, y20), (23, y23)] = [(0, y0), (1, y1), (2, y2), (3, z0), (5, z1), (6, z2), (7, y7), (8, y8), (9, y9), (10, y10), (11, y11), (12, y12), (13, y13), (14, y14), (15, y15), (16, y16), (17, y17), (18, y18), (20, y20), (23, y23)] := fun y0 y1 y2 y3 y5 y6 y7 y8 y9 y10 y11 y12 y13 y14 y15 y16 y17 y18 y20 y23 z0 z1 z2 => rfl
  refine R_nil (tr _ _ _ _ _ _ _ _ _ _ _ _ _ _ _ _ _ _ _ _ _ _ _) ?_; clear tr
  refine then_n ?_
  refine at_seq rfl ?_
  refine at_seq rfl ?_
  refine rg rfl ?_
  refine Rcall ?_
  refine ACall_eval 300 (awake_c2 _ _ _ _ _ _ _ _ _ _) ?_
  refine Rq ?_
  have tr : ∀ y0 y1 y2 y3 y5 y6 y7 y8 y9 y10 y11 y12 y13 y14 y15 y16 y17 y18 y20 y23 z0 z1 : AV, trim [(20, z1), (19, z0), (0, y0), (1, y1), (2, y2), (3, y3), (5, y5), (6, y6), (7, y7), (8, y8), (9, y9), (10, y10), (11, y11), (12, y12), (13, y13), (14, y14), (15, y15), (16, y16), (17, y17), (18, y18), (20, y20), (23, y23)] [(0, y0), (1, y1), (2, y2), (3, y3), (5, y5), (6, y6), (7, y7), (8, y8), (9, y9), (10, y10), (11, y11), (12, y12), (13, y13), (14, y14), (15, y15), (16, y16), (17, y17), (18, y18), (20, y20), (23, y23)] = [(0, y0), (1, y1), (2, y2), (3, y3), (5, y5), (6, y6), (7, y7), (8, y8), (9, y9), (10, y10), (11, y11), (12, y12), (13, y13), (14, y14), (15, y15), (16, y16), (17, y17), (18, y18), (20, z1), (23, y23)] := fun y0 y1 y2 y3 y5 y6 y7 y8 y9 y10 y11 y12 y13 y14 y15 y16 y17 y18 y20 y23 z0 z1 => rfl
  refine R_nil (tr _ _ _ _ _ _ _ _ _ _ _ _ _ _ _ _ _ _ _ _ _ _) ?_; clear tr
  refine then_n ?_
  refine cdf ?_
  refine at_skip rfl ?_
  refine then_n ?_
  refine at_seq rfl ?_
  refine at_seq rfl ?_
  refine rg rfl ?_
  refine Rq ?_
  refine Rcall ?_
  refine ACall_mono (small40_ok _ _ rows per tot wth balls l m) ?_
  rintro r H6 ⟨⟨b, rfl⟩, rfl⟩
  refine Rq ?_
  have tr : ∀ y0 y1 y2 y3 y5 y6 y7 y8 y9 y10 y11 y12 y13 y14 y15 y16 y17 y18 y20 y23 z0 z1 z2 : AV, trim [(23, z2), (22, z1), (21, z0), (0, y0), (1, y1), (2, y2), (3, y3), (5, y5), (6, y6), (7, y7), (8, y8), (9, y9), (10, y10), (11, y11), (12, y12), (13, y13), (14, y14), (15, y15), (16, y16), (17, y17), (18, y18), (20, y20), (23, y23)] [(0, y0), (1, y1), (2, y2), (3, y3), (5, y5), (6, y6), (7, y7), (8, y8), (9, y9), (10, y10), (11, y11), (12, y12), (13, y13), (14, y14), (15, y15), (16, y16), (17, y17), (18, y18), (20, y20), (23, y23)] = [(0, y0), (1, y1), (2, y2), (3, y3), (5, y5), (6, y6), (7, y7), (8, y8), (9, y9), (10, y10), (11, y11), (12, y12), (13, y13), (14, y14), (15, y15), (16, y16), (17, y17), (18, y18), (20, y20), (23, z2)] := fun y0 y1 y2 y3 y5 y6 y7 y8 y9 y10 y11 y12 y13 y14 y15 y16 y17 y18 y20 y23 z0 z1 z2 => rfl
  refine R_nil (tr _ _ _ _ _ _ _ _ _ _ _ _ _ _ _ _ _ _ _ _ _ _ _) ?_; clear tr
  refine then_n ?_
  refine cdd (fun h1 => ?_) (fun h1 => ?_)
  · try simp only [decide_eq_true_eq, decide_eq_false_iff_not, Bool.not_eq_true', Bool.not_eq_false', beq_iff_eq, beq_eq_false_iff_ne, ne_eq] at h1
    refine at_seq rfl ?_
    refine rg rfl ?_
    refine Rq ?_
    have tr : ∀ y0 y1 y2 y3 y5 y6 y7 y8 y9 y10 y11 y12 y13 y14 y15 y16 y17 y18 y20 y23 z0 : AV, trim [(6, z0), (0, y0), (1, y1), (2, y2), (3, y3), (5, y5), (6, y6), (7, y7), (8, y8), (9, y9), (10, y10), (11, y11), (12, y12), (13, y13), (14, y14), (15, y15), (16, y16), (17, y17), (18, y18), (20, y20), (23, y23)] [(0, y0), (1, y1), (2, y2), (3, y3), (5, y5), (6, y6), (7, y7), (8, y8), (9, y9), (10, y10), (11, y11), (12, y12), (13, y13), (14, y14), (15, y15), (16, y16), (17, y17), (18, y18), (20, y20), (23, y23)] = [(0, y0), (1, y1), (2, y2), (3, y3), (5, y5), (6, z0), (7, y7), (8, y8), (9, y9), (10, y10), (11, y11), (12, y12), (13, y13), (14, y14), (15, y15), (16, y16), (17, y17), (18, y18), (20, y20), (23, y23)] := fun y0 y1 y2 y3 y5 y6 y7 y8 y9 y10 y11 y12 y13 y14 y15 y16 y17 y18 y20 y23 z0 => rfl
    refine R_nil (tr _ _ _ _ _ _ _ _ _ _ _ _ _ _ _ _ _ _ _ _ _) ?_; clear tr
    refine then_n ?_
    refine at_ret rfl ?_
    refine then_r ?_
    refine fpure ?_
    first | rfl | simp
  · try simp only [decide_eq_true_eq, decide_eq_false_iff_not, Bool.not_eq_true', Bool.not_eq_false', beq_iff_eq, beq_eq_false_iff_ne, ne_eq] at h1
    refine at_skip rfl ?_
    refine then_n ?_
    refine at_seq rfl ?_
    refine rg rfl ?_
    refine Rq ?_
    refine Rcall ?_
    refine ACall_eq (of_ok _ _ rows per tot wth balls l m) ?_
    refine Rcall ?_
    refine ACall_eq (tgt_ok _ _ rows per tot wth balls l m) ?_
    refine Rq ?_
    refine Rq ?_
    refine Rq ?_
    refine Rq ?_
    refine Rq ?_
    have tr : ∀ y0 y1 y2 y3 y5 y6 y7 y8 y9 y10 y11 y12 y13 y14 y15 y16 y17 y18 y20 y23 z0 z1 z2 z3 z4 z5 z6 z7 : AV, trim [(8, z7), (7, z6), (29, z5), (28, z4), (24, z3), (27, z2), (26, z1), (25, z0), (0, y0), (1, y1), (2, y2), (3, y3), (5, y5), (6, y6), (7, y7), (8, y8), (9, y9), (10, y10), (11, y11), (12, y12), (13, y13), (14, y14), (15, y15), (16, y16), (17, y17), (18, y18), (20, y20), (23, y23)] [(0, y0), (1, y1), (2, y2), (3, y3), (5, y5), (6, y6), (7, y7), (8, y8), (9, y9), (10, y10), (11, y11), (12, y12), (13, y13), (14, y14), (15, y15), (16, y16), (17, y17), (18, y18), (20, y20), (23, y23)] = [(0, y0), (1, y1), (2, y2), (3, y3), (5, y5), (6, y6), (7, z6), (8, z7), (9, y9), (10, y10), (11, y11), (12, y12), (13, y13), (14, y14), (15, y15), (16, y16), (17, y17), (18, y18), (20, y20), (23, y23)] := fun y0 y1 y2 y3 y5 y6 y7 y8 y9 y10 y11 y12 y13 y14 y15 y16 y17 y18 y20 y23 z0 z1 z2 z3 z4 z5 z6 z7 => rfl
    refine R_nil (tr _ _ _ _ _ _ _ _ _ _ _ _ _ _ _ _ _ _ _ _ _ _ _ _ _ _ _ _) ?_; clear tr
    refine then_n ?_
    refine at_seq rfl ?_
    refine rg rfl ?_
    refine Rq ?_
    refine Rcall ?_
    refine ACall_eq (rtgt_ok _ _ rows per tot wth balls l m) ?_
    refine Rq ?_
    refine Rq ?_
    refine Rq ?_
    refine Rq ?_
    refine Rq ?_
    have tr : ∀ y0 y1 y2 y3 y5 y6 y7 y8 y9 y10 y11 y12 y13 y14 y15 y16 y17 y18 y20 y23 z0 z1 z2 z3 z4 z5 z6 : AV, trim [(10, z6), (9, z5), (34, z4), (33, z3), (30, z2), (32, z1), (31, z0), (0, y0), (1, y1), (2, y2), (3, y3), (5, y5), (6, y6), (7, y7), (8, y8), (9, y9), (10, y10), (11, y11), (12, y12), (13, y13), (14, y14), (15, y15), (16, y16), (17, y17), (18, y18), (20, y20), (23, y23)] [(0, y0), (1, y1), (2, y2), (3, y3), (5, y5), (6, y6), (7, y7), (8, y8), (9, y9), (10, y10), (11, y11), (12, y12), (13, y13), (14, y14), (15, y15), (16, y16), (17, y17), (18, y18), (20, y20), (23, y23)] = [(0, y0), (1, y1), (2, y2), (3, y3), (5, y5), (6, y6), (7, y7), (8, y8), (9, z5), (10, z6), (11, y11), (12, y12), (13, y13), (14, y14), (15, y15), (16, y16), (17, y17), (18, y18), (20, y20), (23, y23)] := fun y0 y1 y2 y3 y5 y6 y7 y8 y9 y10 y11 y12 y13 y14 y15 y16 y17 y18 y20 y23 z0 z1 z2 z3 z4 z5 z6 => rfl
    refine R_nil (tr _ _ _ _ _ _ _ _ _ _ _ _ _ _ _ _ _ _ _ _ _ _ _ _ _ _ _) ?_; clear tr
    refine then_n ?_
    refine at_seq rfl ?_
    have nd7_11111111111 : ∀ y0 y2 y6 y7 y8 y9 y10 y11 y12 y13 y14 y15 y16 y17 y18 y20 y23 : AV, Ap sig (([] : Heap).length) (opsAt (at' (bodyOf fa8) [0, 1, 1, 1, 1, 1])) (kk8_7 rows per tot wth balls l m n x y y0 y2 y6 y7 y8 y9 y10 y11 y12 y13 y14 y15 y16 y17 y18 y20 y23) 0 #[true, true, true, true, true, true, true, true, true, true, true] [(36, (.agg [rowsAV rows, AV.i per, AV.i tot, AV.i wth, AV.i balls, stopsAV l, stopsAV m])), (37, (.agg [rowsAV rows, AV.i per, AV.i tot, AV.i wth, AV.i balls, stopsAV l, stopsAV m])), (38, AV.i n), (39, (.ptr ([] ++ [some [rowsAV rows, AV.i per, AV.i tot, AV.i wth, AV.i balls, stopsAV l, stopsAV m]]).length 0)), (40, AV.i x), (41, (.tup [AV.i (patS rows per tot wth balls l m n x).1, AV.i (patS rows per tot wth balls l m n x).2])), (35, (.tup [AV.i (patS rows per tot wth balls l m n x).1, AV.i (patS rows per tot wth balls l m n x).2])), (42, (AV.i (patS rows per tot wth balls l m n x).1)), (43, (AV.i (patS rows per tot wth balls l m n x).2)), (11, (AV.i (patS rows per tot wth balls l m n x).1)), (12, (AV.i (patS rows per tot wth balls l m n x).2)), (0, y0), (1, AV.i n), (2, y2), (3, (.ptr ([] : Heap).length 0)), (5, (.ptr ([] ++ [some [rowsAV rows, AV.i per, AV.i tot, AV.i wth, AV.i balls, stopsAV l, stopsAV m]]).length 0)), (6, y6), (7, y7), (8, y8), (9, y9), (10, y10), (11, y11), (12, y12), (13, y13), (14, y14), (15, y15), (16, y16), (17, y17), (18, y18), (20, y20), (23, y23)] (([] ++ [some [rowsAV rows, AV.i per, AV.i tot, AV.i wth, AV.i balls, stopsAV l, stopsAV m]] ++ [some [AV.i x, AV.i y]])) := by
      intro y0 y2 y6 y7 y8 y9 y10 y11 y12 y13 y14 y15 y16 y17 y18 y20 y23
      exact A_done (by kernel_rfl) ⟨rfl, rfl⟩
    have nd7_11111111110 : ∀ y0 y2 y6 y7 y8 y9 y10 y11 y12 y13 y14 y15 y16 y17 y18 y20 y23 : AV, Ap sig (([] : Heap).length) (opsAt (at' (bodyOf fa8) [0, 1, 1, 1, 1, 1])) (kk8_7 rows per tot wth balls l m n x y y0 y2 y6 y7 y8 y9 y10 y11 y12 y13 y14 y15 y16 y17 y18 y20 y23) 1 #[true, true, true, true, true, true, true, true, true, true, false] [(36, (.agg [rowsAV rows, AV.i per, AV.i tot, AV.i wth, AV.i balls, stopsAV l, stopsAV m])), (37, (.agg [rowsAV rows, AV.i per, AV.i tot, AV.i wth, AV.i balls, stopsAV l, stopsAV m])), (38, AV.i n), (39, (.ptr ([] ++ [some [rowsAV rows, AV.i per, AV.i tot, AV.i wth, AV.i balls, stopsAV l, stopsAV m]]).length 0)), (40, AV.i x), (41, (.tup [AV.i (patS rows per tot wth balls l m n x).1, AV.i (patS rows per tot wth balls l m n x).2])), (35, (.tup [AV.i (patS rows per tot wth balls l m n x).1, AV.i (patS rows per tot wth balls l m n x).2])), (42, (AV.i (patS rows per tot wth balls l m n x).1)), (43, (AV.i (patS rows per tot wth balls l m n x).2)), (11, (AV.i (patS rows per tot wth balls l m n x).1)), (12, y12), (0, y0), (1, AV.i n), (2, y2), (3, (.ptr ([] : Heap).length 0)), (5, (.ptr ([] ++ [some [rowsAV rows, AV.i per, AV.i tot, AV.i wth, AV.i balls, stopsAV l, stopsAV m]]).length 0)), (6, y6), (7, y7), (8, y8), (9, y9), (10, y10), (11, y11), (12, y12), (13, y13), (14, y14), (15, y15), (16, y16), (17, y17), (18, y18), (20, y20), (23, y23)] (([] ++ [some [rowsAV rows, AV.i per, AV.i tot, AV.i wth, AV.i balls, stopsAV l, stopsAV m]] ++ [some [AV.i x, AV.i y]])) := by
      intro y0 y2 y6 y7 y8 y9 y10 y11 y12 y13 y14 y15 y16 y17 y18 y20 y23
      refine A_step [10] (by kernel_rfl) (by decide) ?_
      refine A_cons rfl ?_ ?_
      · refine Rq ?_
        exact A_on (nd7_11111111111 _ _ _ _ _ _ _ _ _ _ _ _ _ _ _ _ _) rfl rfl rfl
      exact A_end
    have nd7_11111111100 : ∀ y0 y2 y6 y7 y8 y9 y10 y11 y12 y13 y14 y15 y16 y17 y18 y20 y23 : AV, Ap sig (([] : Heap).length) (opsAt (at' (bodyOf fa8) [0, 1, 1, 1, 1, 1])) (kk8_7 rows per tot wth balls l m n x y y0 y2 y6 y7 y8 y9 y10 y11 y12 y13 y14 y15 y16 y17 y18 y20 y23) 2 #[true, true, true, true, true, true, true, true, true, false, false] [(36, (.agg [rowsAV rows, AV.i per, AV.i tot, AV.i wth, AV.i balls, stopsAV l, stopsAV m])), (37, (.agg [rowsAV rows, AV.i per, AV.i tot, AV.i wth, AV.i balls, stopsAV l, stopsAV m])), (38, AV.i n), (39, (.ptr ([] ++ [some [rowsAV rows, AV.i per, AV.i tot, AV.i wth, AV.i balls, stopsAV l, stopsAV m]]).length 0)), (40, AV.i x), (41, (.tup [AV.i (patS rows per tot wth balls l m n x).1, AV.i (patS rows per tot wth balls l m n x).2])), (35, (.tup [AV.i (patS rows per tot wth balls l m n x).1, AV.i (patS rows per tot wth balls l m n x).2])), (42, (AV.i (patS rows per tot wth balls l m n x).1)), (43, (AV.i (patS rows per tot wth balls l m n x).2)), (11, y11), (12, y12), (0, y0), (1, AV.i n), (2, y2), (3, (.ptr ([] : Heap).length 0)), (5, (.ptr ([] ++ [some [rowsAV rows, AV.i per, AV.i tot, AV.i wth, AV.i balls, stopsAV l, stopsAV m]]).length 0)), (6, y6), (7, y7), (8, y8), (9, y9), (10, y10), (11, y11), (12, y12), (13, y13), (14, y14), (15, y15), (16, y16), (17, y17), (18, y18), (20, y20), (23, y23)] (([] ++ [some [rowsAV rows, AV.i per, AV.i tot, AV.i wth, AV.i balls, stopsAV l, stopsAV m]] ++ [some [AV.i x, AV.i y]])) := by
      intro y0 y2 y6 y7 y8 y9 y10 y11 y12 y13 y14 y15 y16 y17 y18 y20 y23
      refine A_step [9] (by kernel_rfl) (by decide) ?_
      refine A_cons rfl ?_ ?_
      · refine Rq ?_
        exact A_on (nd7_11111111110 _ _ _ _ _ _ _ _ _ _ _ _ _ _ _ _ _) rfl rfl rfl
      exact A_end
    have nd7_11111111010 : ∀ y0 y2 y6 y7 y8 y9 y10 y11 y12 y13 y14 y15 y16 y17 y18 y20 y23 : AV, Ap sig (([] : Heap).length) (opsAt (at' (bodyOf fa8) [0, 1, 1, 1, 1, 1])) (kk8_7 rows per tot wth balls l m n x y y0 y2 y6 y7 y8 y9 y10 y11 y12 y13 y14 y15 y16 y17 y18 y20 y23) 2 #[true, true, true, true, true, true, true, true, false, true, false] [(36, (.agg [rowsAV rows, AV.i per, AV.i tot, AV.i wth, AV.i balls, stopsAV l, stopsAV m])), (37, (.agg [rowsAV rows, AV.i per, AV.i tot, AV.i wth, AV.i balls, stopsAV l, stopsAV m])), (38, AV.i n), (39, (.ptr ([] ++ [some [rowsAV rows, AV.i per, AV.i tot, AV.i wth, AV.i balls, stopsAV l, stopsAV m]]).length 0)), (40, AV.i x), (41, (.tup [AV.i (patS rows per tot wth balls l m n x).1, AV.i (patS rows per tot wth balls l m n x).2])), (35, (.tup [AV.i (patS rows per tot wth balls l m n x).1, AV.i (patS rows per tot wth balls l m n x).2])), (42, (AV.i (patS rows per tot wth balls l m n x).1)), (43, .any), (11, (AV.i (patS rows per tot wth balls l m n x).1)), (12, y12), (0, y0), (1, AV.i n), (2, y2), (3, (.ptr ([] : Heap).length 0)), (5, (.ptr ([] ++ [some [rowsAV rows, AV.i per, AV.i tot, AV.i wth, AV.i balls, stopsAV l, stopsAV m]]).length 0)), (6, y6), (7, y7), (8, y8), (9, y9), (10, y10), (11, y11), (12, y12), (13, y13), (14, y14), (15, y15), (16, y16), (17, y17), (18, y18), (20, y20), (23, y23)] (([] ++ [some [rowsAV rows, AV.i per, AV.i tot, AV.i wth, AV.i balls, stopsAV l, stopsAV m]] ++ [some [AV.i x, AV.i y]])) := by
      intro y0 y2 y6 y7 y8 y9 y10 y11 y12 y13 y14 y15 y16 y17 y18 y20 y23
      refine A_step [8] (by kernel_rfl) (by decide) ?_
      refine A_cons rfl ?_ ?_
      · refine Rq ?_
        exact A_on (nd7_11111111110 _ _ _ _ _ _ _ _ _ _ _ _ _ _ _ _ _) rfl rfl rfl
      exact A_end
    have nd7_11111111000 : ∀ y0 y2 y6 y7 y8 y9 y10 y11 y12 y13 y14 y15 y16 y17 y18 y20 y23 : AV, Ap sig (([] : Heap).length) (opsAt (at' (bodyOf fa8) [0, 1, 1, 1, 1, 1])) (kk8_7 rows per tot wth balls l m n x y y0 y2 y6 y7 y8 y9 y10 y11 y12 y13 y14 y15 y16 y17 y18 y20 y23) 3 #[true, true, true, true, true, true, true, true, false, false, false] [(36, (.agg [rowsAV rows, AV.i per, AV.i tot, AV.i wth, AV.i balls, stopsAV l, stopsAV m])), (37, (.agg [rowsAV rows, AV.i per, AV.i tot, AV.i wth, AV.i balls, stopsAV l, stopsAV m])), (38, AV.i n), (39, (.ptr ([] ++ [some [rowsAV rows, AV.i per, AV.i tot, AV.i wth, AV.i balls, stopsAV l, stopsAV m]]).length 0)), (40, AV.i x), (41, (.tup [AV.i (patS rows per tot wth balls l m n x).1, AV.i (patS rows per tot wth balls l m n x).2])), (35, (.tup [AV.i (patS rows per tot wth balls l m n x).1, AV.i (patS rows per tot wth balls l m n x).2])), (42, (AV.i (patS rows per tot wth balls l m n x).1)), (43, .any), (11, y11), (12, y12), (0, y0), (1, AV.i n), (2, y2), (3, (.ptr ([] : Heap).length 0)), (5, (.ptr ([] ++ [some [rowsAV rows, AV.i per, AV.i tot, AV.i wth, AV.i balls, stopsAV l, stopsAV m]]).length 0)), (6, y6), (7, y7), (8, y8), (9, y9), (10, y10), (11, y11), (12, y12), (13, y13), (14, y14), (15, y15), (16, y16), (17, y17), (18, y18), (20, y20), (23, y23)] (([] ++ [some [rowsAV rows, AV.i per, AV.i tot, AV.i wth, AV.i balls, stopsAV l, stopsAV m]] ++ [some [AV.i x, AV.i y]])) := by
      intro y0 y2 y6 y7 y8 y9 y10 y11 y12 y13 y14 y15 y16 y17 y18 y20 y23
      refine A_step [8, 9] (by kernel_rfl) (by decide) ?_
      refine A_cons rfl ?_ ?_
      · refine Rq ?_
        exact A_on (nd7_11111111100 _ _ _ _ _ _ _ _ _ _ _ _ _ _ _ _ _) rfl rfl rfl
      refine A_cons rfl ?_ ?_
      · refine Rq ?_
        exact A_on (nd7_11111111010 _ _ _ _ _ _ _ _ _ _ _ _ _ _ _ _ _) rfl rfl rfl
      exact A_end
    have nd7_11111110100 : ∀ y0 y2 y6 y7 y8 y9 y10 y11 y12 y13 y14 y15 y16 y17 y18 y20 y23 : AV, Ap sig (([] : Heap).length) (opsAt (at' (bodyOf fa8) [0, 1, 1, 1, 1, 1])) (kk8_7 rows per tot wth balls l m n x y y0 y2 y6 y7 y8 y9 y10 y11 y12 y13 y14 y15 y16 y17 y18 y20 y23) 3 #[true, true, true, true, true, true, true, false, true, false, false] [(36, (.agg [rowsAV rows, AV.i per, AV.i tot, AV.i wth, AV.i balls, stopsAV l, stopsAV m])), (37, (.agg [rowsAV rows, AV.i per, AV.i tot, AV.i wth, AV.i balls, stopsAV l, stopsAV m])), (38, AV.i n), (39, (.ptr ([] ++ [some [rowsAV rows, AV.i per, AV.i tot, AV.i wth, AV.i balls, stopsAV l, stopsAV m]]).length 0)), (40, AV.i x), (41, (.tup [AV.i (patS rows per tot wth balls l m n x).1, AV.i (patS rows per tot wth balls l m n x).2])), (35, (.tup [AV.i (patS rows per tot wth balls l m n x).1, AV.i (patS rows per tot wth balls l m n x).2])), (42, .any), (43, (AV.i (patS rows per tot wth balls l m n x).2)), (11, y11), (12, y12), (0, y0), (1, AV.i n), (2, y2), (3, (.ptr ([] : Heap).length 0)), (5, (.ptr ([] ++ [some [rowsAV rows, AV.i per, AV.i tot, AV.i wth, AV.i balls, stopsAV l, stopsAV m]]).length 0)), (6, y6), (7, y7), (8, y8), (9, y9), (10, y10), (11, y11), (12, y12), (13, y13), (14, y14), (15, y15), (16, y16), (17, y17), (18, y18), (20, y20), (23, y23)] (([] ++ [some [rowsAV rows, AV.i per, AV.i tot, AV.i wth, AV.i balls, stopsAV l, stopsAV m]] ++ [some [AV.i x, AV.i y]])) := by
      intro y0 y2 y6 y7 y8 y9 y10 y11 y12 y13 y14 y15 y16 y17 y18 y20 y23
      refine A_step [7] (by kernel_rfl) (by decide) ?_
      refine A_cons rfl ?_ ?_
      · refine Rq ?_
        exact A_on (nd7_11111111100 _ _ _ _ _ _ _ _ _ _ _ _ _ _ _ _ _) rfl rfl rfl
      exact A_end
    have nd7_11111110000 : ∀ y0 y2 y6 y7 y8 y9 y10 y11 y12 y13 y14 y15 y16 y17 y18 y20 y23 : AV, Ap sig (([] : Heap).length) (opsAt (at' (bodyOf fa8) [0, 1, 1, 1, 1, 1])) (kk8_7 rows per tot wth balls l m n x y y0 y2 y6 y7 y8 y9 y10 y11 y12 y13 y14 y15 y16 y17 y18 y20 y23) 4 #[true, true, true, true, true, true, true, false, false, false, false] [(36, (.agg [rowsAV rows, AV.i per, AV.i tot, AV.i wth, AV.i balls, stopsAV l, stopsAV m])), (37, (.agg [rowsAV rows, AV.i per, AV.i tot, AV.i wth, AV.i balls, stopsAV l, stopsAV m])), (38, AV.i n), (39, (.ptr ([] ++ [some [rowsAV rows, AV.i per, AV.i tot, AV.i wth, AV.i balls, stopsAV l, stopsAV m]]).length 0)), (40, AV.i x), (41, (.tup [AV.i (patS rows per tot wth balls l m n x).1, AV.i (patS rows per tot wth balls l m n x).2])), (35, (.tup [AV.i (patS rows per tot wth balls l m n x).1, AV.i (patS rows per tot wth balls l m n x).2])), (42, .any), (43, .any), (11, y11), (12, y12), (0, y0), (1, AV.i n), (2, y2), (3, (.ptr ([] : Heap).length 0)), (5, (.ptr ([] ++ [some [rowsAV rows, AV.i per, AV.i tot, AV.i wth, AV.i balls, stopsAV l, stopsAV m]]).length 0)), (6, y6), (7, y7), (8, y8), (9, y9), (10, y10), (11, y11), (12, y12), (13, y13), (14, y14), (15, y15), (16, y16), (17, y17), (18, y18), (20, y20), (23, y23)] (([] ++ [some [rowsAV rows, AV.i per, AV.i tot, AV.i wth, AV.i balls, stopsAV l, stopsAV m]] ++ [some [AV.i x, AV.i y]])) := by
      intro y0 y2 y6 y7 y8 y9 y10 y11 y12 y13 y14 y15 y16 y17 y18 y20 y23
      refine A_step [7, 8] (by kernel_rfl) (by decide) ?_
      refine A_cons rfl ?_ ?_
      · refine Rq ?_
        exact A_on (nd7_11111111000 _ _ _ _ _ _ _ _ _ _ _ _ _ _ _ _ _) rfl rfl rfl
      refine A_cons rfl ?_ ?_
      · refine Rq ?_
        exact A_on (nd7_11111110100 _ _ _ _ _ _ _ _ _ _ _ _ _ _ _ _ _) rfl rfl rfl
      exact A_end
    have nd7_11111100000 : ∀ y0 y2 y6 y7 y8 y9 y10 y11 y12 y13 y14 y15 y16 y17 y18 y20 y23 : AV, Ap sig (([] : Heap).length) (opsAt (at' (bodyOf fa8) [0, 1, 1, 1, 1, 1])) (kk8_7 rows per tot wth balls l m n x y y0 y2 y6 y7 y8 y9 y10 y11 y12 y13 y14 y15 y16 y17 y18 y20 y23) 5 #[true, true, true, true, true, true, false, false, false, false, false] [(36, (.agg [rowsAV rows, AV.i per, AV.i tot, AV.i wth, AV.i balls, stopsAV l, stopsAV m])), (37, (.agg [rowsAV rows, AV.i per, AV.i tot, AV.i wth, AV.i balls, stopsAV l, stopsAV m])), (38, AV.i n), (39, (.ptr ([] ++ [some [rowsAV rows, AV.i per, AV.i tot, AV.i wth, AV.i balls, stopsAV l, stopsAV m]]).length 0)), (40, AV.i x), (41, (.tup [AV.i (patS rows per tot wth balls l m n x).1, AV.i (patS rows per tot wth balls l m n x).2])), (35, .any), (42, .any), (43, .any), (11, y11), (12, y12), (0, y0), (1, AV.i n), (2, y2), (3, (.ptr ([] : Heap).length 0)), (5, (.ptr ([] ++ [some [rowsAV rows, AV.i per, AV.i tot, AV.i wth, AV.i balls, stopsAV l, stopsAV m]]).length 0)), (6, y6), (7, y7), (8, y8), (9, y9), (10, y10), (11, y11), (12, y12), (13, y13), (14, y14), (15, y15), (16, y16), (17, y17), (18, y18), (20, y20), (23, y23)] (([] ++ [some [rowsAV rows, AV.i per, AV.i tot, AV.i wth, AV.i balls, stopsAV l, stopsAV m]] ++ [some [AV.i x, AV.i y]])) := by
      intro y0 y2 y6 y7 y8 y9 y10 y11 y12 y13 y14 y15 y16 y17 y18 y20 y23
      refine A_step [6] (by kernel_rfl) (by decide) ?_
      refine A_cons rfl ?_ ?_
      · refine Rq ?_
        exact A_on (nd7_11111110000 _ _ _ _ _ _ _ _ _ _ _ _ _ _ _ _ _) rfl rfl rfl
      exact A_end
    have nd7_11111000000 : ∀ y0 y2 y6 y7 y8 y9 y10 y11 y12 y13 y14 y15 y16 y17 y18 y20 y23 : AV, Ap sig (([] : Heap).length) (opsAt (at' (bodyOf fa8) [0, 1, 1, 1, 1, 1])) (kk8_7 rows per tot wth balls l m n x y y0 y2 y6 y7 y8 y9 y10 y11 y12 y13 y14 y15 y16 y17 y18 y20 y23) 6 #[true, true, true, true, true, false, false, false, false, false, false] [(36, (.agg [rowsAV rows, AV.i per, AV.i tot, AV.i wth, AV.i balls, stopsAV l, stopsAV m])), (37, (.agg [rowsAV rows, AV.i per, AV.i tot, AV.i wth, AV.i balls, stopsAV l, stopsAV m])), (38, AV.i n), (39, (.ptr ([] ++ [some [rowsAV rows, AV.i per, AV.i tot, AV.i wth, AV.i balls, stopsAV l, stopsAV m]]).length 0)), (40, AV.i x), (41, .any), (35, .any), (42, .any), (43, .any), (11, y11), (12, y12), (0, y0), (1, AV.i n), (2, y2), (3, (.ptr ([] : Heap).length 0)), (5, (.ptr ([] ++ [some [rowsAV rows, AV.i per, AV.i tot, AV.i wth, AV.i balls, stopsAV l, stopsAV m]]).length 0)), (6, y6), (7, y7), (8, y8), (9, y9), (10, y10), (11, y11), (12, y12), (13, y13), (14, y14), (15, y15), (16, y16), (17, y17), (18, y18), (20, y20), (23, y23)] (([] ++ [some [rowsAV rows, AV.i per, AV.i tot, AV.i wth, AV.i balls, stopsAV l, stopsAV m]] ++ [some [AV.i x, AV.i y]])) := by
      intro y0 y2 y6 y7 y8 y9 y10 y11 y12 y13 y14 y15 y16 y17 y18 y20 y23
      refine A_step [5] (by kernel_rfl) (by decide) ?_
      refine A_cons rfl ?_ ?_
      · refine Rcall ?_
        refine ACall_eq (pat_ok _ _ rows per tot wth balls l m n x) ?_
        exact A_on (nd7_11111100000 _ _ _ _ _ _ _ _ _ _ _ _ _ _ _ _ _) rfl rfl rfl
      exact A_end
    have nd7_10111000000 : ∀ y0 y2 y6 y7 y8 y9 y10 y11 y12 y13 y14 y15 y16 y17 y18 y20 y23 : AV, Ap sig (([] : Heap).length) (opsAt (at' (bodyOf fa8) [0, 1, 1, 1, 1, 1])) (kk8_7 rows per tot wth balls l m n x y y0 y2 y6 y7 y8 y9 y10 y11 y12 y13 y14 y15 y16 y17 y18 y20 y23) 7 #[true, false, true, true, true, false, false, false, false, false, false] [(36, (.agg [rowsAV rows, AV.i per, AV.i tot, AV.i wth, AV.i balls, stopsAV l, stopsAV m])), (37, .any), (38, AV.i n), (39, (.ptr ([] ++ [some [rowsAV rows, AV.i per, AV.i tot, AV.i wth, AV.i balls, stopsAV l, stopsAV m]]).length 0)), (40, AV.i x), (41, .any), (35, .any), (42, .any), (43, .any), (11, y11), (12, y12), (0, y0), (1, AV.i n), (2, y2), (3, (.ptr ([] : Heap).length 0)), (5, (.ptr ([] ++ [some [rowsAV rows, AV.i per, AV.i tot, AV.i wth, AV.i balls, stopsAV l, stopsAV m]]).length 0)), (6, y6), (7, y7), (8, y8), (9, y9), (10, y10), (11, y11), (12, y12), (13, y13), (14, y14), (15, y15), (16, y16), (17, y17), (18, y18), (20, y20), (23, y23)] (([] ++ [some [rowsAV rows, AV.i per, AV.i tot, AV.i wth, AV.i balls, stopsAV l, stopsAV m]] ++ [some [AV.i x, AV.i y]])) := by
      intro y0 y2 y6 y7 y8 y9 y10 y11 y12 y13 y14 y15 y16 y17 y18 y20 y23
      refine A_step [1] (by kernel_rfl) (by decide) ?_
      refine A_cons rfl ?_ ?_
      · refine Rcall ?_
        refine ACall_eq (of_ok _ _ rows per tot wth balls l m) ?_
        exact A_on (nd7_11111000000 _ _ _ _ _ _ _ _ _ _ _ _ _ _ _ _ _) rfl rfl rfl
      exact A_end
    have nd7_11011000000 : ∀ y0 y2 y6 y7 y8 y9 y10 y11 y12 y13 y14 y15 y16 y17 y18 y20 y23 : AV, Ap sig (([] : Heap).length) (opsAt (at' (bodyOf fa8) [0, 1, 1, 1, 1, 1])) (kk8_7 rows per tot wth balls l m n x y y0 y2 y6 y7 y8 y9 y10 y11 y12 y13 y14 y15 y16 y17 y18 y20 y23) 7 #[true, true, false, true, true, false, false, false, false, false, false] [(36, (.agg [rowsAV rows, AV.i per, AV.i tot, AV.i wth, AV.i balls, stopsAV l, stopsAV m])), (37, (.agg [rowsAV rows, AV.i per, AV.i tot, AV.i wth, AV.i balls, stopsAV l, stopsAV m])), (38, .any), (39, (.ptr ([] ++ [some [rowsAV rows, AV.i per, AV.i tot, AV.i wth, AV.i balls, stopsAV l, stopsAV m]]).length 0)), (40, AV.i x), (41, .any), (35, .any), (42, .any), (43, .any), (11, y11), (12, y12), (0, y0), (1, AV.i n), (2, y2), (3, (.ptr ([] : Heap).length 0)), (5, (.ptr ([] ++ [some [rowsAV rows, AV.i per, AV.i tot, AV.i wth, AV.i balls, stopsAV l, stopsAV m]]).length 0)), (6, y6), (7, y7), (8, y8), (9, y9), (10, y10), (11, y11), (12, y12), (13, y13), (14, y14), (15, y15), (16, y16), (17, y17), (18, y18), (20, y20), (23, y23)] (([] ++ [some [rowsAV rows, AV.i per, AV.i tot, AV.i wth, AV.i balls, stopsAV l, stopsAV m]] ++ [some [AV.i x, AV.i y]])) := by
      intro y0 y2 y6 y7 y8 y9 y10 y11 y12 y13 y14 y15 y16 y17 y18 y20 y23
      refine A_step [2] (by kernel_rfl) (by decide) ?_
      refine A_cons rfl ?_ ?_
      · refine Rq ?_
        exact A_on (nd7_11111000000 _ _ _ _ _ _ _ _ _ _ _ _ _ _ _ _ _) rfl rfl rfl
      exact A_end
    have nd7_11110000000 : ∀ y0 y2 y6 y7 y8 y9 y10 y11 y12 y13 y14 y15 y16 y17 y18 y20 y23 : AV, Ap sig (([] : Heap).length) (opsAt (at' (bodyOf fa8) [0, 1, 1, 1, 1, 1])) (kk8_7 rows per tot wth balls l m n x y y0 y2 y6 y7 y8 y9 y10 y11 y12 y13 y14 y15 y16 y17 y18 y20 y23) 7 #[true, true, true, true, false, false, false, false, false, false, false] [(36, (.agg [rowsAV rows, AV.i per, AV.i tot, AV.i wth, AV.i balls, stopsAV l, stopsAV m])), (37, (.agg [rowsAV rows, AV.i per, AV.i tot, AV.i wth, AV.i balls, stopsAV l, stopsAV m])), (38, AV.i n), (39, (.ptr ([] ++ [some [rowsAV rows, AV.i per, AV.i tot, AV.i wth, AV.i balls, stopsAV l, stopsAV m]]).length 0)), (40, .any), (41, .any), (35, .any), (42, .any), (43, .any), (11, y11), (12, y12), (0, y0), (1, AV.i n), (2, y2), (3, (.ptr ([] : Heap).length 0)), (5, (.ptr ([] ++ [some [rowsAV rows, AV.i per, AV.i tot, AV.i wth, AV.i balls, stopsAV l, stopsAV m]]).length 0)), (6, y6), (7, y7), (8, y8), (9, y9), (10, y10), (11, y11), (12, y12), (13, y13), (14, y14), (15, y15), (16, y16), (17, y17), (18, y18), (20, y20), (23, y23)] (([] ++ [some [rowsAV rows, AV.i per, AV.i tot, AV.i wth, AV.i balls, stopsAV l, stopsAV m]] ++ [some [AV.i x, AV.i y]])) := by
      intro y0 y2 y6 y7 y8 y9 y10 y11 y12 y13 y14 y15 y16 y17 y18 y20 y23
      refine A_step [4] (by kernel_rfl) (by decide) ?_
      refine A_cons rfl ?_ ?_
      · refine Rq ?_
        exact A_on (nd7_11111000000 _ _ _ _ _ _ _ _ _ _ _ _ _ _ _ _ _) rfl rfl rfl
      exact A_end
    have nd7_10011000000 : ∀ y0 y2 y6 y7 y8 y9 y10 y11 y12 y13 y14 y15 y16 y17 y18 y20 y23 : AV, Ap sig (([] : Heap).length) (opsAt (at' (bodyOf fa8) [0, 1, 1, 1, 1, 1])) (kk8_7 rows per tot wth balls l m n x y y0 y2 y6 y7 y8 y9 y10 y11 y12 y13 y14 y15 y16 y17 y18 y20 y23) 8 #[true, false, false, true, true, false, false, false, false, false, false] [(36, (.agg [rowsAV rows, AV.i per, AV.i tot, AV.i wth, AV.i balls, stopsAV l, stopsAV m])), (37, .any), (38, .any), (39, (.ptr ([] ++ [some [rowsAV rows, AV.i per, AV.i tot, AV.i wth, AV.i balls, stopsAV l, stopsAV m]]).length 0)), (40, AV.i x), (41, .any), (35, .any), (42, .any), (43, .any), (11, y11), (12, y12), (0, y0), (1, AV.i n), (2, y2), (3, (.ptr ([] : Heap).length 0)), (5, (.ptr ([] ++ [some [rowsAV rows, AV.i per, AV.i tot, AV.i wth, AV.i balls, stopsAV l, stopsAV m]]).length 0)), (6, y6), (7, y7), (8, y8), (9, y9), (10, y10), (11, y11), (12, y12), (13, y13), (14, y14), (15, y15), (16, y16), (17, y17), (18, y18), (20, y20), (23, y23)] (([] ++ [some [rowsAV rows, AV.i per, AV.i tot, AV.i wth, AV.i balls, stopsAV l, stopsAV m]] ++ [some [AV.i x, AV.i y]])) := by
      intro y0 y2 y6 y7 y8 y9 y10 y11 y12 y13 y14 y15 y16 y17 y18 y20 y23
      refine A_step [1, 2] (by kernel_rfl) (by decide) ?_
      refine A_cons rfl ?_ ?_
      · refine Rcall ?_
        refine ACall_eq (of_ok _ _ rows per tot wth balls l m) ?_
        exact A_on (nd7_11011000000 _ _ _ _ _ _ _ _ _ _ _ _ _ _ _ _ _) rfl rfl rfl
      refine A_cons rfl ?_ ?_
      · refine Rq ?_
        exact A_on (nd7_10111000000 _ _ _ _ _ _ _ _ _ _ _ _ _ _ _ _ _) rfl rfl rfl
      exact A_end
    have nd7_00111000000 : ∀ y0 y2 y6 y7 y8 y9 y10 y11 y12 y13 y14 y15 y16 y17 y18 y20 y23 : AV, Ap sig (([] : Heap).length) (opsAt (at' (bodyOf fa8) [0, 1, 1, 1, 1, 1])) (kk8_7 rows per tot wth balls l m n x y y0 y2 y6 y7 y8 y9 y10 y11 y12 y13 y14 y15 y16 y17 y18 y20 y23) 8 #[false, false, true, true, true, false, false, false, false, false, false] [(36, .any), (37, .any), (38, AV.i n), (39, (.ptr ([] ++ [some [rowsAV rows, AV.i per, AV.i tot, AV.i wth, AV.i balls, stopsAV l, stopsAV m]]).length 0)), (40, AV.i x), (41, .any), (35, .any), (42, .any), (43, .any), (11, y11), (12, y12), (0, y0), (1, AV.i n), (2, y2), (3, (.ptr ([] : Heap).length 0)), (5, (.ptr ([] ++ [some [rowsAV rows, AV.i per, AV.i tot, AV.i wth, AV.i balls, stopsAV l, stopsAV m]]).length 0)), (6, y6), (7, y7), (8, y8), (9, y9), (10, y10), (11, y11), (12, y12), (13, y13), (14, y14), (15, y15), (16, y16), (17, y17), (18, y18), (20, y20), (23, y23)] (([] ++ [some [rowsAV rows, AV.i per, AV.i tot, AV.i wth, AV.i balls, stopsAV l, stopsAV m]] ++ [some [AV.i x, AV.i y]])) := by
      intro y0 y2 y6 y7 y8 y9 y10 y11 y12 y13 y14 y15 y16 y17 y18 y20 y23
      refine A_step [0] (by kernel_rfl) (by decide) ?_
      refine A_cons rfl ?_ ?_
      · refine Rq ?_
        exact A_on (nd7_10111000000 _ _ _ _ _ _ _ _ _ _ _ _ _ _ _ _ _) rfl rfl rfl
      exact A_end
    have nd7_10110000000 : ∀ y0 y2 y6 y7 y8 y9 y10 y11 y12 y13 y14 y15 y16 y17 y18 y20 y23 : AV, Ap sig (([] : Heap).length) (opsAt (at' (bodyOf fa8) [0, 1, 1, 1, 1, 1])) (kk8_7 rows per tot wth balls l m n x y y0 y2 y6 y7 y8 y9 y10 y11 y12 y13 y14 y15 y16 y17 y18 y20 y23) 8 #[true, false, true, true, false, false, false, false, false, false, false] [(36, (.agg [rowsAV rows, AV.i per, AV.i tot, AV.i wth, AV.i balls, stopsAV l, stopsAV m])), (37, .any), (38, AV.i n), (39, (.ptr ([] ++ [some [rowsAV rows, AV.i per, AV.i tot, AV.i wth, AV.i balls, stopsAV l, stopsAV m]]).length 0)), (40, .any), (41, .any), (35, .any), (42, .any), (43, .any), (11, y11), (12, y12), (0, y0), (1, AV.i n), (2, y2), (3, (.ptr ([] : Heap).length 0)), (5, (.ptr ([] ++ [some [rowsAV rows, AV.i per, AV.i tot, AV.i wth, AV.i balls, stopsAV l, stopsAV m]]).length 0)), (6, y6), (7, y7), (8, y8), (9, y9), (10, y10), (11, y11), (12, y12), (13, y13), (14, y14), (15, y15), (16, y16), (17, y17), (18, y18), (20, y20), (23, y23)] (([] ++ [some [rowsAV rows, AV.i per, AV.i tot, AV.i wth, AV.i balls, stopsAV l, stopsAV m]] ++ [some [AV.i x, AV.i y]])) := by
      intro y0 y2 y6 y7 y8 y9 y10 y11 y12 y13 y14 y15 y16 y17 y18 y20 y23
      refine A_step [1, 4] (by kernel_rfl) (by decide) ?_
      refine A_cons rfl ?_ ?_
      · refine Rcall ?_
        refine ACall_eq (of_ok _ _ rows per tot wth balls l m) ?_
        exact A_on (nd7_11110000000 _ _ _ _ _ _ _ _ _ _ _ _ _ _ _ _ _) rfl rfl rfl
      refine A_cons rfl ?_ ?_
      · refine Rq ?_
        exact A_on (nd7_10111000000 _ _ _ _ _ _ _ _ _ _ _ _ _ _ _ _ _) rfl rfl rfl
      exact A_end
    have nd7_11010000000 : ∀ y0 y2 y6 y7 y8 y9 y10 y11 y12 y13 y14 y15 y16 y17 y18 y20 y23 : AV, Ap sig (([] : Heap).length) (opsAt (at' (bodyOf fa8) [0, 1, 1, 1, 1, 1])) (kk8_7 rows per tot wth balls l m n x y y0 y2 y6 y7 y8 y9 y10 y11 y12 y13 y14 y15 y16 y17 y18 y20 y23) 8 #[true, true, false, true, false, false, false, false, false, false, false] [(36, (.agg [rowsAV rows, AV.i per, AV.i tot, AV.i wth, AV.i balls, stopsAV l, stopsAV m])), (37, (.agg [rowsAV rows, AV.i per, AV.i tot, AV.i wth, AV.i balls, stopsAV l, stopsAV m])), (38, .any), (39, (.ptr ([] ++ [some [rowsAV rows, AV.i per, AV.i tot, AV.i wth, AV.i balls, stopsAV l, stopsAV m]]).length 0)), (40, .any), (41, .any), (35, .any), (42, .any), (43, .any), (11, y11), (12, y12), (0, y0), (1, AV.i n), (2, y2), (3, (.ptr ([] : Heap).length 0)), (5, (.ptr ([] ++ [some [rowsAV rows, AV.i per, AV.i tot, AV.i wth, AV.i balls, stopsAV l, stopsAV m]]).length 0)), (6, y6), (7, y7), (8, y8), (9, y9), (10, y10), (11, y11), (12, y12), (13, y13), (14, y14), (15, y15), (16, y16), (17, y17), (18, y18), (20, y20), (23, y23)] (([] ++ [some [rowsAV rows, AV.i per, AV.i tot, AV.i wth, AV.i balls, stopsAV l, stopsAV m]] ++ [some [AV.i x, AV.i y]])) := by
      intro y0 y2 y6 y7 y8 y9 y10 y11 y12 y13 y14 y15 y16 y17 y18 y20 y23
      refine A_step [2, 4] (by kernel_rfl) (by decide) ?_
      refine A_cons rfl ?_ ?_
      · refine Rq ?_
        exact A_on (nd7_11110000000 _ _ _ _ _ _ _ _ _ _ _ _ _ _ _ _ _) rfl rfl rfl
      refine A_cons rfl ?_ ?_
      · refine Rq ?_
        exact A_on (nd7_11011000000 _ _ _ _ _ _ _ _ _ _ _ _ _ _ _ _ _) rfl rfl rfl
      exact A_end
    have nd7_11100000000 : ∀ y0 y2 y6 y7 y8 y9 y10 y11 y12 y13 y14 y15 y16 y17 y18 y20 y23 : AV, Ap sig (([] : Heap).length) (opsAt (at' (bodyOf fa8) [0, 1, 1, 1, 1, 1])) (kk8_7 rows per tot wth balls l m n x y y0 y2 y6 y7 y8 y9 y10 y11 y12 y13 y14 y15 y16 y17 y18 y20 y23) 8 #[true, true, true, false, false, false, false, false, false, false, false] [(36, (.agg [rowsAV rows, AV.i per, AV.i tot, AV.i wth, AV.i balls, stopsAV l, stopsAV m])), (37, (.agg [rowsAV rows, AV.i per, AV.i tot, AV.i wth, AV.i balls, stopsAV l, stopsAV m])), (38, AV.i n), (39, .any), (40, .any), (41, .any), (35, .any), (42, .any), (43, .any), (11, y11), (12, y12), (0, y0), (1, AV.i n), (2, y2), (3, (.ptr ([] : Heap).length 0)), (5, (.ptr ([] ++ [some [rowsAV rows, AV.i per, AV.i tot, AV.i wth, AV.i balls, stopsAV l, stopsAV m]]).length 0)), (6, y6), (7, y7), (8, y8), (9, y9), (10, y10), (11, y11), (12, y12), (13, y13), (14, y14), (15, y15), (16, y16), (17, y17), (18, y18), (20, y20), (23, y23)] (([] ++ [some [rowsAV rows, AV.i per, AV.i tot, AV.i wth, AV.i balls, stopsAV l, stopsAV m]] ++ [some [AV.i x, AV.i y]])) := by
      intro y0 y2 y6 y7 y8 y9 y10 y11 y12 y13 y14 y15 y16 y17 y18 y20 y23
      refine A_step [3] (by kernel_rfl) (by decide) ?_
      refine A_cons rfl ?_ ?_
      · refine Rq ?_
        exact A_on (nd7_11110000000 _ _ _ _ _ _ _ _ _ _ _ _ _ _ _ _ _) rfl rfl rfl
      exact A_end
    have nd7_10010000000 : ∀ y0 y2 y6 y7 y8 y9 y10 y11 y12 y13 y14 y15 y16 y17 y18 y20 y23 : AV, Ap sig (([] : Heap).length) (opsAt (at' (bodyOf fa8) [0, 1, 1, 1, 1, 1])) (kk8_7 rows per tot wth balls l m n x y y0 y2 y6 y7 y8 y9 y10 y11 y12 y13 y14 y15 y16 y17 y18 y20 y23) 9 #[true, false, false, true, false, false, false, false, false, false, false] [(36, (.agg [rowsAV rows, AV.i per, AV.i tot, AV.i wth, AV.i balls, stopsAV l, stopsAV m])), (37, .any), (38, .any), (39, (.ptr ([] ++ [some [rowsAV rows, AV.i per, AV.i tot, AV.i wth, AV.i balls, stopsAV l, stopsAV m]]).length 0)), (40, .any), (41, .any), (35, .any), (42, .any), (43, .any), (11, y11), (12, y12), (0, y0), (1, AV.i n), (2, y2), (3, (.ptr ([] : Heap).length 0)), (5, (.ptr ([] ++ [some [rowsAV rows, AV.i per, AV.i tot, AV.i wth, AV.i balls, stopsAV l, stopsAV m]]).length 0)), (6, y6), (7, y7), (8, y8), (9, y9), (10, y10), (11, y11), (12, y12), (13, y13), (14, y14), (15, y15), (16, y16), (17, y17), (18, y18), (20, y20), (23, y23)] (([] ++ [some [rowsAV rows, AV.i per, AV.i tot, AV.i wth, AV.i balls, stopsAV l, stopsAV m]] ++ [some [AV.i x, AV.i y]])) := by
      intro y0 y2 y6 y7 y8 y9 y10 y11 y12 y13 y14 y15 y16 y17 y18 y20 y23
      refine A_step [1, 2, 4] (by kernel_rfl) (by decide) ?_
      refine A_cons rfl ?_ ?_
      · refine Rcall ?_
        refine ACall_eq (of_ok _ _ rows per tot wth balls l m) ?_
        exact A_on (nd7_11010000000 _ _ _ _ _ _ _ _ _ _ _ _ _ _ _ _ _) rfl rfl rfl
      refine A_cons rfl ?_ ?_
      · refine Rq ?_
        exact A_on (nd7_10110000000 _ _ _ _ _ _ _ _ _ _ _ _ _ _ _ _ _) rfl rfl rfl
      refine A_cons rfl ?_ ?_
      · refine Rq ?_
        exact A_on (nd7_10011000000 _ _ _ _ _ _ _ _ _ _ _ _ _ _ _ _ _) rfl rfl rfl
      exact A_end
    have nd7_00110000000 : ∀ y0 y2 y6 y7 y8 y9 y10 y11 y12 y13 y14 y15 y16 y17 y18 y20 y23 : AV, Ap sig (([] : Heap).length) (opsAt (at' (bodyOf fa8) [0, 1, 1, 1, 1, 1])) (kk8_7 rows per tot wth balls l m n x y y0 y2 y6 y7 y8 y9 y10 y11 y12 y13 y14 y15 y16 y17 y18 y20 y23) 9 #[false, false, true, true, false, false, false, false, false, false, false] [(36, .any), (37, .any), (38, AV.i n), (39, (.ptr ([] ++ [some [rowsAV rows, AV.i per, AV.i tot, AV.i wth, AV.i balls, stopsAV l, stopsAV m]]).length 0)), (40, .any), (41, .any), (35, .any), (42, .any), (43, .any), (11, y11), (12, y12), (0, y0), (1, AV.i n), (2, y2), (3, (.ptr ([] : Heap).length 0)), (5, (.ptr ([] ++ [some [rowsAV rows, AV.i per, AV.i tot, AV.i wth, AV.i balls, stopsAV l, stopsAV m]]).length 0)), (6, y6), (7, y7), (8, y8), (9, y9), (10, y10), (11, y11), (12, y12), (13, y13), (14, y14), (15, y15), (16, y16), (17, y17), (18, y18), (20, y20), (23, y23)] (([] ++ [some [rowsAV rows, AV.i per, AV.i tot, AV.i wth, AV.i balls, stopsAV l, stopsAV m]] ++ [some [AV.i x, AV.i y]])) := by
      intro y0 y2 y6 y7 y8 y9 y10 y11 y12 y13 y14 y15 y16 y17 y18 y20 y23
      refine A_step [0, 4] (by kernel_rfl) (by decide) ?_
      refine A_cons rfl ?_ ?_
      · refine Rq ?_
        exact A_on (nd7_10110000000 _ _ _ _ _ _ _ _ _ _ _ _ _ _ _ _ _) rfl rfl rfl
      refine A_cons rfl ?_ ?_
      · refine Rq ?_
        exact A_on (nd7_00111000000 _ _ _ _ _ _ _ _ _ _ _ _ _ _ _ _ _) rfl rfl rfl
      exact A_end
    have nd7_00011000000 : ∀ y0 y2 y6 y7 y8 y9 y10 y11 y12 y13 y14 y15 y16 y17 y18 y20 y23 : AV, Ap sig (([] : Heap).length) (opsAt (at' (bodyOf fa8) [0, 1, 1, 1, 1, 1])) (kk8_7 rows per tot wth balls l m n x y y0 y2 y6 y7 y8 y9 y10 y11 y12 y13 y14 y15 y16 y17 y18 y20 y23) 9 #[false, false, false, true, true, false, false, false, false, false, false] [(36, .any), (37, .any), (38, .any), (39, (.ptr ([] ++ [some [rowsAV rows, AV.i per, AV.i tot, AV.i wth, AV.i balls, stopsAV l, stopsAV m]]).length 0)), (40, AV.i x), (41, .any), (35, .any), (42, .any), (43, .any), (11, y11), (12, y12), (0, y0), (1, AV.i n), (2, y2), (3, (.ptr ([] : Heap).length 0)), (5, (.ptr ([] ++ [some [rowsAV rows, AV.i per, AV.i tot, AV.i wth, AV.i balls, stopsAV l, stopsAV m]]).length 0)), (6, y6), (7, y7), (8, y8), (9, y9), (10, y10), (11, y11), (12, y12), (13, y13), (14, y14), (15, y15), (16, y16), (17, y17), (18, y18), (20, y20), (23, y23)] (([] ++ [some [rowsAV rows, AV.i per, AV.i tot, AV.i wth, AV.i balls, stopsAV l, stopsAV m]] ++ [some [AV.i x, AV.i y]])) := by
      intro y0 y2 y6 y7 y8 y9 y10 y11 y12 y13 y14 y15 y16 y17 y18 y20 y23
      refine A_step [0, 2] (by kernel_rfl) (by decide) ?_
      refine A_cons rfl ?_ ?_
      · refine Rq ?_
        exact A_on (nd7_10011000000 _ _ _ _ _ _ _ _ _ _ _ _ _ _ _ _ _) rfl rfl rfl
      refine A_cons rfl ?_ ?_
      · refine Rq ?_
        exact A_on (nd7_00111000000 _ _ _ _ _ _ _ _ _ _ _ _ _ _ _ _ _) rfl rfl rfl
      exact A_end
    have nd7_10100000000 : ∀ y0 y2 y6 y7 y8 y9 y10 y11 y12 y13 y14 y15 y16 y17 y18 y20 y23 : AV, Ap sig (([] : Heap).length) (opsAt (at' (bodyOf fa8) [0, 1, 1, 1, 1, 1])) (kk8_7 rows per tot wth balls l m n x y y0 y2 y6 y7 y8 y9 y10 y11 y12 y13 y14 y15 y16 y17 y18 y20 y23) 9 #[true, false, true, false, false, false, false, false, false, false, false] [(36, (.agg [rowsAV rows, AV.i per, AV.i tot, AV.i wth, AV.i balls, stopsAV l, stopsAV m])), (37, .any), (38, AV.i n), (39, .any), (40, .any), (41, .any), (35, .any), (42, .any), (43, .any), (11, y11), (12, y12), (0, y0), (1, AV.i n), (2, y2), (3, (.ptr ([] : Heap).length 0)), (5, (.ptr ([] ++ [some [rowsAV rows, AV.i per, AV.i tot, AV.i wth, AV.i balls, stopsAV l, stopsAV m]]).length 0)), (6, y6), (7, y7), (8, y8), (9, y9), (10, y10), (11, y11), (12, y12), (13, y13), (14, y14), (15, y15), (16, y16), (17, y17), (18, y18), (20, y20), (23, y23)] (([] ++ [some [rowsAV rows, AV.i per, AV.i tot, AV.i wth, AV.i balls, stopsAV l, stopsAV m]] ++ [some [AV.i x, AV.i y]])) := by
      intro y0 y2 y6 y7 y8 y9 y10 y11 y12 y13 y14 y15 y16 y17 y18 y20 y23
      refine A_step [1, 3] (by kernel_rfl) (by decide) ?_
      refine A_cons rfl ?_ ?_
      · refine Rcall ?_
        refine ACall_eq (of_ok _ _ rows per tot wth balls l m) ?_
        exact A_on (nd7_11100000000 _ _ _ _ _ _ _ _ _ _ _ _ _ _ _ _ _) rfl rfl rfl
      refine A_cons rfl ?_ ?_
      · refine Rq ?_
        exact A_on (nd7_10110000000 _ _ _ _ _ _ _ _ _ _ _ _ _ _ _ _ _) rfl rfl rfl
      exact A_end
    have nd7_11000000000 : ∀ y0 y2 y6 y7 y8 y9 y10 y11 y12 y13 y14 y15 y16 y17 y18 y20 y23 : AV, Ap sig (([] : Heap).length) (opsAt (at' (bodyOf fa8) [0, 1, 1, 1, 1, 1])) (kk8_7 rows per tot wth balls l m n x y y0 y2 y6 y7 y8 y9 y10 y11 y12 y13 y14 y15 y16 y17 y18 y20 y23) 9 #[true, true, false, false, false, false, false, false, false, false, false] [(36, (.agg [rowsAV rows, AV.i per, AV.i tot, AV.i wth, AV.i balls, stopsAV l, stopsAV m])), (37, (.agg [rowsAV rows, AV.i per, AV.i tot, AV.i wth, AV.i balls, stopsAV l, stopsAV m])), (38, .any), (39, .any), (40, .any), (41, .any), (35, .any), (42, .any), (43, .any), (11, y11), (12, y12), (0, y0), (1, AV.i n), (2, y2), (3, (.ptr ([] : Heap).length 0)), (5, (.ptr ([] ++ [some [rowsAV rows, AV.i per, AV.i tot, AV.i wth, AV.i balls, stopsAV l, stopsAV m]]).length 0)), (6, y6), (7, y7), (8, y8), (9, y9), (10, y10), (11, y11), (12, y12), (13, y13), (14, y14), (15, y15), (16, y16), (17, y17), (18, y18), (20, y20), (23, y23)] (([] ++ [some [rowsAV rows, AV.i per, AV.i tot, AV.i wth, AV.i balls, stopsAV l, stopsAV m]] ++ [some [AV.i x, AV.i y]])) := by
      intro y0 y2 y6 y7 y8 y9 y10 y11 y12 y13 y14 y15 y16 y17 y18 y20 y23
      refine A_step [2, 3] (by kernel_rfl) (by decide) ?_
      refine A_cons rfl ?_ ?_
      · refine Rq ?_
        exact A_on (nd7_11100000000 _ _ _ _ _ _ _ _ _ _ _ _ _ _ _ _ _) rfl rfl rfl
      refine A_cons rfl ?_ ?_
      · refine Rq ?_
        exact A_on (nd7_11010000000 _ _ _ _ _ _ _ _ _ _ _ _ _ _ _ _ _) rfl rfl rfl
      exact A_end
    have nd7_10000000000 : ∀ y0 y2 y6 y7 y8 y9 y10 y11 y12 y13 y14 y15 y16 y17 y18 y20 y23 : AV, Ap sig (([] : Heap).length) (opsAt (at' (bodyOf fa8) [0, 1, 1, 1, 1, 1])) (kk8_7 rows per tot wth balls l m n x y y0 y2 y6 y7 y8 y9 y10 y11 y12 y13 y14 y15 y16 y17 y18 y20 y23) 10 #[true, false, false, false, false, false, false, false, false, false, false] [(36, (.agg [rowsAV rows, AV.i per, AV.i tot, AV.i wth, AV.i balls, stopsAV l, stopsAV m])), (37, .any), (38, .any), (39, .any), (40, .any), (41, .any), (35, .any), (42, .any), (43, .any), (11, y11), (12, y12), (0, y0), (1, AV.i n), (2, y2), (3, (.ptr ([] : Heap).length 0)), (5, (.ptr ([] ++ [some [rowsAV rows, AV.i per, AV.i tot, AV.i wth, AV.i balls, stopsAV l, stopsAV m]]).length 0)), (6, y6), (7, y7), (8, y8), (9, y9), (10, y10), (11, y11), (12, y12), (13, y13), (14, y14), (15, y15), (16, y16), (17, y17), (18, y18), (20, y20), (23, y23)] (([] ++ [some [rowsAV rows, AV.i per, AV.i tot, AV.i wth, AV.i balls, stopsAV l, stopsAV m]] ++ [some [AV.i x, AV.i y]])) := by
      intro y0 y2 y6 y7 y8 y9 y10 y11 y12 y13 y14 y15 y16 y17 y18 y20 y23
      refine A_step [1, 2, 3] (by kernel_rfl) (by decide) ?_
      refine A_cons rfl ?_ ?_
      · refine Rcall ?_
        refine ACall_eq (of_ok _ _ rows per tot wth balls l m) ?_
        exact A_on (nd7_11000000000 _ _ _ _ _ _ _ _ _ _ _ _ _ _ _ _ _) rfl rfl rfl
      refine A_cons rfl ?_ ?_
      · refine Rq ?_
        exact A_on (nd7_10100000000 _ _ _ _ _ _ _ _ _ _ _ _ _ _ _ _ _) rfl rfl rfl
      refine A_cons rfl ?_ ?_
      · refine Rq ?_
        exact A_on (nd7_10010000000 _ _ _ _ _ _ _ _ _ _ _ _ _ _ _ _ _) rfl rfl rfl
      exact A_end
    have nd7_00100000000 : ∀ y0 y2 y6 y7 y8 y9 y10 y11 y12 y13 y14 y15 y16 y17 y18 y20 y23 : AV, Ap sig (([] : Heap).length) (opsAt (at' (bodyOf fa8) [0, 1, 1, 1, 1, 1])) (kk8_7 rows per tot wth balls l m n x y y0 y2 y6 y7 y8 y9 y10 y11 y12 y13 y14 y15 y16 y17 y18 y20 y23) 10 #[false, false, true, false, false, false, false, false, false, false, false] [(36, .any), (37, .any), (38, AV.i n), (39, .any), (40, .any), (41, .any), (35, .any), (42, .any), (43, .any), (11, y11), (12, y12), (0, y0), (1, AV.i n), (2, y2), (3, (.ptr ([] : Heap).length 0)), (5, (.ptr ([] ++ [some [rowsAV rows, AV.i per, AV.i tot, AV.i wth, AV.i balls, stopsAV l, stopsAV m]]).length 0)), (6, y6), (7, y7), (8, y8), (9, y9), (10, y10), (11, y11), (12, y12), (13, y13), (14, y14), (15, y15), (16, y16), (17, y17), (18, y18), (20, y20), (23, y23)] (([] ++ [some [rowsAV rows, AV.i per, AV.i tot, AV.i wth, AV.i balls, stopsAV l, stopsAV m]] ++ [some [AV.i x, AV.i y]])) := by
      intro y0 y2 y6 y7 y8 y9 y10 y11 y12 y13 y14 y15 y16 y17 y18 y20 y23
      refine A_step [0, 3] (by kernel_rfl) (by decide) ?_
      refine A_cons rfl ?_ ?_
      · refine Rq ?_
        exact A_on (nd7_10100000000 _ _ _ _ _ _ _ _ _ _ _ _ _ _ _ _ _) rfl rfl rfl
      refine A_cons rfl ?_ ?_
      · refine Rq ?_
        exact A_on (nd7_00110000000 _ _ _ _ _ _ _ _ _ _ _ _ _ _ _ _ _) rfl rfl rfl
      exact A_end
    have nd7_00010000000 : ∀ y0 y2 y6 y7 y8 y9 y10 y11 y12 y13 y14 y15 y16 y17 y18 y20 y23 : AV, Ap sig (([] : Heap).length) (opsAt (at' (bodyOf fa8) [0, 1, 1, 1, 1, 1])) (kk8_7 rows per tot wth balls l m n x y y0 y2 y6 y7 y8 y9 y10 y11 y12 y13 y14 y15 y16 y17 y18 y20 y23) 10 #[false, false, false, true, false, false, false, false, false, false, false] [(36, .any), (37, .any), (38, .any), (39, (.ptr ([] ++ [some [rowsAV rows, AV.i per, AV.i tot, AV.i wth, AV.i balls, stopsAV l, stopsAV m]]).length 0)), (40, .any), (41, .any), (35, .any), (42, .any), (43, .any), (11, y11), (12, y12), (0, y0), (1, AV.i n), (2, y2), (3, (.ptr ([] : Heap).length 0)), (5, (.ptr ([] ++ [some [rowsAV rows, AV.i per, AV.i tot, AV.i wth, AV.i balls, stopsAV l, stopsAV m]]).length 0)), (6, y6), (7, y7), (8, y8), (9, y9), (10, y10), (11, y11), (12, y12), (13, y13), (14, y14), (15, y15), (16, y16), (17, y17), (18, y18), (20, y20), (23, y23)] (([] ++ [some [rowsAV rows, AV.i per, AV.i tot, AV.i wth, AV.i balls, stopsAV l, stopsAV m]] ++ [some [AV.i x, AV.i y]])) := by
      intro y0 y2 y6 y7 y8 y9 y10 y11 y12 y13 y14 y15 y16 y17 y18 y20 y23
      refine A_step [0, 2, 4] (by kernel_rfl) (by decide) ?_
      refine A_cons rfl ?_ ?_
      · refine Rq ?_
        exact A_on (nd7_10010000000 _ _ _ _ _ _ _ _ _ _ _ _ _ _ _ _ _) rfl rfl rfl
      refine A_cons rfl ?_ ?_
      · refine Rq ?_
        exact A_on (nd7_00110000000 _ _ _ _ _ _ _ _ _ _ _ _ _ _ _ _ _) rfl rfl rfl
      refine A_cons rfl ?_ ?_
      · refine Rq ?_
        exact A_on (nd7_00011000000 _ _ _ _ _ _ _ _ _ _ _ _ _ _ _ _ _) rfl rfl rfl
      exact A_end
    have nd7_00000000000 : ∀ y0 y2 y6 y7 y8 y9 y10 y11 y12 y13 y14 y15 y16 y17 y18 y20 y23 : AV, Ap sig (([] : Heap).length) (opsAt (at' (bodyOf fa8) [0, 1, 1, 1, 1, 1])) (kk8_7 rows per tot wth balls l m n x y y0 y2 y6 y7 y8 y9 y10 y11 y12 y13 y14 y15 y16 y17 y18 y20 y23) 11 #[false, false, false, false, false, false, false, false, false, false, false] [(36, .any), (37, .any), (38, .any), (39, .any), (40, .any), (41, .any), (35, .any), (42, .any), (43, .any), (11, y11), (12, y12), (0, y0), (1, AV.i n), (2, y2), (3, (.ptr ([] : Heap).length 0)), (5, (.ptr ([] ++ [some [rowsAV rows, AV.i per, AV.i tot, AV.i wth, AV.i balls, stopsAV l, stopsAV m]]).length 0)), (6, y6), (7, y7), (8, y8), (9, y9), (10, y10), (11, y11), (12, y12), (13, y13), (14, y14), (15, y15), (16, y16), (17, y17), (18, y18), (20, y20), (23, y23)] (([] ++ [some [rowsAV rows, AV.i per, AV.i tot, AV.i wth, AV.i balls, stopsAV l, stopsAV m]] ++ [some [AV.i x, AV.i y]])) := by
      intro y0 y2 y6 y7 y8 y9 y10 y11 y12 y13 y14 y15 y16 y17 y18 y20 y23
      refine A_step [0, 2, 3] (by kernel_rfl) (by decide) ?_
      refine A_cons rfl ?_ ?_
      · refine Rq ?_
        exact A_on (nd7_10000000000 _ _ _ _ _ _ _ _ _ _ _ _ _ _ _ _ _) rfl rfl rfl
      refine A_cons rfl ?_ ?_
      · refine Rq ?_
        exact A_on (nd7_00100000000 _ _ _ _ _ _ _ _ _ _ _ _ _ _ _ _ _) rfl rfl rfl
      refine A_cons rfl ?_ ?_
      · refine Rq ?_
        exact A_on (nd7_00010000000 _ _ _ _ _ _ _ _ _ _ _ _ _ _ _ _ _) rfl rfl rfl
      exact A_end
    have tr : ∀ y0 y2 y6 y7 y8 y9 y10 y11 y12 y13 y14 y15 y16 y17 y18 y20 y23 : AV, trim [(36, (.agg [rowsAV rows, AV.i per, AV.i tot, AV.i wth, AV.i balls, stopsAV l, stopsAV m])), (37, (.agg [rowsAV rows, AV.i per, AV.i tot, AV.i wth, AV.i balls, stopsAV l, stopsAV m])), (38, AV.i n), (39, (.ptr ([] ++ [some [rowsAV rows, AV.i per, AV.i tot, AV.i wth, AV.i balls, stopsAV l, stopsAV m]]).length 0)), (40, AV.i x), (41, (.tup [AV.i (patS rows per tot wth balls l m n x).1, AV.i (patS rows per tot wth balls l m n x).2])), (35, (.tup [AV.i (patS rows per tot wth balls l m n x).1, AV.i (patS rows per tot wth balls l m n x).2])), (42, (AV.i (patS rows per tot wth balls l m n x).1)), (43, (AV.i (patS rows per tot wth balls l m n x).2)), (11, (AV.i (patS rows per tot wth balls l m n x).1)), (12, (AV.i (patS rows per tot wth balls l m n x).2)), (0, y0), (1, AV.i n), (2, y2), (3, (.ptr ([] : Heap).length 0)), (5, (.ptr ([] ++ [some [rowsAV rows, AV.i per, AV.i tot, AV.i wth, AV.i balls, stopsAV l, stopsAV m]]).length 0)), (6, y6), (7, y7), (8, y8), (9, y9), (10, y10), (11, y11), (12, y12), (13, y13), (14, y14), (15, y15), (16, y16), (17, y17), (18, y18), (20, y20), (23, y23)] [(0, y0), (1, AV.i n), (2, y2), (3, (.ptr ([] : Heap).length 0)), (5, (.ptr ([] ++ [some [rowsAV rows, AV.i per, AV.i tot, AV.i wth, AV.i balls, stopsAV l, stopsAV m]]).length 0)), (6, y6), (7, y7), (8, y8), (9, y9), (10, y10), (11, y11), (12, y12), (13, y13), (14, y14), (15, y15), (16, y16), (17, y17), (18, y18), (20, y20), (23, y23)] = [(0, y0), (1, AV.i n), (2, y2), (3, (.ptr ([] : Heap).length 0)), (5, (.ptr ([] ++ [some [rowsAV rows, AV.i per, AV.i tot, AV.i wth, AV.i balls, stopsAV l, stopsAV m]]).length 0)), (6, y6), (7, y7), (8, y8), (9, y9), (10, y10), (11, (AV.i (patS rows per tot wth balls l m n x).1)), (12, (AV.i (patS rows per tot wth balls l m n x).2)), (13, y13), (14, y14), (15, y15), (16, y16), (17, y17), (18, y18), (20, y20), (23, y23)] := fun y0 y2 y6 y7 y8 y9 y10 y11 y12 y13 y14 y15 y16 y17 y18 y20 y23 => rfl
    refine at_mixed rfl rfl rfl rfl rfl (nd7_00000000000 _ _ _ _ _ _ _ _ _ _ _ _ _ _ _ _ _) (tr _ _ _ _ _ _ _ _ _ _ _ _ _ _ _ _ _) ?_; clear tr
    clear nd7_00000000000
    clear nd7_10000000000
    clear nd7_00100000000
    clear nd7_00010000000
    clear nd7_10010000000
    clear nd7_00110000000
    clear nd7_00011000000
    clear nd7_10011000000
    clear nd7_00111000000
    clear nd7_10111000000
    clear nd7_11111000000
    clear nd7_11111100000
    clear nd7_11111110000
    clear nd7_11111111000
    clear nd7_11111110100
    clear nd7_11111111100
    clear nd7_11111111110
    clear nd7_11111111111
    clear nd7_11111111010
    clear nd7_11011000000
    clear nd7_10110000000
    clear nd7_11110000000
    clear nd7_11010000000
    clear nd7_10100000000
    clear nd7_11100000000
    clear nd7_11000000000
    refine then_n ?_
    refine at_seq rfl ?_
    refine rg rfl ?_
    refine Rq ?_
    refine Rq ?_
    refine Rq ?_
    refine Rq ?_
    refine Rcall ?_
    refine ACall_eq (rpat_ok _ _ rows per tot wth balls l m n x) ?_
    refine Rq ?_
    refine Rq ?_
    refine Rq ?_
    refine Rq ?_
    refine Rq ?_
    have tr : ∀ y0 y1 y2 y3 y5 y6 y7 y8 y9 y10 y11 y12 y13 y14 y15 y16 y17 y18 y20 y23 z0 z1 z2 z3 z4 z5 z6 z7 z8 z9 : AV, trim [(14, z9), (13, z8), (51, z7), (50, z6), (44, z5), (49, z4), (48, z3), (47, z2), (46, z1), (45, z0), (0, y0), (1, y1), (2, y2), (3, y3), (5, y5), (6, y6), (7, y7), (8, y8), (9, y9), (10, y10), (11, y11), (12, y12), (13, y13), (14, y14), (15, y15), (16, y16), (17, y17), (18, y18), (20, y20), (23, y23)] [(0, y0), (1, y1), (2, y2), (3, y3), (5, y5), (6, y6), (7, y7), (8, y8), (9, y9), (10, y10), (11, y11), (12, y12), (13, y13), (14, y14), (15, y15), (16, y16), (17, y17), (18, y18), (20, y20), (23, y23)] = [(0, y0), (1, y1), (2, y2), (3, y3), (5, y5), (6, y6), (7, y7), (8, y8), (9, y9), (10, y10), (11, y11), (12, y12), (13, z8), (14, z9), (15, y15), (16, y16), (17, y17), (18, y18), (20, y20), (23, y23)] := fun y0 y1 y2 y3 y5 y6 y7 y8 y9 y10 y11 y12 y13 y14 y15 y16 y17 y18 y20 y23 z0 z1 z2 z3 z4 z5 z6 z7 z8 z9 => rfl
    refine R_nil (tr _ _ _ _ _ _ _ _ _ _ _ _ _ _ _ _ _ _ _ _ _ _ _ _ _ _ _ _ _ _) ?_; clear tr
    refine then_n ?_
    refine at_seq rfl ?_
    have nd9_1111111111111 : ∀ y0 y2 y6 y7 y8 y9 y10 y11 y12 y13 y14 y15 y16 y17 y18 y20 y23 : AV, Ap sig (([] : Heap).length) (opsAt (at' (bodyOf fa8) [0, 1, 1, 1, 1, 1, 1, 1])) (kk8_9 rows per tot wth balls l m n x y y0 y2 y6 y7 y8 y9 y10 y11 y12 y13 y14 y15 y16 y17 y18 y20 y23) 0 #[true, true, true, true, true, true, true, true, true, true, true, true, true] [(53, (.agg [rowsAV rows, AV.i per, AV.i tot, AV.i wth, AV.i balls, stopsAV l, stopsAV m])), (54, (.agg [rowsAV rows, AV.i per, AV.i tot, AV.i wth, AV.i balls, stopsAV l, stopsAV m])), (55, (.ptr ([] ++ [some [rowsAV rows, AV.i per, AV.i tot, AV.i wth, AV.i balls, stopsAV l, stopsAV m]]).length 1)), (56, AV.i y), (57, AV.i n), (58, (.ptr ([] ++ [some [rowsAV rows, AV.i per, AV.i tot, AV.i wth, AV.i balls, stopsAV l, stopsAV m]]).length 0)), (59, AV.i x), (60, (.tup [AV.i (winS rows per tot wth balls l m y n x).1, AV.i (winS rows per tot wth balls l m y n x).2])), (52, (.tup [AV.i (winS rows per tot wth balls l m y n x).1, AV.i (winS rows per tot wth balls l m y n x).2])), (61, (AV.i (winS rows per tot wth balls l m y n x).1)), (62, (AV.i (winS rows per tot wth balls l m y n x).2)), (15, (AV.i (winS rows per tot wth balls l m y n x).1)), (16, (AV.i (winS rows per tot wth balls l m y n x).2)), (0, y0), (1, AV.i n), (2, y2), (3, (.ptr ([] : Heap).length 0)), (5, (.ptr ([] ++ [some [rowsAV rows, AV.i per, AV.i tot, AV.i wth, AV.i balls, stopsAV l, stopsAV m]]).length 0)), (6, y6), (7, y7), (8, y8), (9, y9), (10, y10), (11, y11), (12, y12), (13, y13), (14, y14), (15, y15), (16, y16), (17, y17), (18, y18), (20, y20), (23, y23)] (([] ++ [some [rowsAV rows, AV.i per, AV.i tot, AV.i wth, AV.i balls, stopsAV l, stopsAV m]] ++ [some [AV.i x, AV.i y]])) := by
      intro y0 y2 y6 y7 y8 y9 y10 y11 y12 y13 y14 y15 y16 y17 y18 y20 y23
      exact A_done (by kernel_rfl) ⟨rfl, rfl⟩
    have nd9_1111111111110 : ∀ y0 y2 y6 y7 y8 y9 y10 y11 y12 y13 y14 y15 y16 y17 y18 y20 y23 : AV, Ap sig (([] : Heap).length) (opsAt (at' (bodyOf fa8) [0, 1, 1, 1, 1, 1, 1, 1])) (kk8_9 rows per tot wth balls l m n x y y0 y2 y6 y7 y8 y9 y10 y11 y12 y13 y14 y15 y16 y17 y18 y20 y23) 1 #[true, true, true, true, true, true, true, true, true, true, true, true, false] [(53, (.agg [rowsAV rows, AV.i per, AV.i tot, AV.i wth, AV.i balls, stopsAV l, stopsAV m])), (54, (.agg [rowsAV rows, AV.i per, AV.i tot, AV.i wth, AV.i balls, stopsAV l, stopsAV m])), (55, (.ptr ([] ++ [some [rowsAV rows, AV.i per, AV.i tot, AV.i wth, AV.i balls, stopsAV l, stopsAV m]]).length 1)), (56, AV.i y), (57, AV.i n), (58, (.ptr ([] ++ [some [rowsAV rows, AV.i per, AV.i tot, AV.i wth, AV.i balls, stopsAV l, stopsAV m]]).length 0)), (59, AV.i x), (60, (.tup [AV.i (winS rows per tot wth balls l m y n x).1, AV.i (winS rows per tot wth balls l m y n x).2])), (52, (.tup [AV.i (winS rows per tot wth balls l m y n x).1, AV.i (winS rows per tot wth balls l m y n x).2])), (61, (AV.i (winS rows per tot wth balls l m y n x).1)), (62, (AV.i (winS rows per tot wth balls l m y n x).2)), (15, (AV.i (winS rows per tot wth balls l m y n x).1)), (16, y16), (0, y0), (1, AV.i n), (2, y2), (3, (.ptr ([] : Heap).length 0)), (5, (.ptr ([] ++ [some [rowsAV rows, AV.i per, AV.i tot, AV.i wth, AV.i balls, stopsAV l, stopsAV m]]).length 0)), (6, y6), (7, y7), (8, y8), (9, y9), (10, y10), (11, y11), (12, y12), (13, y13), (14, y14), (15, y15), (16, y16), (17, y17), (18, y18), (20, y20), (23, y23)] (([] ++ [some [rowsAV rows, AV.i per, AV.i tot, AV.i wth, AV.i balls, stopsAV l, stopsAV m]] ++ [some [AV.i x, AV.i y]])) := by
      intro y0 y2 y6 y7 y8 y9 y10 y11 y12 y13 y14 y15 y16 y17 y18 y20 y23
      refine A_step [12] (by kernel_rfl) (by decide) ?_
      refine A_cons rfl ?_ ?_
      · refine Rq ?_
        exact A_on (nd9_1111111111111 _ _ _ _ _ _ _ _ _ _ _ _ _ _ _ _ _) rfl rfl rfl
      exact A_end
    have nd9_1111111111100 : ∀ y0 y2 y6 y7 y8 y9 y10 y11 y12 y13 y14 y15 y16 y17 y18 y20 y23 : AV, Ap sig (([] : Heap).length) (opsAt (at' (bodyOf fa8) [0, 1, 1, 1, 1, 1, 1, 1])) (kk8_9 rows per tot wth balls l m n x y y0 y2 y6 y7 y8 y9 y10 y11 y12 y13 y14 y15 y16 y17 y18 y20 y23) 2 #[true, true, true, true, true, true, true, true, true, true, true, false, false] [(53, (.agg [rowsAV rows, AV.i per, AV.i tot, AV.i wth, AV.i balls, stopsAV l, stopsAV m])), (54, (.agg [rowsAV rows, AV.i per, AV.i tot, AV.i wth, AV.i balls, stopsAV l, stopsAV m])), (55, (.ptr ([] ++ [some [rowsAV rows, AV.i per, AV.i tot, AV.i wth, AV.i balls, stopsAV l, stopsAV m]]).length 1)), (56, AV.i y), (57, AV.i n), (58, (.ptr ([] ++ [some [rowsAV rows, AV.i per, AV.i tot, AV.i wth, AV.i balls, stopsAV l, stopsAV m]]).length 0)), (59, AV.i x), (60, (.tup [AV.i (winS rows per tot wth balls l m y n x).1, AV.i (winS rows per tot wth balls l m y n x).2])), (52, (.tup [AV.i (winS rows per tot wth balls l m y n x).1, AV.i (winS rows per tot wth balls l m y n x).2])), (61, (AV.i (winS rows per tot wth balls l m y n x).1)), (62, (AV.i (winS rows per tot wth balls l m y n x).2)), (15, y15), (16, y16), (0, y0), (1, AV.i n), (2, y2), (3, (.ptr ([] : Heap).length 0)), (5, (.ptr ([] ++ [some [rowsAV rows, AV.i per, AV.i tot, AV.i wth, AV.i balls, stopsAV l, stopsAV m]]).length 0)), (6, y6), (7, y7), (8, y8), (9, y9), (10, y10), (11, y11), (12, y12), (13, y13), (14, y14), (15, y15), (16, y16), (17, y17), (18, y18), (20, y20), (23, y23)] (([] ++ [some [rowsAV rows, AV.i per, AV.i tot, AV.i wth, AV.i balls, stopsAV l, stopsAV m]] ++ [some [AV.i x, AV.i y]])) := by
      intro y0 y2 y6 y7 y8 y9 y10 y11 y12 y13 y14 y15 y16 y17 y18 y20 y23
      refine A_step [11] (by kernel_rfl) (by decide) ?_
      refine A_cons rfl ?_ ?_
      · refine Rq ?_
        exact A_on (nd9_1111111111110 _ _ _ _ _ _ _ _ _ _ _ _ _ _ _ _ _) rfl rfl rfl
      exact A_end
    have nd9_1111111111010 : ∀ y0 y2 y6 y7 y8 y9 y10 y11 y12 y13 y14 y15 y16 y17 y18 y20 y23 : AV, Ap sig (([] : Heap).length) (opsAt (at' (bodyOf fa8) [0, 1, 1, 1, 1, 1, 1, 1])) (kk8_9 rows per tot wth balls l m n x y y0 y2 y6 y7 y8 y9 y10 y11 y12 y13 y14 y15 y16 y17 y18 y20 y23) 2 #[true, true, true, true, true, true, true, true, true, true, false, true, false] [(53, (.agg [rowsAV rows, AV.i per, AV.i tot, AV.i wth, AV.i balls, stopsAV l, stopsAV m])), (54, (.agg [rowsAV rows, AV.i per, AV.i tot, AV.i wth, AV.i balls, stopsAV l, stopsAV m])), (55, (.ptr ([] ++ [some [rowsAV rows, AV.i per, AV.i tot, AV.i wth, AV.i balls, stopsAV l, stopsAV m]]).length 1)), (56, AV.i y), (57, AV.i n), (58, (.ptr ([] ++ [some [rowsAV rows, AV.i per, AV.i tot, AV.i wth, AV.i balls, stopsAV l, stopsAV m]]).length 0)), (59, AV.i x), (60, (.tup [AV.i (winS rows per tot wth balls l m y n x).1, AV.i (winS rows per tot wth balls l m y n x).2])), (52, (.tup [AV.i (winS rows per tot wth balls l m y n x).1, AV.i (winS rows per tot wth balls l m y n x).2])), (61, (AV.i (winS rows per tot wth balls l m y n x).1)), (62, .any), (15, (AV.i (winS rows per tot wth balls l m y n x).1)), (16, y16), (0, y0), (1, AV.i n), (2, y2), (3, (.ptr ([] : Heap).length 0)), (5, (.ptr ([] ++ [some [rowsAV rows, AV.i per, AV.i tot, AV.i wth, AV.i balls, stopsAV l, stopsAV m]]).length 0)), (6, y6), (7, y7), (8, y8), (9, y9), (10, y10), (11, y11), (12, y12), (13, y13), (14, y14), (15, y15), (16, y16), (17, y17), (18, y18), (20, y20), (23, y23)] (([] ++ [some [rowsAV rows, AV.i per, AV.i tot, AV.i wth, AV.i balls, stopsAV l, stopsAV m]] ++ [some [AV.i x, AV.i y]])) := by
      intro y0 y2 y6 y7 y8 y9 y10 y11 y12 y13 y14 y15 y16 y17 y18 y20 y23
      refine A_step [10] (by kernel_rfl) (by decide) ?_
      refine A_cons rfl ?_ ?_
      · refine Rq ?_
        exact A_on (nd9_1111111111110 _ _ _ _ _ _ _ _ _ _ _ _ _ _ _ _ _) rfl rfl rfl
      exact A_end
    have nd9_1111111111000 : ∀ y0 y2 y6 y7 y8 y9 y10 y11 y12 y13 y14 y15 y16 y17 y18 y20 y23 : AV, Ap sig (([] : Heap).length) (opsAt (at' (bodyOf fa8) [0, 1, 1, 1, 1, 1, 1, 1])) (kk8_9 rows per tot wth balls l m n x y y0 y2 y6 y7 y8 y9 y10 y11 y12 y13 y14 y15 y16 y17 y18 y20 y23) 3 #[true, true, true, true, true, true, true, true, true, true, false, false, false] [(53, (.agg [rowsAV rows, AV.i per, AV.i tot, AV.i wth, AV.i balls, stopsAV l, stopsAV m])), (54, (.agg [rowsAV rows, AV.i per, AV.i tot, AV.i wth, AV.i balls, stopsAV l, stopsAV m])), (55, (.ptr ([] ++ [some [rowsAV rows, AV.i per, AV.i tot, AV.i wth, AV.i balls, stopsAV l, stopsAV m]]).length 1)), (56, AV.i y), (57, AV.i n), (58, (.ptr ([] ++ [some [rowsAV rows, AV.i per, AV.i tot, AV.i wth, AV.i balls, stopsAV l, stopsAV m]]).length 0)), (59, AV.i x), (60, (.tup [AV.i (winS rows per tot wth balls l m y n x).1, AV.i (winS rows per tot wth balls l m y n x).2])), (52, (.tup [AV.i (winS rows per tot wth balls l m y n x).1, AV.i (winS rows per tot wth balls l m y n x).2])), (61, (AV.i (winS rows per tot wth balls l m y n x).1)), (62, .any), (15, y15), (16, y16), (0, y0), (1, AV.i n), (2, y2), (3, (.ptr ([] : Heap).length 0)), (5, (.ptr ([] ++ [some [rowsAV rows, AV.i per, AV.i tot, AV.i wth, AV.i balls, stopsAV l, stopsAV m]]).length 0)), (6, y6), (7, y7), (8, y8), (9, y9), (10, y10), (11, y11), (12, y12), (13, y13), (14, y14), (15, y15), (16, y16), (17, y17), (18, y18), (20, y20), (23, y23)] (([] ++ [some [rowsAV rows, AV.i per, AV.i tot, AV.i wth, AV.i balls, stopsAV l, stopsAV m]] ++ [some [AV.i x, AV.i y]])) := by
      intro y0 y2 y6 y7 y8 y9 y10 y11 y12 y13 y14 y15 y16 y17 y18 y20 y23
      refine A_step [10, 11] (by kernel_rfl) (by decide) ?_
      refine A_cons rfl ?_ ?_
      · refine Rq ?_
        exact A_on (nd9_1111111111100 _ _ _ _ _ _ _ _ _ _ _ _ _ _ _ _ _) rfl rfl rfl
      refine A_cons rfl ?_ ?_
      · refine Rq ?_
        exact A_on (nd9_1111111111010 _ _ _ _ _ _ _ _ _ _ _ _ _ _ _ _ _) rfl rfl rfl
      exact A_end
    have nd9_1111111110100 : ∀ y0 y2 y6 y7 y8 y9 y10 y11 y12 y13 y14 y15 y16 y17 y18 y20 y23 : AV, Ap sig (([] : Heap).length) (opsAt (at' (bodyOf fa8) [0, 1, 1, 1, 1, 1, 1, 1])) (kk8_9 rows per tot wth balls l m n x y y0 y2 y6 y7 y8 y9 y10 y11 y12 y13 y14 y15 y16 y17 y18 y20 y23) 3 #[true, true, true, true, true, true, true, true, true, false, true, false, false] [(53, (.agg [rowsAV rows, AV.i per, AV.i tot, AV.i wth, AV.i balls, stopsAV l, stopsAV m])), (54, (.agg [rowsAV rows, AV.i per, AV.i tot, AV.i wth, AV.i balls, stopsAV l, stopsAV m])), (55, (.ptr ([] ++ [some [rowsAV rows, AV.i per, AV.i tot, AV.i wth, AV.i balls, stopsAV l, stopsAV m]]).length 1)), (56, AV.i y), (57, AV.i n), (58, (.ptr ([] ++ [some [rowsAV rows, AV.i per, AV.i tot, AV.i wth, AV.i balls, stopsAV l, stopsAV m]]).length 0)), (59, AV.i x), (60, (.tup [AV.i (winS rows per tot wth balls l m y n x).1, AV.i (winS rows per tot wth balls l m y n x).2])), (52, (.tup [AV.i (winS rows per tot wth balls l m y n x).1, AV.i (winS rows per tot wth balls l m y n x).2])), (61, .any), (62, (AV.i (winS rows per tot wth balls l m y n x).2)), (15, y15), (16, y16), (0, y0), (1, AV.i n), (2, y2), (3, (.ptr ([] : Heap).length 0)), (5, (.ptr ([] ++ [some [rowsAV rows, AV.i per, AV.i tot, AV.i wth, AV.i balls, stopsAV l, stopsAV m]]).length 0)), (6, y6), (7, y7), (8, y8), (9, y9), (10, y10), (11, y11), (12, y12), (13, y13), (14, y14), (15, y15), (16, y16), (17, y17), (18, y18), (20, y20), (23, y23)] (([] ++ [some [rowsAV rows, AV.i per, AV.i tot, AV.i wth, AV.i balls, stopsAV l, stopsAV m]] ++ [some [AV.i x, AV.i y]])) := by
      intro y0 y2 y6 y7 y8 y9 y10 y11 y12 y13 y14 y15 y16 y17 y18 y20 y23
      refine A_step [9] (by kernel_rfl) (by decide) ?_
      refine A_cons rfl ?_ ?_
      · refine Rq ?_
        exact A_on (nd9_1111111111100 _ _ _ _ _ _ _ _ _ _ _ _ _ _ _ _ _) rfl rfl rfl
      exact A_end
    have nd9_1111111110000 : ∀ y0 y2 y6 y7 y8 y9 y10 y11 y12 y13 y14 y15 y16 y17 y18 y20 y23 : AV, Ap sig (([] : Heap).length) (opsAt (at' (bodyOf fa8) [0, 1, 1, 1, 1, 1, 1, 1])) (kk8_9 rows per tot wth balls l m n x y y0 y2 y6 y7 y8 y9 y10 y11 y12 y13 y14 y15 y16 y17 y18 y20 y23) 4 #[true, true, true, true, true, true, true, true, true, false, false, false, false] [(53, (.agg [rowsAV rows, AV.i per, AV.i tot, AV.i wth, AV.i balls, stopsAV l, stopsAV m])), (54, (.agg [rowsAV rows, AV.i per, AV.i tot, AV.i wth, AV.i balls, stopsAV l, stopsAV m])), (55, (.ptr ([] ++ [some [rowsAV rows, AV.i per, AV.i tot, AV.i wth, AV.i balls, stopsAV l, stopsAV m]]).length 1)), (56, AV.i y), (57, AV.i n), (58, (.ptr ([] ++ [some [rowsAV rows, AV.i per, AV.i tot, AV.i wth, AV.i balls, stopsAV l, stopsAV m]]).length 0)), (59, AV.i x), (60, (.tup [AV.i (winS rows per tot wth balls l m y n x).1, AV.i (winS rows per tot wth balls l m y n x).2])), (52, (.tup [AV.i (winS rows per tot wth balls l m y n x).1, AV.i (winS rows per tot wth balls l m y n x).2])), (61, .any), (62, .any), (15, y15), (16, y16), (0, y0), (1, AV.i n), (2, y2), (3, (.ptr ([] : Heap).length 0)), (5, (.ptr ([] ++ [some [rowsAV rows, AV.i per, AV.i tot, AV.i wth, AV.i balls, stopsAV l, stopsAV m]]).length 0)), (6, y6), (7, y7), (8, y8), (9, y9), (10, y10), (11, y11), (12, y12), (13, y13), (14, y14), (15, y15), (16, y16), (17, y17), (18, y18), (20, y20), (23, y23)] (([] ++ [some [rowsAV rows, AV.i per, AV.i tot, AV.i wth, AV.i balls, stopsAV l, stopsAV m]] ++ [some [AV.i x, AV.i y]])) := by
      intro y0 y2 y6 y7 y8 y9 y10 y11 y12 y13 y14 y15 y16 y17 y18 y20 y23
      refine A_step [9, 10] (by kernel_rfl) (by decide) ?_
      refine A_cons rfl ?_ ?_
      · refine Rq ?_
        exact A_on (nd9_1111111111000 _ _ _ _ _ _ _ _ _ _ _ _ _ _ _ _ _) rfl rfl rfl
      refine A_cons rfl ?_ ?_
      · refine Rq ?_
        exact A_on (nd9_1111111110100 _ _ _ _ _ _ _ _ _ _ _ _ _ _ _ _ _) rfl rfl rfl
      exact A_end
    have nd9_1111111100000 : ∀ y0 y2 y6 y7 y8 y9 y10 y11 y12 y13 y14 y15 y16 y17 y18 y20 y23 : AV, Ap sig (([] : Heap).length) (opsAt (at' (bodyOf fa8) [0, 1, 1, 1, 1, 1, 1, 1])) (kk8_9 rows per tot wth balls l m n x y y0 y2 y6 y7 y8 y9 y10 y11 y12 y13 y14 y15 y16 y17 y18 y20 y23) 5 #[true, true, true, true, true, true, true, true, false, false, false, false, false] [(53, (.agg [rowsAV rows, AV.i per, AV.i tot, AV.i wth, AV.i balls, stopsAV l, stopsAV m])), (54, (.agg [rowsAV rows, AV.i per, AV.i tot, AV.i wth, AV.i balls, stopsAV l, stopsAV m])), (55, (.ptr ([] ++ [some [rowsAV rows, AV.i per, AV.i tot, AV.i wth, AV.i balls, stopsAV l, stopsAV m]]).length 1)), (56, AV.i y), (57, AV.i n), (58, (.ptr ([] ++ [some [rowsAV rows, AV.i per, AV.i tot, AV.i wth, AV.i balls, stopsAV l, stopsAV m]]).length 0)), (59, AV.i x), (60, (.tup [AV.i (winS rows per tot wth balls l m y n x).1, AV.i (winS rows per tot wth balls l m y n x).2])), (52, .any), (61, .any), (62, .any), (15, y15), (16, y16), (0, y0), (1, AV.i n), (2, y2), (3, (.ptr ([] : Heap).length 0)), (5, (.ptr ([] ++ [some [rowsAV rows, AV.i per, AV.i tot, AV.i wth, AV.i balls, stopsAV l, stopsAV m]]).length 0)), (6, y6), (7, y7), (8, y8), (9, y9), (10, y10), (11, y11), (12, y12), (13, y13), (14, y14), (15, y15), (16, y16), (17, y17), (18, y18), (20, y20), (23, y23)] (([] ++ [some [rowsAV rows, AV.i per, AV.i tot, AV.i wth, AV.i balls, stopsAV l, stopsAV m]] ++ [some [AV.i x, AV.i y]])) := by
      intro y0 y2 y6 y7 y8 y9 y10 y11 y12 y13 y14 y15 y16 y17 y18 y20 y23
      refine A_step [8] (by kernel_rfl) (by decide) ?_
      refine A_cons rfl ?_ ?_
      · refine Rq ?_
        exact A_on (nd9_1111111110000 _ _ _ _ _ _ _ _ _ _ _ _ _ _ _ _ _) rfl rfl rfl
      exact A_end
    have nd9_1111111000000 : ∀ y0 y2 y6 y7 y8 y9 y10 y11 y12 y13 y14 y15 y16 y17 y18 y20 y23 : AV, Ap sig (([] : Heap).length) (opsAt (at' (bodyOf fa8) [0, 1, 1, 1, 1, 1, 1, 1])) (kk8_9 rows per tot wth balls l m n x y y0 y2 y6 y7 y8 y9 y10 y11 y12 y13 y14 y15 y16 y17 y18 y20 y23) 6 #[true, true, true, true, true, true, true, false, false, false, false, false, false] [(53, (.agg [rowsAV rows, AV.i per, AV.i tot, AV.i wth, AV.i balls, stopsAV l, stopsAV m])), (54, (.agg [rowsAV rows, AV.i per, AV.i tot, AV.i wth, AV.i balls, stopsAV l, stopsAV m])), (55, (.ptr ([] ++ [some [rowsAV rows, AV.i per, AV.i tot, AV.i wth, AV.i balls, stopsAV l, stopsAV m]]).length 1)), (56, AV.i y), (57, AV.i n), (58, (.ptr ([] ++ [some [rowsAV rows, AV.i per, AV.i tot, AV.i wth, AV.i balls, stopsAV l, stopsAV m]]).length 0)), (59, AV.i x), (60, .any), (52, .any), (61, .any), (62, .any), (15, y15), (16, y16), (0, y0), (1, AV.i n), (2, y2), (3, (.ptr ([] : Heap).length 0)), (5, (.ptr ([] ++ [some [rowsAV rows, AV.i per, AV.i tot, AV.i wth, AV.i balls, stopsAV l, stopsAV m]]).length 0)), (6, y6), (7, y7), (8, y8), (9, y9), (10, y10), (11, y11), (12, y12), (13, y13), (14, y14), (15, y15), (16, y16), (17, y17), (18, y18), (20, y20), (23, y23)] (([] ++ [some [rowsAV rows, AV.i per, AV.i tot, AV.i wth, AV.i balls, stopsAV l, stopsAV m]] ++ [some [AV.i x, AV.i y]])) := by
      intro y0 y2 y6 y7 y8 y9 y10 y11 y12 y13 y14 y15 y16 y17 y18 y20 y23
      refine A_step [7] (by kernel_rfl) (by decide) ?_
      refine A_cons rfl ?_ ?_
      · refine Rcall ?_
        refine ACall_eq (win_ok _ _ rows per tot wth balls l m y n x) ?_
        exact A_on (nd9_1111111100000 _ _ _ _ _ _ _ _ _ _ _ _ _ _ _ _ _) rfl rfl rfl
      exact A_end
    have nd9_1011111000000 : ∀ y0 y2 y6 y7 y8 y9 y10 y11 y12 y13 y14 y15 y16 y17 y18 y20 y23 : AV, Ap sig (([] : Heap).length) (opsAt (at' (bodyOf fa8) [0, 1, 1, 1, 1, 1, 1, 1])) (kk8_9 rows per tot wth balls l m n x y y0 y2 y6 y7 y8 y9 y10 y11 y12 y13 y14 y15 y16 y17 y18 y20 y23) 7 #[true, false, true, true, true, true, true, false, false, false, false, false, false] [(53, (.agg [rowsAV rows, AV.i per, AV.i tot, AV.i wth, AV.i balls, stopsAV l, stopsAV m])), (54, .any), (55, (.ptr ([] ++ [some [rowsAV rows, AV.i per, AV.i tot, AV.i wth, AV.i balls, stopsAV l, stopsAV m]]).length 1)), (56, AV.i y), (57, AV.i n), (58, (.ptr ([] ++ [some [rowsAV rows, AV.i per, AV.i tot, AV.i wth, AV.i balls, stopsAV l, stopsAV m]]).length 0)), (59, AV.i x), (60, .any), (52, .any), (61, .any), (62, .any), (15, y15), (16, y16), (0, y0), (1, AV.i n), (2, y2), (3, (.ptr ([] : Heap).length 0)), (5, (.ptr ([] ++ [some [rowsAV rows, AV.i per, AV.i tot, AV.i wth, AV.i balls, stopsAV l, stopsAV m]]).length 0)), (6, y6), (7, y7), (8, y8), (9, y9), (10, y10), (11, y11), (12, y12), (13, y13), (14, y14), (15, y15), (16, y16), (17, y17), (18, y18), (20, y20), (23, y23)] (([] ++ [some [rowsAV rows, AV.i per, AV.i tot, AV.i wth, AV.i balls, stopsAV l, stopsAV m]] ++ [some [AV.i x, AV.i y]])) := by
      intro y0 y2 y6 y7 y8 y9 y10 y11 y12 y13 y14 y15 y16 y17 y18 y20 y23
      refine A_step [1] (by kernel_rfl) (by decide) ?_
      refine A_cons rfl ?_ ?_
      · refine Rcall ?_
        refine ACall_eq (of_ok _ _ rows per tot wth balls l m) ?_
        exact A_on (nd9_1111111000000 _ _ _ _ _ _ _ _ _ _ _ _ _ _ _ _ _) rfl rfl rfl
      exact A_end
    have nd9_1110111000000 : ∀ y0 y2 y6 y7 y8 y9 y10 y11 y12 y13 y14 y15 y16 y17 y18 y20 y23 : AV, Ap sig (([] : Heap).length) (opsAt (at' (bodyOf fa8) [0, 1, 1, 1, 1, 1, 1, 1])) (kk8_9 rows per tot wth balls l m n x y y0 y2 y6 y7 y8 y9 y10 y11 y12 y13 y14 y15 y16 y17 y18 y20 y23) 7 #[true, true, true, false, true, true, true, false, false, false, false, false, false] [(53, (.agg [rowsAV rows, AV.i per, AV.i tot, AV.i wth, AV.i balls, stopsAV l, stopsAV m])), (54, (.agg [rowsAV rows, AV.i per, AV.i tot, AV.i wth, AV.i balls, stopsAV l, stopsAV m])), (55, (.ptr ([] ++ [some [rowsAV rows, AV.i per, AV.i tot, AV.i wth, AV.i balls, stopsAV l, stopsAV m]]).length 1)), (56, .any), (57, AV.i n), (58, (.ptr ([] ++ [some [rowsAV rows, AV.i per, AV.i tot, AV.i wth, AV.i balls, stopsAV l, stopsAV m]]).length 0)), (59, AV.i x), (60, .any), (52, .any), (61, .any), (62, .any), (15, y15), (16, y16), (0, y0), (1, AV.i n), (2, y2), (3, (.ptr ([] : Heap).length 0)), (5, (.ptr ([] ++ [some [rowsAV rows, AV.i per, AV.i tot, AV.i wth, AV.i balls, stopsAV l, stopsAV m]]).length 0)), (6, y6), (7, y7), (8, y8), (9, y9), (10, y10), (11, y11), (12, y12), (13, y13), (14, y14), (15, y15), (16, y16), (17, y17), (18, y18), (20, y20), (23, y23)] (([] ++ [some [rowsAV rows, AV.i per, AV.i tot, AV.i wth, AV.i balls, stopsAV l, stopsAV m]] ++ [some [AV.i x, AV.i y]])) := by
      intro y0 y2 y6 y7 y8 y9 y10 y11 y12 y13 y14 y15 y16 y17 y18 y20 y23
      refine A_step [3] (by kernel_rfl) (by decide) ?_
      refine A_cons rfl ?_ ?_
      · refine Rq ?_
        exact A_on (nd9_1111111000000 _ _ _ _ _ _ _ _ _ _ _ _ _ _ _ _ _) rfl rfl rfl
      exact A_end
    have nd9_1111011000000 : ∀ y0 y2 y6 y7 y8 y9 y10 y11 y12 y13 y14 y15 y16 y17 y18 y20 y23 : AV, Ap sig (([] : Heap).length) (opsAt (at' (bodyOf fa8) [0, 1, 1, 1, 1, 1, 1, 1])) (kk8_9 rows per tot wth balls l m n x y y0 y2 y6 y7 y8 y9 y10 y11 y12 y13 y14 y15 y16 y17 y18 y20 y23) 7 #[true, true, true, true, false, true, true, false, false, false, false, false, false] [(53, (.agg [rowsAV rows, AV.i per, AV.i tot, AV.i wth, AV.i balls, stopsAV l, stopsAV m])), (54, (.agg [rowsAV rows, AV.i per, AV.i tot, AV.i wth, AV.i balls, stopsAV l, stopsAV m])), (55, (.ptr ([] ++ [some [rowsAV rows, AV.i per, AV.i tot, AV.i wth, AV.i balls, stopsAV l, stopsAV m]]).length 1)), (56, AV.i y), (57, .any), (58, (.ptr ([] ++ [some [rowsAV rows, AV.i per, AV.i tot, AV.i wth, AV.i balls, stopsAV l, stopsAV m]]).length 0)), (59, AV.i x), (60, .any), (52, .any), (61, .any), (62, .any), (15, y15), (16, y16), (0, y0), (1, AV.i n), (2, y2), (3, (.ptr ([] : Heap).length 0)), (5, (.ptr ([] ++ [some [rowsAV rows, AV.i per, AV.i tot, AV.i wth, AV.i balls, stopsAV l, stopsAV m]]).length 0)), (6, y6), (7, y7), (8, y8), (9, y9), (10, y10), (11, y11), (12, y12), (13, y13), (14, y14), (15, y15), (16, y16), (17, y17), (18, y18), (20, y20), (23, y23)] (([] ++ [some [rowsAV rows, AV.i per, AV.i tot, AV.i wth, AV.i balls, stopsAV l, stopsAV m]] ++ [some [AV.i x, AV.i y]])) := by
      intro y0 y2 y6 y7 y8 y9 y10 y11 y12 y13 y14 y15 y16 y17 y18 y20 y23
      refine A_step [4] (by kernel_rfl) (by decide) ?_
      refine A_cons rfl ?_ ?_
      · refine Rq ?_
        exact A_on (nd9_1111111000000 _ _ _ _ _ _ _ _ _ _ _ _ _ _ _ _ _) rfl rfl rfl
      exact A_end
    have nd9_1111110000000 : ∀ y0 y2 y6 y7 y8 y9 y10 y11 y12 y13 y14 y15 y16 y17 y18 y20 y23 : AV, Ap sig (([] : Heap).length) (opsAt (at' (bodyOf fa8) [0, 1, 1, 1, 1, 1, 1, 1])) (kk8_9 rows per tot wth balls l m n x y y0 y2 y6 y7 y8 y9 y10 y11 y12 y13 y14 y15 y16 y17 y18 y20 y23) 7 #[true, true, true, true, true, true, false, false, false, false, false, false, false] [(53, (.agg [rowsAV rows, AV.i per, AV.i tot, AV.i wth, AV.i balls, stopsAV l, stopsAV m])), (54, (.agg [rowsAV rows, AV.i per, AV.i tot, AV.i wth, AV.i balls, stopsAV l, stopsAV m])), (55, (.ptr ([] ++ [some [rowsAV rows, AV.i per, AV.i tot, AV.i wth, AV.i balls, stopsAV l, stopsAV m]]).length 1)), (56, AV.i y), (57, AV.i n), (58, (.ptr ([] ++ [some [rowsAV rows, AV.i per, AV.i tot, AV.i wth, AV.i balls, stopsAV l, stopsAV m]]).length 0)), (59, .any), (60, .any), (52, .any), (61, .any), (62, .any), (15, y15), (16, y16), (0, y0), (1, AV.i n), (2, y2), (3, (.ptr ([] : Heap).length 0)), (5, (.ptr ([] ++ [some [rowsAV rows, AV.i per, AV.i tot, AV.i wth, AV.i balls, stopsAV l, stopsAV m]]).length 0)), (6, y6), (7, y7), (8, y8), (9, y9), (10, y10), (11, y11), (12, y12), (13, y13), (14, y14), (15, y15), (16, y16), (17, y17), (18, y18), (20, y20), (23, y23)] (([] ++ [some [rowsAV rows, AV.i per, AV.i tot, AV.i wth, AV.i balls, stopsAV l, stopsAV m]] ++ [some [AV.i x, AV.i y]])) := by
      intro y0 y2 y6 y7 y8 y9 y10 y11 y12 y13 y14 y15 y16 y17 y18 y20 y23
      refine A_step [6] (by kernel_rfl) (by decide) ?_
      refine A_cons rfl ?_ ?_
      · refine Rq ?_
        exact A_on (nd9_1111111000000 _ _ _ _ _ _ _ _ _ _ _ _ _ _ _ _ _) rfl rfl rfl
      exact A_end
    have nd9_1010111000000 : ∀ y0 y2 y6 y7 y8 y9 y10 y11 y12 y13 y14 y15 y16 y17 y18 y20 y23 : AV, Ap sig (([] : Heap).length) (opsAt (at' (bodyOf fa8) [0, 1, 1, 1, 1, 1, 1, 1])) (kk8_9 rows per tot wth balls l m n x y y0 y2 y6 y7 y8 y9 y10 y11 y12 y13 y14 y15 y16 y17 y18 y20 y23) 8 #[true, false, true, false, true, true, true, false, false, false, false, false, false] [(53, (.agg [rowsAV rows, AV.i per, AV.i tot, AV.i wth, AV.i balls, stopsAV l, stopsAV m])), (54, .any), (55, (.ptr ([] ++ [some [rowsAV rows, AV.i per, AV.i tot, AV.i wth, AV.i balls, stopsAV l, stopsAV m]]).length 1)), (56, .any), (57, AV.i n), (58, (.ptr ([] ++ [some [rowsAV rows, AV.i per, AV.i tot, AV.i wth, AV.i balls, stopsAV l, stopsAV m]]).length 0)), (59, AV.i x), (60, .any), (52, .any), (61, .any), (62, .any), (15, y15), (16, y16), (0, y0), (1, AV.i n), (2, y2), (3, (.ptr ([] : Heap).length 0)), (5, (.ptr ([] ++ [some [rowsAV rows, AV.i per, AV.i tot, AV.i wth, AV.i balls, stopsAV l, stopsAV m]]).length 0)), (6, y6), (7, y7), (8, y8), (9, y9), (10, y10), (11, y11), (12, y12), (13, y13), (14, y14), (15, y15), (16, y16), (17, y17), (18, y18), (20, y20), (23, y23)] (([] ++ [some [rowsAV rows, AV.i per, AV.i tot, AV.i wth, AV.i balls, stopsAV l, stopsAV m]] ++ [some [AV.i x, AV.i y]])) := by
      intro y0 y2 y6 y7 y8 y9 y10 y11 y12 y13 y14 y15 y16 y17 y18 y20 y23
      refine A_step [1, 3] (by kernel_rfl) (by decide) ?_
      refine A_cons rfl ?_ ?_
      · refine Rcall ?_
        refine ACall_eq (of_ok _ _ rows per tot wth balls l m) ?_
        exact A_on (nd9_1110111000000 _ _ _ _ _ _ _ _ _ _ _ _ _ _ _ _ _) rfl rfl rfl
      refine A_cons rfl ?_ ?_
      · refine Rq ?_
        exact A_on (nd9_1011111000000 _ _ _ _ _ _ _ _ _ _ _ _ _ _ _ _ _) rfl rfl rfl
      exact A_end
    have nd9_0011111000000 : ∀ y0 y2 y6 y7 y8 y9 y10 y11 y12 y13 y14 y15 y16 y17 y18 y20 y23 : AV, Ap sig (([] : Heap).length) (opsAt (at' (bodyOf fa8) [0, 1, 1, 1, 1, 1, 1, 1])) (kk8_9 rows per tot wth balls l m n x y y0 y2 y6 y7 y8 y9 y10 y11 y12 y13 y14 y15 y16 y17 y18 y20 y23) 8 #[false, false, true, true, true, true, true, false, false, false, false, false, false] [(53, .any), (54, .any), (55, (.ptr ([] ++ [some [rowsAV rows, AV.i per, AV.i tot, AV.i wth, AV.i balls, stopsAV l, stopsAV m]]).length 1)), (56, AV.i y), (57, AV.i n), (58, (.ptr ([] ++ [some [rowsAV rows, AV.i per, AV.i tot, AV.i wth, AV.i balls, stopsAV l, stopsAV m]]).length 0)), (59, AV.i x), (60, .any), (52, .any), (61, .any), (62, .any), (15, y15), (16, y16), (0, y0), (1, AV.i n), (2, y2), (3, (.ptr ([] : Heap).length 0)), (5, (.ptr ([] ++ [some [rowsAV rows, AV.i per, AV.i tot, AV.i wth, AV.i balls, stopsAV l, stopsAV m]]).length 0)), (6, y6), (7, y7), (8, y8), (9, y9), (10, y10), (11, y11), (12, y12), (13, y13), (14, y14), (15, y15), (16, y16), (17, y17), (18, y18), (20, y20), (23, y23)] (([] ++ [some [rowsAV rows, AV.i per, AV.i tot, AV.i wth, AV.i balls, stopsAV l, stopsAV m]] ++ [some [AV.i x, AV.i y]])) := by
      intro y0 y2 y6 y7 y8 y9 y10 y11 y12 y13 y14 y15 y16 y17 y18 y20 y23
      refine A_step [0] (by kernel_rfl) (by decide) ?_
      refine A_cons rfl ?_ ?_
      · refine Rq ?_
        exact A_on (nd9_1011111000000 _ _ _ _ _ _ _ _ _ _ _ _ _ _ _ _ _) rfl rfl rfl
      exact A_end
    have nd9_1100111000000 : ∀ y0 y2 y6 y7 y8 y9 y10 y11 y12 y13 y14 y15 y16 y17 y18 y20 y23 : AV, Ap sig (([] : Heap).length) (opsAt (at' (bodyOf fa8) [0, 1, 1, 1, 1, 1, 1, 1])) (kk8_9 rows per tot wth balls l m n x y y0 y2 y6 y7 y8 y9 y10 y11 y12 y13 y14 y15 y16 y17 y18 y20 y23) 8 #[true, true, false, false, true, true, true, false, false, false, false, false, false] [(53, (.agg [rowsAV rows, AV.i per, AV.i tot, AV.i wth, AV.i balls, stopsAV l, stopsAV m])), (54, (.agg [rowsAV rows, AV.i per, AV.i tot, AV.i wth, AV.i balls, stopsAV l, stopsAV m])), (55, .any), (56, .any), (57, AV.i n), (58, (.ptr ([] ++ [some [rowsAV rows, AV.i per, AV.i tot, AV.i wth, AV.i balls, stopsAV l, stopsAV m]]).length 0)), (59, AV.i x), (60, .any), (52, .any), (61, .any), (62, .any), (15, y15), (16, y16), (0, y0), (1, AV.i n), (2, y2), (3, (.ptr ([] : Heap).length 0)), (5, (.ptr ([] ++ [some [rowsAV rows, AV.i per, AV.i tot, AV.i wth, AV.i balls, stopsAV l, stopsAV m]]).length 0)), (6, y6), (7, y7), (8, y8), (9, y9), (10, y10), (11, y11), (12, y12), (13, y13), (14, y14), (15, y15), (16, y16), (17, y17), (18, y18), (20, y20), (23, y23)] (([] ++ [some [rowsAV rows, AV.i per, AV.i tot, AV.i wth, AV.i balls, stopsAV l, stopsAV m]] ++ [some [AV.i x, AV.i y]])) := by
      intro y0 y2 y6 y7 y8 y9 y10 y11 y12 y13 y14 y15 y16 y17 y18 y20 y23
      refine A_step [2] (by kernel_rfl) (by decide) ?_
      refine A_cons rfl ?_ ?_
      · refine Rq ?_
        exact A_on (nd9_1110111000000 _ _ _ _ _ _ _ _ _ _ _ _ _ _ _ _ _) rfl rfl rfl
      exact A_end
    have nd9_1011011000000 : ∀ y0 y2 y6 y7 y8 y9 y10 y11 y12 y13 y14 y15 y16 y17 y18 y20 y23 : AV, Ap sig (([] : Heap).length) (opsAt (at' (bodyOf fa8) [0, 1, 1, 1, 1, 1, 1, 1])) (kk8_9 rows per tot wth balls l m n x y y0 y2 y6 y7 y8 y9 y10 y11 y12 y13 y14 y15 y16 y17 y18 y20 y23) 8 #[true, false, true, true, false, true, true, false, false, false, false, false, false] [(53, (.agg [rowsAV rows, AV.i per, AV.i tot, AV.i wth, AV.i balls, stopsAV l, stopsAV m])), (54, .any), (55, (.ptr ([] ++ [some [rowsAV rows, AV.i per, AV.i tot, AV.i wth, AV.i balls, stopsAV l, stopsAV m]]).length 1)), (56, AV.i y), (57, .any), (58, (.ptr ([] ++ [some [rowsAV rows, AV.i per, AV.i tot, AV.i wth, AV.i balls, stopsAV l, stopsAV m]]).length 0)), (59, AV.i x), (60, .any), (52, .any), (61, .any), (62, .any), (15, y15), (16, y16), (0, y0), (1, AV.i n), (2, y2), (3, (.ptr ([] : Heap).length 0)), (5, (.ptr ([] ++ [some [rowsAV rows, AV.i per, AV.i tot, AV.i wth, AV.i balls, stopsAV l, stopsAV m]]).length 0)), (6, y6), (7, y7), (8, y8), (9, y9), (10, y10), (11, y11), (12, y12), (13, y13), (14, y14), (15, y15), (16, y16), (17, y17), (18, y18), (20, y20), (23, y23)] (([] ++ [some [rowsAV rows, AV.i per, AV.i tot, AV.i wth, AV.i balls, stopsAV l, stopsAV m]] ++ [some [AV.i x, AV.i y]])) := by
      intro y0 y2 y6 y7 y8 y9 y10 y11 y12 y13 y14 y15 y16 y17 y18 y20 y23
      refine A_step [1, 4] (by kernel_rfl) (by decide) ?_
      refine A_cons rfl ?_ ?_
      · refine Rcall ?_
        refine ACall_eq (of_ok _ _ rows per tot wth balls l m) ?_
        exact A_on (nd9_1111011000000 _ _ _ _ _ _ _ _ _ _ _ _ _ _ _ _ _) rfl rfl rfl
      refine A_cons rfl ?_ ?_
      · refine Rq ?_
        exact A_on (nd9_1011111000000 _ _ _ _ _ _ _ _ _ _ _ _ _ _ _ _ _) rfl rfl rfl
      exact A_end
    have nd9_1110011000000 : ∀ y0 y2 y6 y7 y8 y9 y10 y11 y12 y13 y14 y15 y16 y17 y18 y20 y23 : AV, Ap sig (([] : Heap).length) (opsAt (at' (bodyOf fa8) [0, 1, 1, 1, 1, 1, 1, 1])) (kk8_9 rows per tot wth balls l m n x y y0 y2 y6 y7 y8 y9 y10 y11 y12 y13 y14 y15 y16 y17 y18 y20 y23) 8 #[true, true, true, false, false, true, true, false, false, false, false, false, false] [(53, (.agg [rowsAV rows, AV.i per, AV.i tot, AV.i wth, AV.i balls, stopsAV l, stopsAV m])), (54, (.agg [rowsAV rows, AV.i per, AV.i tot, AV.i wth, AV.i balls, stopsAV l, stopsAV m])), (55, (.ptr ([] ++ [some [rowsAV rows, AV.i per, AV.i tot, AV.i wth, AV.i balls, stopsAV l, stopsAV m]]).length 1)), (56, .any), (57, .any), (58, (.ptr ([] ++ [some [rowsAV rows, AV.i per, AV.i tot, AV.i wth, AV.i balls, stopsAV l, stopsAV m]]).length 0)), (59, AV.i x), (60, .any), (52, .any), (61, .any), (62, .any), (15, y15), (16, y16), (0, y0), (1, AV.i n), (2, y2), (3, (.ptr ([] : Heap).length 0)), (5, (.ptr ([] ++ [some [rowsAV rows, AV.i per, AV.i tot, AV.i wth, AV.i balls, stopsAV l, stopsAV m]]).length 0)), (6, y6), (7, y7), (8, y8), (9, y9), (10, y10), (11, y11), (12, y12), (13, y13), (14, y14), (15, y15), (16, y16), (17, y17), (18, y18), (20, y20), (23, y23)] (([] ++ [some [rowsAV rows, AV.i per, AV.i tot, AV.i wth, AV.i balls, stopsAV l, stopsAV m]] ++ [some [AV.i x, AV.i y]])) := by
      intro y0 y2 y6 y7 y8 y9 y10 y11 y12 y13 y14 y15 y16 y17 y18 y20 y23
      refine A_step [3, 4] (by kernel_rfl) (by decide) ?_
      refine A_cons rfl ?_ ?_
      · refine Rq ?_
        exact A_on (nd9_1111011000000 _ _ _ _ _ _ _ _ _ _ _ _ _ _ _ _ _) rfl rfl rfl
      refine A_cons rfl ?_ ?_
      · refine Rq ?_
        exact A_on (nd9_1110111000000 _ _ _ _ _ _ _ _ _ _ _ _ _ _ _ _ _) rfl rfl rfl
      exact A_end
    have nd9_1011110000000 : ∀ y0 y2 y6 y7 y8 y9 y10 y11 y12 y13 y14 y15 y16 y17 y18 y20 y23 : AV, Ap sig (([] : Heap).length) (opsAt (at' (bodyOf fa8) [0, 1, 1, 1, 1, 1, 1, 1])) (kk8_9 rows per tot wth balls l m n x y y0 y2 y6 y7 y8 y9 y10 y11 y12 y13 y14 y15 y16 y17 y18 y20 y23) 8 #[true, false, true, true, true, true, false, false, false, false, false, false, false] [(53, (.agg [rowsAV rows, AV.i per, AV.i tot, AV.i wth, AV.i balls, stopsAV l, stopsAV m])), (54, .any), (55, (.ptr ([] ++ [some [rowsAV rows, AV.i per, AV.i tot, AV.i wth, AV.i balls, stopsAV l, stopsAV m]]).length 1)), (56, AV.i y), (57, AV.i n), (58, (.ptr ([] ++ [some [rowsAV rows, AV.i per, AV.i tot, AV.i wth, AV.i balls, stopsAV l, stopsAV m]]).length 0)), (59, .any), (60, .any), (52, .any), (61, .any), (62, .any), (15, y15), (16, y16), (0, y0), (1, AV.i n), (2, y2), (3, (.ptr ([] : Heap).length 0)), (5, (.ptr ([] ++ [some [rowsAV rows, AV.i per, AV.i tot, AV.i wth, AV.i balls, stopsAV l, stopsAV m]]).length 0)), (6, y6), (7, y7), (8, y8), (9, y9), (10, y10), (11, y11), (12, y12), (13, y13), (14, y14), (15, y15), (16, y16), (17, y17), (18, y18), (20, y20), (23, y23)] (([] ++ [some [rowsAV rows, AV.i per, AV.i tot, AV.i wth, AV.i balls, stopsAV l, stopsAV m]] ++ [some [AV.i x, AV.i y]])) := by
      intro y0 y2 y6 y7 y8 y9 y10 y11 y12 y13 y14 y15 y16 y17 y18 y20 y23
      refine A_step [1, 6] (by kernel_rfl) (by decide) ?_
      refine A_cons rfl ?_ ?_
      · refine Rcall ?_
        refine ACall_eq (of_ok _ _ rows per tot wth balls l m) ?_
        exact A_on (nd9_1111110000000 _ _ _ _ _ _ _ _ _ _ _ _ _ _ _ _ _) rfl rfl rfl
      refine A_cons rfl ?_ ?_
      · refine Rq ?_
        exact A_on (nd9_1011111000000 _ _ _ _ _ _ _ _ _ _ _ _ _ _ _ _ _) rfl rfl rfl
      exact A_end
    have nd9_1110110000000 : ∀ y0 y2 y6 y7 y8 y9 y10 y11 y12 y13 y14 y15 y16 y17 y18 y20 y23 : AV, Ap sig (([] : Heap).length) (opsAt (at' (bodyOf fa8) [0, 1, 1, 1, 1, 1, 1, 1])) (kk8_9 rows per tot wth balls l m n x y y0 y2 y6 y7 y8 y9 y10 y11 y12 y13 y14 y15 y16 y17 y18 y20 y23) 8 #[true, true, true, false, true, true, false, false, false, false, false, false, false] [(53, (.agg [rowsAV rows, AV.i per, AV.i tot, AV.i wth, AV.i balls, stopsAV l, stopsAV m])), (54, (.agg [rowsAV rows, AV.i per, AV.i tot, AV.i wth, AV.i balls, stopsAV l, stopsAV m])), (55, (.ptr ([] ++ [some [rowsAV rows, AV.i per, AV.i tot, AV.i wth, AV.i balls, stopsAV l, stopsAV m]]).length 1)), (56, .any), (57, AV.i n), (58, (.ptr ([] ++ [some [rowsAV rows, AV.i per, AV.i tot, AV.i wth, AV.i balls, stopsAV l, stopsAV m]]).length 0)), (59, .any), (60, .any), (52, .any), (61, .any), (62, .any), (15, y15), (16, y16), (0, y0), (1, AV.i n), (2, y2), (3, (.ptr ([] : Heap).length 0)), (5, (.ptr ([] ++ [some [rowsAV rows, AV.i per, AV.i tot, AV.i wth, AV.i balls, stopsAV l, stopsAV m]]).length 0)), (6, y6), (7, y7), (8, y8), (9, y9), (10, y10), (11, y11), (12, y12), (13, y13), (14, y14), (15, y15), (16, y16), (17, y17), (18, y18), (20, y20), (23, y23)] (([] ++ [some [rowsAV rows, AV.i per, AV.i tot, AV.i wth, AV.i balls, stopsAV l, stopsAV m]] ++ [some [AV.i x, AV.i y]])) := by
      intro y0 y2 y6 y7 y8 y9 y10 y11 y12 y13 y14 y15 y16 y17 y18 y20 y23
      refine A_step [3, 6] (by kernel_rfl) (by decide) ?_
      refine A_cons rfl ?_ ?_
      · refine Rq ?_
        exact A_on (nd9_1111110000000 _ _ _ _ _ _ _ _ _ _ _ _ _ _ _ _ _) rfl rfl rfl
      refine A_cons rfl ?_ ?_
      · refine Rq ?_
        exact A_on (nd9_1110111000000 _ _ _ _ _ _ _ _ _ _ _ _ _ _ _ _ _) rfl rfl rfl
      exact A_end
    have nd9_1111010000000 : ∀ y0 y2 y6 y7 y8 y9 y10 y11 y12 y13 y14 y15 y16 y17 y18 y20 y23 : AV, Ap sig (([] : Heap).length) (opsAt (at' (bodyOf fa8) [0, 1, 1, 1, 1, 1, 1, 1])) (kk8_9 rows per tot wth balls l m n x y y0 y2 y6 y7 y8 y9 y10 y11 y12 y13 y14 y15 y16 y17 y18 y20 y23) 8 #[true, true, true, true, false, true, false, false, false, false, false, false, false] [(53, (.agg [rowsAV rows, AV.i per, AV.i tot, AV.i wth, AV.i balls, stopsAV l, stopsAV m])), (54, (.agg [rowsAV rows, AV.i per, AV.i tot, AV.i wth, AV.i balls, stopsAV l, stopsAV m])), (55, (.ptr ([] ++ [some [rowsAV rows, AV.i per, AV.i tot, AV.i wth, AV.i balls, stopsAV l, stopsAV m]]).length 1)), (56, AV.i y), (57, .any), (58, (.ptr ([] ++ [some [rowsAV rows, AV.i per, AV.i tot, AV.i wth, AV.i balls, stopsAV l, stopsAV m]]).length 0)), (59, .any), (60, .any), (52, .any), (61, .any), (62, .any), (15, y15), (16, y16), (0, y0), (1, AV.i n), (2, y2), (3, (.ptr ([] : Heap).length 0)), (5, (.ptr ([] ++ [some [rowsAV rows, AV.i per, AV.i tot, AV.i wth, AV.i balls, stopsAV l, stopsAV m]]).length 0)), (6, y6), (7, y7), (8, y8), (9, y9), (10, y10), (11, y11), (12, y12), (13, y13), (14, y14), (15, y15), (16, y16), (17, y17), (18, y18), (20, y20), (23, y23)] (([] ++ [some [rowsAV rows, AV.i per, AV.i tot, AV.i wth, AV.i balls, stopsAV l, stopsAV m]] ++ [some [AV.i x, AV.i y]])) := by
      intro y0 y2 y6 y7 y8 y9 y10 y11 y12 y13 y14 y15 y16 y17 y18 y20 y23
      refine A_step [4, 6] (by kernel_rfl) (by decide) ?_
      refine A_cons rfl ?_ ?_
      · refine Rq ?_
        exact A_on (nd9_1111110000000 _ _ _ _ _ _ _ _ _ _ _ _ _ _ _ _ _) rfl rfl rfl
      refine A_cons rfl ?_ ?_
      · refine Rq ?_
        exact A_on (nd9_1111011000000 _ _ _ _ _ _ _ _ _ _ _ _ _ _ _ _ _) rfl rfl rfl
      exact A_end
    have nd9_1111100000000 : ∀ y0 y2 y6 y7 y8 y9 y10 y11 y12 y13 y14 y15 y16 y17 y18 y20 y23 : AV, Ap sig (([] : Heap).length) (opsAt (at' (bodyOf fa8) [0, 1, 1, 1, 1, 1, 1, 1])) (kk8_9 rows per tot wth balls l m n x y y0 y2 y6 y7 y8 y9 y10 y11 y12 y13 y14 y15 y16 y17 y18 y20 y23) 8 #[true, true, true, true, true, false, false, false, false, false, false, false, false] [(53, (.agg [rowsAV rows, AV.i per, AV.i tot, AV.i wth, AV.i balls, stopsAV l, stopsAV m])), (54, (.agg [rowsAV rows, AV.i per, AV.i tot, AV.i wth, AV.i balls, stopsAV l, stopsAV m])), (55, (.ptr ([] ++ [some [rowsAV rows, AV.i per, AV.i tot, AV.i wth, AV.i balls, stopsAV l, stopsAV m]]).length 1)), (56, AV.i y), (57, AV.i n), (58, .any), (59, .any), (60, .any), (52, .any), (61, .any), (62, .any), (15, y15), (16, y16), (0, y0), (1, AV.i n), (2, y2), (3, (.ptr ([] : Heap).length 0)), (5, (.ptr ([] ++ [some [rowsAV rows, AV.i per, AV.i tot, AV.i wth, AV.i balls, stopsAV l, stopsAV m]]).length 0)), (6, y6), (7, y7), (8, y8), (9, y9), (10, y10), (11, y11), (12, y12), (13, y13), (14, y14), (15, y15), (16, y16), (17, y17), (18, y18), (20, y20), (23, y23)] (([] ++ [some [rowsAV rows, AV.i per, AV.i tot, AV.i wth, AV.i balls, stopsAV l, stopsAV m]] ++ [some [AV.i x, AV.i y]])) := by
      intro y0 y2 y6 y7 y8 y9 y10 y11 y12 y13 y14 y15 y16 y17 y18 y20 y23
      refine A_step [5] (by kernel_rfl) (by decide) ?_
      refine A_cons rfl ?_ ?_
      · refine Rq ?_
        exact A_on (nd9_1111110000000 _ _ _ _ _ _ _ _ _ _ _ _ _ _ _ _ _) rfl rfl rfl
      exact A_end
    have nd9_1000111000000 : ∀ y0 y2 y6 y7 y8 y9 y10 y11 y12 y13 y14 y15 y16 y17 y18 y20 y23 : AV, Ap sig (([] : Heap).length) (opsAt (at' (bodyOf fa8) [0, 1, 1, 1, 1, 1, 1, 1])) (kk8_9 rows per tot wth balls l m n x y y0 y2 y6 y7 y8 y9 y10 y11 y12 y13 y14 y15 y16 y17 y18 y20 y23) 9 #[true, false, false, false, true, true, true, false, false, false, false, false, false] [(53, (.agg [rowsAV rows, AV.i per, AV.i tot, AV.i wth, AV.i balls, stopsAV l, stopsAV m])), (54, .any), (55, .any), (56, .any), (57, AV.i n), (58, (.ptr ([] ++ [some [rowsAV rows, AV.i per, AV.i tot, AV.i wth, AV.i balls, stopsAV l, stopsAV m]]).length 0)), (59, AV.i x), (60, .any), (52, .any), (61, .any), (62, .any), (15, y15), (16, y16), (0, y0), (1, AV.i n), (2, y2), (3, (.ptr ([] : Heap).length 0)), (5, (.ptr ([] ++ [some [rowsAV rows, AV.i per, AV.i tot, AV.i wth, AV.i balls, stopsAV l, stopsAV m]]).length 0)), (6, y6), (7, y7), (8, y8), (9, y9), (10, y10), (11, y11), (12, y12), (13, y13), (14, y14), (15, y15), (16, y16), (17, y17), (18, y18), (20, y20), (23, y23)] (([] ++ [some [rowsAV rows, AV.i per, AV.i tot, AV.i wth, AV.i balls, stopsAV l, stopsAV m]] ++ [some [AV.i x, AV.i y]])) := by
      intro y0 y2 y6 y7 y8 y9 y10 y11 y12 y13 y14 y15 y16 y17 y18 y20 y23
      refine A_step [1, 2] (by kernel_rfl) (by decide) ?_
      refine A_cons rfl ?_ ?_
      · refine Rcall ?_
        refine ACall_eq (of_ok _ _ rows per tot wth balls l m) ?_
        exact A_on (nd9_1100111000000 _ _ _ _ _ _ _ _ _ _ _ _ _ _ _ _ _) rfl rfl rfl
      refine A_cons rfl ?_ ?_
      · refine Rq ?_
        exact A_on (nd9_1010111000000 _ _ _ _ _ _ _ _ _ _ _ _ _ _ _ _ _) rfl rfl rfl
      exact A_end
    have nd9_0010111000000 : ∀ y0 y2 y6 y7 y8 y9 y10 y11 y12 y13 y14 y15 y16 y17 y18 y20 y23 : AV, Ap sig (([] : Heap).length) (opsAt (at' (bodyOf fa8) [0, 1, 1, 1, 1, 1, 1, 1])) (kk8_9 rows per tot wth balls l m n x y y0 y2 y6 y7 y8 y9 y10 y11 y12 y13 y14 y15 y16 y17 y18 y20 y23) 9 #[false, false, true, false, true, true, true, false, false, false, false, false, false] [(53, .any), (54, .any), (55, (.ptr ([] ++ [some [rowsAV rows, AV.i per, AV.i tot, AV.i wth, AV.i balls, stopsAV l, stopsAV m]]).length 1)), (56, .any), (57, AV.i n), (58, (.ptr ([] ++ [some [rowsAV rows, AV.i per, AV.i tot, AV.i wth, AV.i balls, stopsAV l, stopsAV m]]).length 0)), (59, AV.i x), (60, .any), (52, .any), (61, .any), (62, .any), (15, y15), (16, y16), (0, y0), (1, AV.i n), (2, y2), (3, (.ptr ([] : Heap).length 0)), (5, (.ptr ([] ++ [some [rowsAV rows, AV.i per, AV.i tot, AV.i wth, AV.i balls, stopsAV l, stopsAV m]]).length 0)), (6, y6), (7, y7), (8, y8), (9, y9), (10, y10), (11, y11), (12, y12), (13, y13), (14, y14), (15, y15), (16, y16), (17, y17), (18, y18), (20, y20), (23, y23)] (([] ++ [some [rowsAV rows, AV.i per, AV.i tot, AV.i wth, AV.i balls, stopsAV l, stopsAV m]] ++ [some [AV.i x, AV.i y]])) := by
      intro y0 y2 y6 y7 y8 y9 y10 y11 y12 y13 y14 y15 y16 y17 y18 y20 y23
      refine A_step [0, 3] (by kernel_rfl) (by decide) ?_
      refine A_cons rfl ?_ ?_
      · refine Rq ?_
        exact A_on (nd9_1010111000000 _ _ _ _ _ _ _ _ _ _ _ _ _ _ _ _ _) rfl rfl rfl
      refine A_cons rfl ?_ ?_
      · refine Rq ?_
        exact A_on (nd9_0011111000000 _ _ _ _ _ _ _ _ _ _ _ _ _ _ _ _ _) rfl rfl rfl
      exact A_end
    have nd9_1010011000000 : ∀ y0 y2 y6 y7 y8 y9 y10 y11 y12 y13 y14 y15 y16 y17 y18 y20 y23 : AV, Ap sig (([] : Heap).length) (opsAt (at' (bodyOf fa8) [0, 1, 1, 1, 1, 1, 1, 1])) (kk8_9 rows per tot wth balls l m n x y y0 y2 y6 y7 y8 y9 y10 y11 y12 y13 y14 y15 y16 y17 y18 y20 y23) 9 #[true, false, true, false, false, true, true, false, false, false, false, false, false] [(53, (.agg [rowsAV rows, AV.i per, AV.i tot, AV.i wth, AV.i balls, stopsAV l, stopsAV m])), (54, .any), (55, (.ptr ([] ++ [some [rowsAV rows, AV.i per, AV.i tot, AV.i wth, AV.i balls, stopsAV l, stopsAV m]]).length 1)), (56, .any), (57, .any), (58, (.ptr ([] ++ [some [rowsAV rows, AV.i per, AV.i tot, AV.i wth, AV.i balls, stopsAV l, stopsAV m]]).length 0)), (59, AV.i x), (60, .any), (52, .any), (61, .any), (62, .any), (15, y15), (16, y16), (0, y0), (1, AV.i n), (2, y2), (3, (.ptr ([] : Heap).length 0)), (5, (.ptr ([] ++ [some [rowsAV rows, AV.i per, AV.i tot, AV.i wth, AV.i balls, stopsAV l, stopsAV m]]).length 0)), (6, y6), (7, y7), (8, y8), (9, y9), (10, y10), (11, y11), (12, y12), (13, y13), (14, y14), (15, y15), (16, y16), (17, y17), (18, y18), (20, y20), (23, y23)] (([] ++ [some [rowsAV rows, AV.i per, AV.i tot, AV.i wth, AV.i balls, stopsAV l, stopsAV m]] ++ [some [AV.i x, AV.i y]])) := by
      intro y0 y2 y6 y7 y8 y9 y10 y11 y12 y13 y14 y15 y16 y17 y18 y20 y23
      refine A_step [1, 3, 4] (by kernel_rfl) (by decide) ?_
      refine A_cons rfl ?_ ?_
      · refine Rcall ?_
        refine ACall_eq (of_ok _ _ rows per tot wth balls l m) ?_
        exact A_on (nd9_1110011000000 _ _ _ _ _ _ _ _ _ _ _ _ _ _ _ _ _) rfl rfl rfl
      refine A_cons rfl ?_ ?_
      · refine Rq ?_
        exact A_on (nd9_1011011000000 _ _ _ _ _ _ _ _ _ _ _ _ _ _ _ _ _) rfl rfl rfl
      refine A_cons rfl ?_ ?_
      · refine Rq ?_
        exact A_on (nd9_1010111000000 _ _ _ _ _ _ _ _ _ _ _ _ _ _ _ _ _) rfl rfl rfl
      exact A_end
    have nd9_0011011000000 : ∀ y0 y2 y6 y7 y8 y9 y10 y11 y12 y13 y14 y15 y16 y17 y18 y20 y23 : AV, Ap sig (([] : Heap).length) (opsAt (at' (bodyOf fa8) [0, 1, 1, 1, 1, 1, 1, 1])) (kk8_9 rows per tot wth balls l m n x y y0 y2 y6 y7 y8 y9 y10 y11 y12 y13 y14 y15 y16 y17 y18 y20 y23) 9 #[false, false, true, true, false, true, true, false, false, false, false, false, false] [(53, .any), (54, .any), (55, (.ptr ([] ++ [some [rowsAV rows, AV.i per, AV.i tot, AV.i wth, AV.i balls, stopsAV l, stopsAV m]]).length 1)), (56, AV.i y), (57, .any), (58, (.ptr ([] ++ [some [rowsAV rows, AV.i per, AV.i tot, AV.i wth, AV.i balls, stopsAV l, stopsAV m]]).length 0)), (59, AV.i x), (60, .any), (52, .any), (61, .any), (62, .any), (15, y15), (16, y16), (0, y0), (1, AV.i n), (2, y2), (3, (.ptr ([] : Heap).length 0)), (5, (.ptr ([] ++ [some [rowsAV rows, AV.i per, AV.i tot, AV.i wth, AV.i balls, stopsAV l, stopsAV m]]).length 0)), (6, y6), (7, y7), (8, y8), (9, y9), (10, y10), (11, y11), (12, y12), (13, y13), (14, y14), (15, y15), (16, y16), (17, y17), (18, y18), (20, y20), (23, y23)] (([] ++ [some [rowsAV rows, AV.i per, AV.i tot, AV.i wth, AV.i balls, stopsAV l, stopsAV m]] ++ [some [AV.i x, AV.i y]])) := by
      intro y0 y2 y6 y7 y8 y9 y10 y11 y12 y13 y14 y15 y16 y17 y18 y20 y23
      refine A_step [0, 4] (by kernel_rfl) (by decide) ?_
      refine A_cons rfl ?_ ?_
      · refine Rq ?_
        exact A_on (nd9_1011011000000 _ _ _ _ _ _ _ _ _ _ _ _ _ _ _ _ _) rfl rfl rfl
      refine A_cons rfl ?_ ?_
      · refine Rq ?_
        exact A_on (nd9_0011111000000 _ _ _ _ _ _ _ _ _ _ _ _ _ _ _ _ _) rfl rfl rfl
      exact A_end
    have nd9_1100011000000 : ∀ y0 y2 y6 y7 y8 y9 y10 y11 y12 y13 y14 y15 y16 y17 y18 y20 y23 : AV, Ap sig (([] : Heap).length) (opsAt (at' (bodyOf fa8) [0, 1, 1, 1, 1, 1, 1, 1])) (kk8_9 rows per tot wth balls l m n x y y0 y2 y6 y7 y8 y9 y10 y11 y12 y13 y14 y15 y16 y17 y18 y20 y23) 9 #[true, true, false, false, false, true, true, false, false, false, false, false, false] [(53, (.agg [rowsAV rows, AV.i per, AV.i tot, AV.i wth, AV.i balls, stopsAV l, stopsAV m])), (54, (.agg [rowsAV rows, AV.i per, AV.i tot, AV.i wth, AV.i balls, stopsAV l, stopsAV m])), (55, .any), (56, .any), (57, .any), (58, (.ptr ([] ++ [some [rowsAV rows, AV.i per, AV.i tot, AV.i wth, AV.i balls, stopsAV l, stopsAV m]]).length 0)), (59, AV.i x), (60, .any), (52, .any), (61, .any), (62, .any), (15, y15), (16, y16), (0, y0), (1, AV.i n), (2, y2), (3, (.ptr ([] : Heap).length 0)), (5, (.ptr ([] ++ [some [rowsAV rows, AV.i per, AV.i tot, AV.i wth, AV.i balls, stopsAV l, stopsAV m]]).length 0)), (6, y6), (7, y7), (8, y8), (9, y9), (10, y10), (11, y11), (12, y12), (13, y13), (14, y14), (15, y15), (16, y16), (17, y17), (18, y18), (20, y20), (23, y23)] (([] ++ [some [rowsAV rows, AV.i per, AV.i tot, AV.i wth, AV.i balls, stopsAV l, stopsAV m]] ++ [some [AV.i x, AV.i y]])) := by
      intro y0 y2 y6 y7 y8 y9 y10 y11 y12 y13 y14 y15 y16 y17 y18 y20 y23
      refine A_step [2, 4] (by kernel_rfl) (by decide) ?_
      refine A_cons rfl ?_ ?_
      · refine Rq ?_
        exact A_on (nd9_1110011000000 _ _ _ _ _ _ _ _ _ _ _ _ _ _ _ _ _) rfl rfl rfl
      refine A_cons rfl ?_ ?_
      · refine Rq ?_
        exact A_on (nd9_1100111000000 _ _ _ _ _ _ _ _ _ _ _ _ _ _ _ _ _) rfl rfl rfl
      exact A_end
    have nd9_1010110000000 : ∀ y0 y2 y6 y7 y8 y9 y10 y11 y12 y13 y14 y15 y16 y17 y18 y20 y23 : AV, Ap sig (([] : Heap).length) (opsAt (at' (bodyOf fa8) [0, 1, 1, 1, 1, 1, 1, 1])) (kk8_9 rows per tot wth balls l m n x y y0 y2 y6 y7 y8 y9 y10 y11 y12 y13 y14 y15 y16 y17 y18 y20 y23) 9 #[true, false, true, false, true, true, false, false, false, false, false, false, false] [(53, (.agg [rowsAV rows, AV.i per, AV.i tot, AV.i wth, AV.i balls, stopsAV l, stopsAV m])), (54, .any), (55, (.ptr ([] ++ [some [rowsAV rows, AV.i per, AV.i tot, AV.i wth, AV.i balls, stopsAV l, stopsAV m]]).length 1)), (56, .any), (57, AV.i n), (58, (.ptr ([] ++ [some [rowsAV rows, AV.i per, AV.i tot, AV.i wth, AV.i balls, stopsAV l, stopsAV m]]).length 0)), (59, .any), (60, .any), (52, .any), (61, .any), (62, .any), (15, y15), (16, y16), (0, y0), (1, AV.i n), (2, y2), (3, (.ptr ([] : Heap).length 0)), (5, (.ptr ([] ++ [some [rowsAV rows, AV.i per, AV.i tot, AV.i wth, AV.i balls, stopsAV l, stopsAV m]]).length 0)), (6, y6), (7, y7), (8, y8), (9, y9), (10, y10), (11, y11), (12, y12), (13, y13), (14, y14), (15, y15), (16, y16), (17, y17), (18, y18), (20, y20), (23, y23)] (([] ++ [some [rowsAV rows, AV.i per, AV.i tot, AV.i wth, AV.i balls, stopsAV l, stopsAV m]] ++ [some [AV.i x, AV.i y]])) := by
      intro y0 y2 y6 y7 y8 y9 y10 y11 y12 y13 y14 y15 y16 y17 y18 y20 y23
      refine A_step [1, 3, 6] (by kernel_rfl) (by decide) ?_
      refine A_cons rfl ?_ ?_
      · refine Rcall ?_
        refine ACall_eq (of_ok _ _ rows per tot wth balls l m) ?_
        exact A_on (nd9_1110110000000 _ _ _ _ _ _ _ _ _ _ _ _ _ _ _ _ _) rfl rfl rfl
      refine A_cons rfl ?_ ?_
      · refine Rq ?_
        exact A_on (nd9_1011110000000 _ _ _ _ _ _ _ _ _ _ _ _ _ _ _ _ _) rfl rfl rfl
      refine A_cons rfl ?_ ?_
      · refine Rq ?_
        exact A_on (nd9_1010111000000 _ _ _ _ _ _ _ _ _ _ _ _ _ _ _ _ _) rfl rfl rfl
      exact A_end
    have nd9_0011110000000 : ∀ y0 y2 y6 y7 y8 y9 y10 y11 y12 y13 y14 y15 y16 y17 y18 y20 y23 : AV, Ap sig (([] : Heap).length) (opsAt (at' (bodyOf fa8) [0, 1, 1, 1, 1, 1, 1, 1])) (kk8_9 rows per tot wth balls l m n x y y0 y2 y6 y7 y8 y9 y10 y11 y12 y13 y14 y15 y16 y17 y18 y20 y23) 9 #[false, false, true, true, true, true, false, false, false, false, false, false, false] [(53, .any), (54, .any), (55, (.ptr ([] ++ [some [rowsAV rows, AV.i per, AV.i tot, AV.i wth, AV.i balls, stopsAV l, stopsAV m]]).length 1)), (56, AV.i y), (57, AV.i n), (58, (.ptr ([] ++ [some [rowsAV rows, AV.i per, AV.i tot, AV.i wth, AV.i balls, stopsAV l, stopsAV m]]).length 0)), (59, .any), (60, .any), (52, .any), (61, .any), (62, .any), (15, y15), (16, y16), (0, y0), (1, AV.i n), (2, y2), (3, (.ptr ([] : Heap).length 0)), (5, (.ptr ([] ++ [some [rowsAV rows, AV.i per, AV.i tot, AV.i wth, AV.i balls, stopsAV l, stopsAV m]]).length 0)), (6, y6), (7, y7), (8, y8), (9, y9), (10, y10), (11, y11), (12, y12), (13, y13), (14, y14), (15, y15), (16, y16), (17, y17), (18, y18), (20, y20), (23, y23)] (([] ++ [some [rowsAV rows, AV.i per, AV.i tot, AV.i wth, AV.i balls, stopsAV l, stopsAV m]] ++ [some [AV.i x, AV.i y]])) := by
      intro y0 y2 y6 y7 y8 y9 y10 y11 y12 y13 y14 y15 y16 y17 y18 y20 y23
      refine A_step [0, 6] (by kernel_rfl) (by decide) ?_
      refine A_cons rfl ?_ ?_
      · refine Rq ?_
        exact A_on (nd9_1011110000000 _ _ _ _ _ _ _ _ _ _ _ _ _ _ _ _ _) rfl rfl rfl
      refine A_cons rfl ?_ ?_
      · refine Rq ?_
        exact A_on (nd9_0011111000000 _ _ _ _ _ _ _ _ _ _ _ _ _ _ _ _ _) rfl rfl rfl
      exact A_end
    have nd9_1100110000000 : ∀ y0 y2 y6 y7 y8 y9 y10 y11 y12 y13 y14 y15 y16 y17 y18 y20 y23 : AV, Ap sig (([] : Heap).length) (opsAt (at' (bodyOf fa8) [0, 1, 1, 1, 1, 1, 1, 1])) (kk8_9 rows per tot wth balls l m n x y y0 y2 y6 y7 y8 y9 y10 y11 y12 y13 y14 y15 y16 y17 y18 y20 y23) 9 #[true, true, false, false, true, true, false, false, false, false, false, false, false] [(53, (.agg [rowsAV rows, AV.i per, AV.i tot, AV.i wth, AV.i balls, stopsAV l, stopsAV m])), (54, (.agg [rowsAV rows, AV.i per, AV.i tot, AV.i wth, AV.i balls, stopsAV l, stopsAV m])), (55, .any), (56, .any), (57, AV.i n), (58, (.ptr ([] ++ [some [rowsAV rows, AV.i per, AV.i tot, AV.i wth, AV.i balls, stopsAV l, stopsAV m]]).length 0)), (59, .any), (60, .any), (52, .any), (61, .any), (62, .any), (15, y15), (16, y16), (0, y0), (1, AV.i n), (2, y2), (3, (.ptr ([] : Heap).length 0)), (5, (.ptr ([] ++ [some [rowsAV rows, AV.i per, AV.i tot, AV.i wth, AV.i balls, stopsAV l, stopsAV m]]).length 0)), (6, y6), (7, y7), (8, y8), (9, y9), (10, y10), (11, y11), (12, y12), (13, y13), (14, y14), (15, y15), (16, y16), (17, y17), (18, y18), (20, y20), (23, y23)] (([] ++ [some [rowsAV rows, AV.i per, AV.i tot, AV.i wth, AV.i balls, stopsAV l, stopsAV m]] ++ [some [AV.i x, AV.i y]])) := by
      intro y0 y2 y6 y7 y8 y9 y10 y11 y12 y13 y14 y15 y16 y17 y18 y20 y23
      refine A_step [2, 6] (by kernel_rfl) (by decide) ?_
      refine A_cons rfl ?_ ?_
      · refine Rq ?_
        exact A_on (nd9_1110110000000 _ _ _ _ _ _ _ _ _ _ _ _ _ _ _ _ _) rfl rfl rfl
      refine A_cons rfl ?_ ?_
      · refine Rq ?_
        exact A_on (nd9_1100111000000 _ _ _ _ _ _ _ _ _ _ _ _ _ _ _ _ _) rfl rfl rfl
      exact A_end
    have nd9_1011010000000 : ∀ y0 y2 y6 y7 y8 y9 y10 y11 y12 y13 y14 y15 y16 y17 y18 y20 y23 : AV, Ap sig (([] : Heap).length) (opsAt (at' (bodyOf fa8) [0, 1, 1, 1, 1, 1, 1, 1])) (kk8_9 rows per tot wth balls l m n x y y0 y2 y6 y7 y8 y9 y10 y11 y12 y13 y14 y15 y16 y17 y18 y20 y23) 9 #[true, false, true, true, false, true, false, false, false, false, false, false, false] [(53, (.agg [rowsAV rows, AV.i per, AV.i tot, AV.i wth, AV.i balls, stopsAV l, stopsAV m])), (54, .any), (55, (.ptr ([] ++ [some [rowsAV rows, AV.i per, AV.i tot, AV.i wth, AV.i balls, stopsAV l, stopsAV m]]).length 1)), (56, AV.i y), (57, .any), (58, (.ptr ([] ++ [some [rowsAV rows, AV.i per, AV.i tot, AV.i wth, AV.i balls, stopsAV l, stopsAV m]]).length 0)), (59, .any), (60, .any), (52, .any), (61, .any), (62, .any), (15, y15), (16, y16), (0, y0), (1, AV.i n), (2, y2), (3, (.ptr ([] : Heap).length 0)), (5, (.ptr ([] ++ [some [rowsAV rows, AV.i per, AV.i tot, AV.i wth, AV.i balls, stopsAV l, stopsAV m]]).length 0)), (6, y6), (7, y7), (8, y8), (9, y9), (10, y10), (11, y11), (12, y12), (13, y13), (14, y14), (15, y15), (16, y16), (17, y17), (18, y18), (20, y20), (23, y23)] (([] ++ [some [rowsAV rows, AV.i per, AV.i tot, AV.i wth, AV.i balls, stopsAV l, stopsAV m]] ++ [some [AV.i x, AV.i y]])) := by
      intro y0 y2 y6 y7 y8 y9 y10 y11 y12 y13 y14 y15 y16 y17 y18 y20 y23
      refine A_step [1, 4, 6] (by kernel_rfl) (by decide) ?_
      refine A_cons rfl ?_ ?_
      · refine Rcall ?_
        refine ACall_eq (of_ok _ _ rows per tot wth balls l m) ?_
        exact A_on (nd9_1111010000000 _ _ _ _ _ _ _ _ _ _ _ _ _ _ _ _ _) rfl rfl rfl
      refine A_cons rfl ?_ ?_
      · refine Rq ?_
        exact A_on (nd9_1011110000000 _ _ _ _ _ _ _ _ _ _ _ _ _ _ _ _ _) rfl rfl rfl
      refine A_cons rfl ?_ ?_
      · refine Rq ?_
        exact A_on (nd9_1011011000000 _ _ _ _ _ _ _ _ _ _ _ _ _ _ _ _ _) rfl rfl rfl
      exact A_end
    have nd9_1110010000000 : ∀ y0 y2 y6 y7 y8 y9 y10 y11 y12 y13 y14 y15 y16 y17 y18 y20 y23 : AV, Ap sig (([] : Heap).length) (opsAt (at' (bodyOf fa8) [0, 1, 1, 1, 1, 1, 1, 1])) (kk8_9 rows per tot wth balls l m n x y y0 y2 y6 y7 y8 y9 y10 y11 y12 y13 y14 y15 y16 y17 y18 y20 y23) 9 #[true, true, true, false, false, true, false, false, false, false, false, false, false] [(53, (.agg [rowsAV rows, AV.i per, AV.i tot, AV.i wth, AV.i balls, stopsAV l, stopsAV m])), (54, (.agg [rowsAV rows, AV.i per, AV.i tot, AV.i wth, AV.i balls, stopsAV l, stopsAV m])), (55, (.ptr ([] ++ [some [rowsAV rows, AV.i per, AV.i tot, AV.i wth, AV.i balls, stopsAV l, stopsAV m]]).length 1)), (56, .any), (57, .any), (58, (.ptr ([] ++ [some [rowsAV rows, AV.i per, AV.i tot, AV.i wth, AV.i balls, stopsAV l, stopsAV m]]).length 0)), (59, .any), (60, .any), (52, .any), (61, .any), (62, .any), (15, y15), (16, y16), (0, y0), (1, AV.i n), (2, y2), (3, (.ptr ([] : Heap).length 0)), (5, (.ptr ([] ++ [some [rowsAV rows, AV.i per, AV.i tot, AV.i wth, AV.i balls, stopsAV l, stopsAV m]]).length 0)), (6, y6), (7, y7), (8, y8), (9, y9), (10, y10), (11, y11), (12, y12), (13, y13), (14, y14), (15, y15), (16, y16), (17, y17), (18, y18), (20, y20), (23, y23)] (([] ++ [some [rowsAV rows, AV.i per, AV.i tot, AV.i wth, AV.i balls, stopsAV l, stopsAV m]] ++ [some [AV.i x, AV.i y]])) := by
      intro y0 y2 y6 y7 y8 y9 y10 y11 y12 y13 y14 y15 y16 y17 y18 y20 y23
      refine A_step [3, 4, 6] (by kernel_rfl) (by decide) ?_
      refine A_cons rfl ?_ ?_
      · refine Rq ?_
        exact A_on (nd9_1111010000000 _ _ _ _ _ _ _ _ _ _ _ _ _ _ _ _ _) rfl rfl rfl
      refine A_cons rfl ?_ ?_
      · refine Rq ?_
        exact A_on (nd9_1110110000000 _ _ _ _ _ _ _ _ _ _ _ _ _ _ _ _ _) rfl rfl rfl
      refine A_cons rfl ?_ ?_
      · refine Rq ?_
        exact A_on (nd9_1110011000000 _ _ _ _ _ _ _ _ _ _ _ _ _ _ _ _ _) rfl rfl rfl
      exact A_end
    have nd9_1011100000000 : ∀ y0 y2 y6 y7 y8 y9 y10 y11 y12 y13 y14 y15 y16 y17 y18 y20 y23 : AV, Ap sig (([] : Heap).length) (opsAt (at' (bodyOf fa8) [0, 1, 1, 1, 1, 1, 1, 1])) (kk8_9 rows per tot wth balls l m n x y y0 y2 y6 y7 y8 y9 y10 y11 y12 y13 y14 y15 y16 y17 y18 y20 y23) 9 #[true, false, true, true, true, false, false, false, false, false, false, false, false] [(53, (.agg [rowsAV rows, AV.i per, AV.i tot, AV.i wth, AV.i balls, stopsAV l, stopsAV m])), (54, .any), (55, (.ptr ([] ++ [some [rowsAV rows, AV.i per, AV.i tot, AV.i wth, AV.i balls, stopsAV l, stopsAV m]]).length 1)), (56, AV.i y), (57, AV.i n), (58, .any), (59, .any), (60, .any), (52, .any), (61, .any), (62, .any), (15, y15), (16, y16), (0, y0), (1, AV.i n), (2, y2), (3, (.ptr ([] : Heap).length 0)), (5, (.ptr ([] ++ [some [rowsAV rows, AV.i per, AV.i tot, AV.i wth, AV.i balls, stopsAV l, stopsAV m]]).length 0)), (6, y6), (7, y7), (8, y8), (9, y9), (10, y10), (11, y11), (12, y12), (13, y13), (14, y14), (15, y15), (16, y16), (17, y17), (18, y18), (20, y20), (23, y23)] (([] ++ [some [rowsAV rows, AV.i per, AV.i tot, AV.i wth, AV.i balls, stopsAV l, stopsAV m]] ++ [some [AV.i x, AV.i y]])) := by
      intro y0 y2 y6 y7 y8 y9 y10 y11 y12 y13 y14 y15 y16 y17 y18 y20 y23
      refine A_step [1, 5] (by kernel_rfl) (by decide) ?_
      refine A_cons rfl ?_ ?_
      · refine Rcall ?_
        refine ACall_eq (of_ok _ _ rows per tot wth balls l m) ?_
        exact A_on (nd9_1111100000000 _ _ _ _ _ _ _ _ _ _ _ _ _ _ _ _ _) rfl rfl rfl
      refine A_cons rfl ?_ ?_
      · refine Rq ?_
        exact A_on (nd9_1011110000000 _ _ _ _ _ _ _ _ _ _ _ _ _ _ _ _ _) rfl rfl rfl
      exact A_end
    have nd9_1110100000000 : ∀ y0 y2 y6 y7 y8 y9 y10 y11 y12 y13 y14 y15 y16 y17 y18 y20 y23 : AV, Ap sig (([] : Heap).length) (opsAt (at' (bodyOf fa8) [0, 1, 1, 1, 1, 1, 1, 1])) (kk8_9 rows per tot wth balls l m n x y y0 y2 y6 y7 y8 y9 y10 y11 y12 y13 y14 y15 y16 y17 y18 y20 y23) 9 #[true, true, true, false, true, false, false, false, false, false, false, false, false] [(53, (.agg [rowsAV rows, AV.i per, AV.i tot, AV.i wth, AV.i balls, stopsAV l, stopsAV m])), (54, (.agg [rowsAV rows, AV.i per, AV.i tot, AV.i wth, AV.i balls, stopsAV l, stopsAV m])), (55, (.ptr ([] ++ [some [rowsAV rows, AV.i per, AV.i tot, AV.i wth, AV.i balls, stopsAV l, stopsAV m]]).length 1)), (56, .any), (57, AV.i n), (58, .any), (59, .any), (60, .any), (52, .any), (61, .any), (62, .any), (15, y15), (16, y16), (0, y0), (1, AV.i n), (2, y2), (3, (.ptr ([] : Heap).length 0)), (5, (.ptr ([] ++ [some [rowsAV rows, AV.i per, AV.i tot, AV.i wth, AV.i balls, stopsAV l, stopsAV m]]).length 0)), (6, y6), (7, y7), (8, y8), (9, y9), (10, y10), (11, y11), (12, y12), (13, y13), (14, y14), (15, y15), (16, y16), (17, y17), (18, y18), (20, y20), (23, y23)] (([] ++ [some [rowsAV rows, AV.i per, AV.i tot, AV.i wth, AV.i balls, stopsAV l, stopsAV m]] ++ [some [AV.i x, AV.i y]])) := by
      intro y0 y2 y6 y7 y8 y9 y10 y11 y12 y13 y14 y15 y16 y17 y18 y20 y23
      refine A_step [3, 5] (by kernel_rfl) (by decide) ?_
      refine A_cons rfl ?_ ?_
      · refine Rq ?_
        exact A_on (nd9_1111100000000 _ _ _ _ _ _ _ _ _ _ _ _ _ _ _ _ _) rfl rfl rfl
      refine A_cons rfl ?_ ?_
      · refine Rq ?_
        exact A_on (nd9_1110110000000 _ _ _ _ _ _ _ _ _ _ _ _ _ _ _ _ _) rfl rfl rfl
      exact A_end
    have nd9_1111000000000 : ∀ y0 y2 y6 y7 y8 y9 y10 y11 y12 y13 y14 y15 y16 y17 y18 y20 y23 : AV, Ap sig (([] : Heap).length) (opsAt (at' (bodyOf fa8) [0, 1, 1, 1, 1, 1, 1, 1])) (kk8_9 rows per tot wth balls l m n x y y0 y2 y6 y7 y8 y9 y10 y11 y12 y13 y14 y15 y16 y17 y18 y20 y23) 9 #[true, true, true, true, false, false, false, false, false, false, false, false, false] [(53, (.agg [rowsAV rows, AV.i per, AV.i tot, AV.i wth, AV.i balls, stopsAV l, stopsAV m])), (54, (.agg [rowsAV rows, AV.i per, AV.i tot, AV.i wth, AV.i balls, stopsAV l, stopsAV m])), (55, (.ptr ([] ++ [some [rowsAV rows, AV.i per, AV.i tot, AV.i wth, AV.i balls, stopsAV l, stopsAV m]]).length 1)), (56, AV.i y), (57, .any), (58, .any), (59, .any), (60, .any), (52, .any), (61, .any), (62, .any), (15, y15), (16, y16), (0, y0), (1, AV.i n), (2, y2), (3, (.ptr ([] : Heap).length 0)), (5, (.ptr ([] ++ [some [rowsAV rows, AV.i per, AV.i tot, AV.i wth, AV.i balls, stopsAV l, stopsAV m]]).length 0)), (6, y6), (7, y7), (8, y8), (9, y9), (10, y10), (11, y11), (12, y12), (13, y13), (14, y14), (15, y15), (16, y16), (17, y17), (18, y18), (20, y20), (23, y23)] (([] ++ [some [rowsAV rows, AV.i per, AV.i tot, AV.i wth, AV.i balls, stopsAV l, stopsAV m]] ++ [some [AV.i x, AV.i y]])) := by
      intro y0 y2 y6 y7 y8 y9 y10 y11 y12 y13 y14 y15 y16 y17 y18 y20 y23
      refine A_step [4, 5] (by kernel_rfl) (by decide) ?_
      refine A_cons rfl ?_ ?_
      · refine Rq ?_
        exact A_on (nd9_1111100000000 _ _ _ _ _ _ _ _ _ _ _ _ _ _ _ _ _) rfl rfl rfl
      refine A_cons rfl ?_ ?_
      · refine Rq ?_
        exact A_on (nd9_1111010000000 _ _ _ _ _ _ _ _ _ _ _ _ _ _ _ _ _) rfl rfl rfl
      exact A_end
    have nd9_1000011000000 : ∀ y0 y2 y6 y7 y8 y9 y10 y11 y12 y13 y14 y15 y16 y17 y18 y20 y23 : AV, Ap sig (([] : Heap).length) (opsAt (at' (bodyOf fa8) [0, 1, 1, 1, 1, 1, 1, 1])) (kk8_9 rows per tot wth balls l m n x y y0 y2 y6 y7 y8 y9 y10 y11 y12 y13 y14 y15 y16 y17 y18 y20 y23) 10 #[true, false, false, false, false, true, true, false, false, false, false, false, false] [(53, (.agg [rowsAV rows, AV.i per, AV.i tot, AV.i wth, AV.i balls, stopsAV l, stopsAV m])), (54, .any), (55, .any), (56, .any), (57, .any), (58, (.ptr ([] ++ [some [rowsAV rows, AV.i per, AV.i tot, AV.i wth, AV.i balls, stopsAV l, stopsAV m]]).length 0)), (59, AV.i x), (60, .any), (52, .any), (61, .any), (62, .any), (15, y15), (16, y16), (0, y0), (1, AV.i n), (2, y2), (3, (.ptr ([] : Heap).length 0)), (5, (.ptr ([] ++ [some [rowsAV rows, AV.i per, AV.i tot, AV.i wth, AV.i balls, stopsAV l, stopsAV m]]).length 0)), (6, y6), (7, y7), (8, y8), (9, y9), (10, y10), (11, y11), (12, y12), (13, y13), (14, y14), (15, y15), (16, y16), (17, y17), (18, y18), (20, y20), (23, y23)] (([] ++ [some [rowsAV rows, AV.i per, AV.i tot, AV.i wth, AV.i balls, stopsAV l, stopsAV m]] ++ [some [AV.i x, AV.i y]])) := by
      intro y0 y2 y6 y7 y8 y9 y10 y11 y12 y13 y14 y15 y16 y17 y18 y20 y23
      refine A_step [1, 2, 4] (by kernel_rfl) (by decide) ?_
      refine A_cons rfl ?_ ?_
      · refine Rcall ?_
        refine ACall_eq (of_ok _ _ rows per tot wth balls l m) ?_
        exact A_on (nd9_1100011000000 _ _ _ _ _ _ _ _ _ _ _ _ _ _ _ _ _) rfl rfl rfl
      refine A_cons rfl ?_ ?_
      · refine Rq ?_
        exact A_on (nd9_1010011000000 _ _ _ _ _ _ _ _ _ _ _ _ _ _ _ _ _) rfl rfl rfl
      refine A_cons rfl ?_ ?_
      · refine Rq ?_
        exact A_on (nd9_1000111000000 _ _ _ _ _ _ _ _ _ _ _ _ _ _ _ _ _) rfl rfl rfl
      exact A_end
    have nd9_0010011000000 : ∀ y0 y2 y6 y7 y8 y9 y10 y11 y12 y13 y14 y15 y16 y17 y18 y20 y23 : AV, Ap sig (([] : Heap).length) (opsAt (at' (bodyOf fa8) [0, 1, 1, 1, 1, 1, 1, 1])) (kk8_9 rows per tot wth balls l m n x y y0 y2 y6 y7 y8 y9 y10 y11 y12 y13 y14 y15 y16 y17 y18 y20 y23) 10 #[false, false, true, false, false, true, true, false, false, false, false, false, false] [(53, .any), (54, .any), (55, (.ptr ([] ++ [some [rowsAV rows, AV.i per, AV.i tot, AV.i wth, AV.i balls, stopsAV l, stopsAV m]]).length 1)), (56, .any), (57, .any), (58, (.ptr ([] ++ [some [rowsAV rows, AV.i per, AV.i tot, AV.i wth, AV.i balls, stopsAV l, stopsAV m]]).length 0)), (59, AV.i x), (60, .any), (52, .any), (61, .any), (62, .any), (15, y15), (16, y16), (0, y0), (1, AV.i n), (2, y2), (3, (.ptr ([] : Heap).length 0)), (5, (.ptr ([] ++ [some [rowsAV rows, AV.i per, AV.i tot, AV.i wth, AV.i balls, stopsAV l, stopsAV m]]).length 0)), (6, y6), (7, y7), (8, y8), (9, y9), (10, y10), (11, y11), (12, y12), (13, y13), (14, y14), (15, y15), (16, y16), (17, y17), (18, y18), (20, y20), (23, y23)] (([] ++ [some [rowsAV rows, AV.i per, AV.i tot, AV.i wth, AV.i balls, stopsAV l, stopsAV m]] ++ [some [AV.i x, AV.i y]])) := by
      intro y0 y2 y6 y7 y8 y9 y10 y11 y12 y13 y14 y15 y16 y17 y18 y20 y23
      refine A_step [0, 3, 4] (by kernel_rfl) (by decide) ?_
      refine A_cons rfl ?_ ?_
      · refine Rq ?_
        exact A_on (nd9_1010011000000 _ _ _ _ _ _ _ _ _ _ _ _ _ _ _ _ _) rfl rfl rfl
      refine A_cons rfl ?_ ?_
      · refine Rq ?_
        exact A_on (nd9_0011011000000 _ _ _ _ _ _ _ _ _ _ _ _ _ _ _ _ _) rfl rfl rfl
      refine A_cons rfl ?_ ?_
      · refine Rq ?_
        exact A_on (nd9_0010111000000 _ _ _ _ _ _ _ _ _ _ _ _ _ _ _ _ _) rfl rfl rfl
      exact A_end
    have nd9_0000111000000 : ∀ y0 y2 y6 y7 y8 y9 y10 y11 y12 y13 y14 y15 y16 y17 y18 y20 y23 : AV, Ap sig (([] : Heap).length) (opsAt (at' (bodyOf fa8) [0, 1, 1, 1, 1, 1, 1, 1])) (kk8_9 rows per tot wth balls l m n x y y0 y2 y6 y7 y8 y9 y10 y11 y12 y13 y14 y15 y16 y17 y18 y20 y23) 10 #[false, false, false, false, true, true, true, false, false, false, false, false, false] [(53, .any), (54, .any), (55, .any), (56, .any), (57, AV.i n), (58, (.ptr ([] ++ [some [rowsAV rows, AV.i per, AV.i tot, AV.i wth, AV.i balls, stopsAV l, stopsAV m]]).length 0)), (59, AV.i x), (60, .any), (52, .any), (61, .any), (62, .any), (15, y15), (16, y16), (0, y0), (1, AV.i n), (2, y2), (3, (.ptr ([] : Heap).length 0)), (5, (.ptr ([] ++ [some [rowsAV rows, AV.i per, AV.i tot, AV.i wth, AV.i balls, stopsAV l, stopsAV m]]).length 0)), (6, y6), (7, y7), (8, y8), (9, y9), (10, y10), (11, y11), (12, y12), (13, y13), (14, y14), (15, y15), (16, y16), (17, y17), (18, y18), (20, y20), (23, y23)] (([] ++ [some [rowsAV rows, AV.i per, AV.i tot, AV.i wth, AV.i balls, stopsAV l, stopsAV m]] ++ [some [AV.i x, AV.i y]])) := by
      intro y0 y2 y6 y7 y8 y9 y10 y11 y12 y13 y14 y15 y16 y17 y18 y20 y23
      refine A_step [0, 2] (by kernel_rfl) (by decide) ?_
      refine A_cons rfl ?_ ?_
      · refine Rq ?_
        exact A_on (nd9_1000111000000 _ _ _ _ _ _ _ _ _ _ _ _ _ _ _ _ _) rfl rfl rfl
      refine A_cons rfl ?_ ?_
      · refine Rq ?_
        exact A_on (nd9_0010111000000 _ _ _ _ _ _ _ _ _ _ _ _ _ _ _ _ _) rfl rfl rfl
      exact A_end
    have nd9_1000110000000 : ∀ y0 y2 y6 y7 y8 y9 y10 y11 y12 y13 y14 y15 y16 y17 y18 y20 y23 : AV, Ap sig (([] : Heap).length) (opsAt (at' (bodyOf fa8) [0, 1, 1, 1, 1, 1, 1, 1])) (kk8_9 rows per tot wth balls l m n x y y0 y2 y6 y7 y8 y9 y10 y11 y12 y13 y14 y15 y16 y17 y18 y20 y23) 10 #[true, false, false, false, true, true, false, false, false, false, false, false, false] [(53, (.agg [rowsAV rows, AV.i per, AV.i tot, AV.i wth, AV.i balls, stopsAV l, stopsAV m])), (54, .any), (55, .any), (56, .any), (57, AV.i n), (58, (.ptr ([] ++ [some [rowsAV rows, AV.i per, AV.i tot, AV.i wth, AV.i balls, stopsAV l, stopsAV m]]).length 0)), (59, .any), (60, .any), (52, .any), (61, .any), (62, .any), (15, y15), (16, y16), (0, y0), (1, AV.i n), (2, y2), (3, (.ptr ([] : Heap).length 0)), (5, (.ptr ([] ++ [some [rowsAV rows, AV.i per, AV.i tot, AV.i wth, AV.i balls, stopsAV l, stopsAV m]]).length 0)), (6, y6), (7, y7), (8, y8), (9, y9), (10, y10), (11, y11), (12, y12), (13, y13), (14, y14), (15, y15), (16, y16), (17, y17), (18, y18), (20, y20), (23, y23)] (([] ++ [some [rowsAV rows, AV.i per, AV.i tot, AV.i wth, AV.i balls, stopsAV l, stopsAV m]] ++ [some [AV.i x, AV.i y]])) := by
      intro y0 y2 y6 y7 y8 y9 y10 y11 y12 y13 y14 y15 y16 y17 y18 y20 y23
      refine A_step [1, 2, 6] (by kernel_rfl) (by decide) ?_
      refine A_cons rfl ?_ ?_
      · refine Rcall ?_
        refine ACall_eq (of_ok _ _ rows per tot wth balls l m) ?_
        exact A_on (nd9_1100110000000 _ _ _ _ _ _ _ _ _ _ _ _ _ _ _ _ _) rfl rfl rfl
      refine A_cons rfl ?_ ?_
      · refine Rq ?_
        exact A_on (nd9_1010110000000 _ _ _ _ _ _ _ _ _ _ _ _ _ _ _ _ _) rfl rfl rfl
      refine A_cons rfl ?_ ?_
      · refine Rq ?_
        exact A_on (nd9_1000111000000 _ _ _ _ _ _ _ _ _ _ _ _ _ _ _ _ _) rfl rfl rfl
      exact A_end
    have nd9_0010110000000 : ∀ y0 y2 y6 y7 y8 y9 y10 y11 y12 y13 y14 y15 y16 y17 y18 y20 y23 : AV, Ap sig (([] : Heap).length) (opsAt (at' (bodyOf fa8) [0, 1, 1, 1, 1, 1, 1, 1])) (kk8_9 rows per tot wth balls l m n x y y0 y2 y6 y7 y8 y9 y10 y11 y12 y13 y14 y15 y16 y17 y18 y20 y23) 10 #[false, false, true, false, true, true, false, false, false, false, false, false, false] [(53, .any), (54, .any), (55, (.ptr ([] ++ [some [rowsAV rows, AV.i per, AV.i tot, AV.i wth, AV.i balls, stopsAV l, stopsAV m]]).length 1)), (56, .any), (57, AV.i n), (58, (.ptr ([] ++ [some [rowsAV rows, AV.i per, AV.i tot, AV.i wth, AV.i balls, stopsAV l, stopsAV m]]).length 0)), (59, .any), (60, .any), (52, .any), (61, .any), (62, .any), (15, y15), (16, y16), (0, y0), (1, AV.i n), (2, y2), (3, (.ptr ([] : Heap).length 0)), (5, (.ptr ([] ++ [some [rowsAV rows, AV.i per, AV.i tot, AV.i wth, AV.i balls, stopsAV l, stopsAV m]]).length 0)), (6, y6), (7, y7), (8, y8), (9, y9), (10, y10), (11, y11), (12, y12), (13, y13), (14, y14), (15, y15), (16, y16), (17, y17), (18, y18), (20, y20), (23, y23)] (([] ++ [some [rowsAV rows, AV.i per, AV.i tot, AV.i wth, AV.i balls, stopsAV l, stopsAV m]] ++ [some [AV.i x, AV.i y]])) := by
      intro y0 y2 y6 y7 y8 y9 y10 y11 y12 y13 y14 y15 y16 y17 y18 y20 y23
      refine A_step [0, 3, 6] (by kernel_rfl) (by decide) ?_
      refine A_cons rfl ?_ ?_
      · refine Rq ?_
        exact A_on (nd9_1010110000000 _ _ _ _ _ _ _ _ _ _ _ _ _ _ _ _ _) rfl rfl rfl
      refine A_cons rfl ?_ ?_
      · refine Rq ?_
        exact A_on (nd9_0011110000000 _ _ _ _ _ _ _ _ _ _ _ _ _ _ _ _ _) rfl rfl rfl
      refine A_cons rfl ?_ ?_
      · refine Rq ?_
        exact A_on (nd9_0010111000000 _ _ _ _ _ _ _ _ _ _ _ _ _ _ _ _ _) rfl rfl rfl
      exact A_end
    have nd9_1010010000000 : ∀ y0 y2 y6 y7 y8 y9 y10 y11 y12 y13 y14 y15 y16 y17 y18 y20 y23 : AV, Ap sig (([] : Heap).length) (opsAt (at' (bodyOf fa8) [0, 1, 1, 1, 1, 1, 1, 1])) (kk8_9 rows per tot wth balls l m n x y y0 y2 y6 y7 y8 y9 y10 y11 y12 y13 y14 y15 y16 y17 y18 y20 y23) 10 #[true, false, true, false, false, true, false, false, false, false, false, false, false] [(53, (.agg [rowsAV rows, AV.i per, AV.i tot, AV.i wth, AV.i balls, stopsAV l, stopsAV m])), (54, .any), (55, (.ptr ([] ++ [some [rowsAV rows, AV.i per, AV.i tot, AV.i wth, AV.i balls, stopsAV l, stopsAV m]]).length 1)), (56, .any), (57, .any), (58, (.ptr ([] ++ [some [rowsAV rows, AV.i per, AV.i tot, AV.i wth, AV.i balls, stopsAV l, stopsAV m]]).length 0)), (59, .any), (60, .any), (52, .any), (61, .any), (62, .any), (15, y15), (16, y16), (0, y0), (1, AV.i n), (2, y2), (3, (.ptr ([] : Heap).length 0)), (5, (.ptr ([] ++ [some [rowsAV rows, AV.i per, AV.i tot, AV.i wth, AV.i balls, stopsAV l, stopsAV m]]).length 0)), (6, y6), (7, y7), (8, y8), (9, y9), (10, y10), (11, y11), (12, y12), (13, y13), (14, y14), (15, y15), (16, y16), (17, y17), (18, y18), (20, y20), (23, y23)] (([] ++ [some [rowsAV rows, AV.i per, AV.i tot, AV.i wth, AV.i balls, stopsAV l, stopsAV m]] ++ [some [AV.i x, AV.i y]])) := by
      intro y0 y2 y6 y7 y8 y9 y10 y11 y12 y13 y14 y15 y16 y17 y18 y20 y23
      refine A_step [1, 3, 4, 6] (by kernel_rfl) (by decide) ?_
      refine A_cons rfl ?_ ?_
      · refine Rcall ?_
        refine ACall_eq (of_ok _ _ rows per tot wth balls l m) ?_
        exact A_on (nd9_1110010000000 _ _ _ _ _ _ _ _ _ _ _ _ _ _ _ _ _) rfl rfl rfl
      refine A_cons rfl ?_ ?_
      · refine Rq ?_
        exact A_on (nd9_1011010000000 _ _ _ _ _ _ _ _ _ _ _ _ _ _ _ _ _) rfl rfl rfl
      refine A_cons rfl ?_ ?_
      · refine Rq ?_
        exact A_on (nd9_1010110000000 _ _ _ _ _ _ _ _ _ _ _ _ _ _ _ _ _) rfl rfl rfl
      refine A_cons rfl ?_ ?_
      · refine Rq ?_
        exact A_on (nd9_1010011000000 _ _ _ _ _ _ _ _ _ _ _ _ _ _ _ _ _) rfl rfl rfl
      exact A_end
    have nd9_0011010000000 : ∀ y0 y2 y6 y7 y8 y9 y10 y11 y12 y13 y14 y15 y16 y17 y18 y20 y23 : AV, Ap sig (([] : Heap).length) (opsAt (at' (bodyOf fa8) [0, 1, 1, 1, 1, 1, 1, 1])) (kk8_9 rows per tot wth balls l m n x y y0 y2 y6 y7 y8 y9 y10 y11 y12 y13 y14 y15 y16 y17 y18 y20 y23) 10 #[false, false, true, true, false, true, false, false, false, false, false, false, false] [(53, .any), (54, .any), (55, (.ptr ([] ++ [some [rowsAV rows, AV.i per, AV.i tot, AV.i wth, AV.i balls, stopsAV l, stopsAV m]]).length 1)), (56, AV.i y), (57, .any), (58, (.ptr ([] ++ [some [rowsAV rows, AV.i per, AV.i tot, AV.i wth, AV.i balls, stopsAV l, stopsAV m]]).length 0)), (59, .any), (60, .any), (52, .any), (61, .any), (62, .any), (15, y15), (16, y16), (0, y0), (1, AV.i n), (2, y2), (3, (.ptr ([] : Heap).length 0)), (5, (.ptr ([] ++ [some [rowsAV rows, AV.i per, AV.i tot, AV.i wth, AV.i balls, stopsAV l, stopsAV m]]).length 0)), (6, y6), (7, y7), (8, y8), (9, y9), (10, y10), (11, y11), (12, y12), (13, y13), (14, y14), (15, y15), (16, y16), (17, y17), (18, y18), (20, y20), (23, y23)] (([] ++ [some [rowsAV rows, AV.i per, AV.i tot, AV.i wth, AV.i balls, stopsAV l, stopsAV m]] ++ [some [AV.i x, AV.i y]])) := by
      intro y0 y2 y6 y7 y8 y9 y10 y11 y12 y13 y14 y15 y16 y17 y18 y20 y23
      refine A_step [0, 4, 6] (by kernel_rfl) (by decide) ?_
      refine A_cons rfl ?_ ?_
      · refine Rq ?_
        exact A_on (nd9_1011010000000 _ _ _ _ _ _ _ _ _ _ _ _ _ _ _ _ _) rfl rfl rfl
      refine A_cons rfl ?_ ?_
      · refine Rq ?_
        exact A_on (nd9_0011110000000 _ _ _ _ _ _ _ _ _ _ _ _ _ _ _ _ _) rfl rfl rfl
      refine A_cons rfl ?_ ?_
      · refine Rq ?_
        exact A_on (nd9_0011011000000 _ _ _ _ _ _ _ _ _ _ _ _ _ _ _ _ _) rfl rfl rfl
      exact A_end
    have nd9_1100010000000 : ∀ y0 y2 y6 y7 y8 y9 y10 y11 y12 y13 y14 y15 y16 y17 y18 y20 y23 : AV, Ap sig (([] : Heap).length) (opsAt (at' (bodyOf fa8) [0, 1, 1, 1, 1, 1, 1, 1])) (kk8_9 rows per tot wth balls l m n x y y0 y2 y6 y7 y8 y9 y10 y11 y12 y13 y14 y15 y16 y17 y18 y20 y23) 10 #[true, true, false, false, false, true, false, false, false, false, false, false, false] [(53, (.agg [rowsAV rows, AV.i per, AV.i tot, AV.i wth, AV.i balls, stopsAV l, stopsAV m])), (54, (.agg [rowsAV rows, AV.i per, AV.i tot, AV.i wth, AV.i balls, stopsAV l, stopsAV m])), (55, .any), (56, .any), (57, .any), (58, (.ptr ([] ++ [some [rowsAV rows, AV.i per, AV.i tot, AV.i wth, AV.i balls, stopsAV l, stopsAV m]]).length 0)), (59, .any), (60, .any), (52, .any), (61, .any), (62, .any), (15, y15), (16, y16), (0, y0), (1, AV.i n), (2, y2), (3, (.ptr ([] : Heap).length 0)), (5, (.ptr ([] ++ [some [rowsAV rows, AV.i per, AV.i tot, AV.i wth, AV.i balls, stopsAV l, stopsAV m]]).length 0)), (6, y6), (7, y7), (8, y8), (9, y9), (10, y10), (11, y11), (12, y12), (13, y13), (14, y14), (15, y15), (16, y16), (17, y17), (18, y18), (20, y20), (23, y23)] (([] ++ [some [rowsAV rows, AV.i per, AV.i tot, AV.i wth, AV.i balls, stopsAV l, stopsAV m]] ++ [some [AV.i x, AV.i y]])) := by
      intro y0 y2 y6 y7 y8 y9 y10 y11 y12 y13 y14 y15 y16 y17 y18 y20 y23
      refine A_step [2, 4, 6] (by kernel_rfl) (by decide) ?_
      refine A_cons rfl ?_ ?_
      · refine Rq ?_
        exact A_on (nd9_1110010000000 _ _ _ _ _ _ _ _ _ _ _ _ _ _ _ _ _) rfl rfl rfl
      refine A_cons rfl ?_ ?_
      · refine Rq ?_
        exact A_on (nd9_1100110000000 _ _ _ _ _ _ _ _ _ _ _ _ _ _ _ _ _) rfl rfl rfl
      refine A_cons rfl ?_ ?_
      · refine Rq ?_
        exact A_on (nd9_1100011000000 _ _ _ _ _ _ _ _ _ _ _ _ _ _ _ _ _) rfl rfl rfl
      exact A_end
    have nd9_1010100000000 : ∀ y0 y2 y6 y7 y8 y9 y10 y11 y12 y13 y14 y15 y16 y17 y18 y20 y23 : AV, Ap sig (([] : Heap).length) (opsAt (at' (bodyOf fa8) [0, 1, 1, 1, 1, 1, 1, 1])) (kk8_9 rows per tot wth balls l m n x y y0 y2 y6 y7 y8 y9 y10 y11 y12 y13 y14 y15 y16 y17 y18 y20 y23) 10 #[true, false, true, false, true, false, false, false, false, false, false, false, false] [(53, (.agg [rowsAV rows, AV.i per, AV.i tot, AV.i wth, AV.i balls, stopsAV l, stopsAV m])), (54, .any), (55, (.ptr ([] ++ [some [rowsAV rows, AV.i per, AV.i tot, AV.i wth, AV.i balls, stopsAV l, stopsAV m]]).length 1)), (56, .any), (57, AV.i n), (58, .any), (59, .any), (60, .any), (52, .any), (61, .any), (62, .any), (15, y15), (16, y16), (0, y0), (1, AV.i n), (2, y2), (3, (.ptr ([] : Heap).length 0)), (5, (.ptr ([] ++ [some [rowsAV rows, AV.i per, AV.i tot, AV.i wth, AV.i balls, stopsAV l, stopsAV m]]).length 0)), (6, y6), (7, y7), (8, y8), (9, y9), (10, y10), (11, y11), (12, y12), (13, y13), (14, y14), (15, y15), (16, y16), (17, y17), (18, y18), (20, y20), (23, y23)] (([] ++ [some [rowsAV rows, AV.i per, AV.i tot, AV.i wth, AV.i balls, stopsAV l, stopsAV m]] ++ [some [AV.i x, AV.i y]])) := by
      intro y0 y2 y6 y7 y8 y9 y10 y11 y12 y13 y14 y15 y16 y17 y18 y20 y23
      refine A_step [1, 3, 5] (by kernel_rfl) (by decide) ?_
      refine A_cons rfl ?_ ?_
      · refine Rcall ?_
        refine ACall_eq (of_ok _ _ rows per tot wth balls l m) ?_
        exact A_on (nd9_1110100000000 _ _ _ _ _ _ _ _ _ _ _ _ _ _ _ _ _) rfl rfl rfl
      refine A_cons rfl ?_ ?_
      · refine Rq ?_
        exact A_on (nd9_1011100000000 _ _ _ _ _ _ _ _ _ _ _ _ _ _ _ _ _) rfl rfl rfl
      refine A_cons rfl ?_ ?_
      · refine Rq ?_
        exact A_on (nd9_1010110000000 _ _ _ _ _ _ _ _ _ _ _ _ _ _ _ _ _) rfl rfl rfl
      exact A_end
    have nd9_0011100000000 : ∀ y0 y2 y6 y7 y8 y9 y10 y11 y12 y13 y14 y15 y16 y17 y18 y20 y23 : AV, Ap sig (([] : Heap).length) (opsAt (at' (bodyOf fa8) [0, 1, 1, 1, 1, 1, 1, 1])) (kk8_9 rows per tot wth balls l m n x y y0 y2 y6 y7 y8 y9 y10 y11 y12 y13 y14 y15 y16 y17 y18 y20 y23) 10 #[false, false, true, true, true, false, false, false, false, false, false, false, false] [(53, .any), (54, .any), (55, (.ptr ([] ++ [some [rowsAV rows, AV.i per, AV.i tot, AV.i wth, AV.i balls, stopsAV l, stopsAV m]]).length 1)), (56, AV.i y), (57, AV.i n), (58, .any), (59, .any), (60, .any), (52, .any), (61, .any), (62, .any), (15, y15), (16, y16), (0, y0), (1, AV.i n), (2, y2), (3, (.ptr ([] : Heap).length 0)), (5, (.ptr ([] ++ [some [rowsAV rows, AV.i per, AV.i tot, AV.i wth, AV.i balls, stopsAV l, stopsAV m]]).length 0)), (6, y6), (7, y7), (8, y8), (9, y9), (10, y10), (11, y11), (12, y12), (13, y13), (14, y14), (15, y15), (16, y16), (17, y17), (18, y18), (20, y20), (23, y23)] (([] ++ [some [rowsAV rows, AV.i per, AV.i tot, AV.i wth, AV.i balls, stopsAV l, stopsAV m]] ++ [some [AV.i x, AV.i y]])) := by
      intro y0 y2 y6 y7 y8 y9 y10 y11 y12 y13 y14 y15 y16 y17 y18 y20 y23
      refine A_step [0, 5] (by kernel_rfl) (by decide) ?_
      refine A_cons rfl ?_ ?_
      · refine Rq ?_
        exact A_on (nd9_1011100000000 _ _ _ _ _ _ _ _ _ _ _ _ _ _ _ _ _) rfl rfl rfl
      refine A_cons rfl ?_ ?_
      · refine Rq ?_
        exact A_on (nd9_0011110000000 _ _ _ _ _ _ _ _ _ _ _ _ _ _ _ _ _) rfl rfl rfl
      exact A_end
    have nd9_1100100000000 : ∀ y0 y2 y6 y7 y8 y9 y10 y11 y12 y13 y14 y15 y16 y17 y18 y20 y23 : AV, Ap sig (([] : Heap).length) (opsAt (at' (bodyOf fa8) [0, 1, 1, 1, 1, 1, 1, 1])) (kk8_9 rows per tot wth balls l m n x y y0 y2 y6 y7 y8 y9 y10 y11 y12 y13 y14 y15 y16 y17 y18 y20 y23) 10 #[true, true, false, false, true, false, false, false, false, false, false, false, false] [(53, (.agg [rowsAV rows, AV.i per, AV.i tot, AV.i wth, AV.i balls, stopsAV l, stopsAV m])), (54, (.agg [rowsAV rows, AV.i per, AV.i tot, AV.i wth, AV.i balls, stopsAV l, stopsAV m])), (55, .any), (56, .any), (57, AV.i n), (58, .any), (59, .any), (60, .any), (52, .any), (61, .any), (62, .any), (15, y15), (16, y16), (0, y0), (1, AV.i n), (2, y2), (3, (.ptr ([] : Heap).length 0)), (5, (.ptr ([] ++ [some [rowsAV rows, AV.i per, AV.i tot, AV.i wth, AV.i balls, stopsAV l, stopsAV m]]).length 0)), (6, y6), (7, y7), (8, y8), (9, y9), (10, y10), (11, y11), (12, y12), (13, y13), (14, y14), (15, y15), (16, y16), (17, y17), (18, y18), (20, y20), (23, y23)] (([] ++ [some [rowsAV rows, AV.i per, AV.i tot, AV.i wth, AV.i balls, stopsAV l, stopsAV m]] ++ [some [AV.i x, AV.i y]])) := by
      intro y0 y2 y6 y7 y8 y9 y10 y11 y12 y13 y14 y15 y16 y17 y18 y20 y23
      refine A_step [2, 5] (by kernel_rfl) (by decide) ?_
      refine A_cons rfl ?_ ?_
      · refine Rq ?_
        exact A_on (nd9_1110100000000 _ _ _ _ _ _ _ _ _ _ _ _ _ _ _ _ _) rfl rfl rfl
      refine A_cons rfl ?_ ?_
      · refine Rq ?_
        exact A_on (nd9_1100110000000 _ _ _ _ _ _ _ _ _ _ _ _ _ _ _ _ _) rfl rfl rfl
      exact A_end
    have nd9_1011000000000 : ∀ y0 y2 y6 y7 y8 y9 y10 y11 y12 y13 y14 y15 y16 y17 y18 y20 y23 : AV, Ap sig (([] : Heap).length) (opsAt (at' (bodyOf fa8) [0, 1, 1, 1, 1, 1, 1, 1])) (kk8_9 rows per tot wth balls l m n x y y0 y2 y6 y7 y8 y9 y10 y11 y12 y13 y14 y15 y16 y17 y18 y20 y23) 10 #[true, false, true, true, false, false, false, false, false, false, false, false, false] [(53, (.agg [rowsAV rows, AV.i per, AV.i tot, AV.i wth, AV.i balls, stopsAV l, stopsAV m])), (54, .any), (55, (.ptr ([] ++ [some [rowsAV rows, AV.i per, AV.i tot, AV.i wth, AV.i balls, stopsAV l, stopsAV m]]).length 1)), (56, AV.i y), (57, .any), (58, .any), (59, .any), (60, .any), (52, .any), (61, .any), (62, .any), (15, y15), (16, y16), (0, y0), (1, AV.i n), (2, y2), (3, (.ptr ([] : Heap).length 0)), (5, (.ptr ([] ++ [some [rowsAV rows, AV.i per, AV.i tot, AV.i wth, AV.i balls, stopsAV l, stopsAV m]]).length 0)), (6, y6), (7, y7), (8, y8), (9, y9), (10, y10), (11, y11), (12, y12), (13, y13), (14, y14), (15, y15), (16, y16), (17, y17), (18, y18), (20, y20), (23, y23)] (([] ++ [some [rowsAV rows, AV.i per, AV.i tot, AV.i wth, AV.i balls, stopsAV l, stopsAV m]] ++ [some [AV.i x, AV.i y]])) := by
      intro y0 y2 y6 y7 y8 y9 y10 y11 y12 y13 y14 y15 y16 y17 y18 y20 y23
      refine A_step [1, 4, 5] (by kernel_rfl) (by decide) ?_
      refine A_cons rfl ?_ ?_
      · refine Rcall ?_
        refine ACall_eq (of_ok _ _ rows per tot wth balls l m) ?_
        exact A_on (nd9_1111000000000 _ _ _ _ _ _ _ _ _ _ _ _ _ _ _ _ _) rfl rfl rfl
      refine A_cons rfl ?_ ?_
      · refine Rq ?_
        exact A_on (nd9_1011100000000 _ _ _ _ _ _ _ _ _ _ _ _ _ _ _ _ _) rfl rfl rfl
      refine A_cons rfl ?_ ?_
      · refine Rq ?_
        exact A_on (nd9_1011010000000 _ _ _ _ _ _ _ _ _ _ _ _ _ _ _ _ _) rfl rfl rfl
      exact A_end
    have nd9_1110000000000 : ∀ y0 y2 y6 y7 y8 y9 y10 y11 y12 y13 y14 y15 y16 y17 y18 y20 y23 : AV, Ap sig (([] : Heap).length) (opsAt (at' (bodyOf fa8) [0, 1, 1, 1, 1, 1, 1, 1])) (kk8_9 rows per tot wth balls l m n x y y0 y2 y6 y7 y8 y9 y10 y11 y12 y13 y14 y15 y16 y17 y18 y20 y23) 10 #[true, true, true, false, false, false, false, false, false, false, false, false, false] [(53, (.agg [rowsAV rows, AV.i per, AV.i tot, AV.i wth, AV.i balls, stopsAV l, stopsAV m])), (54, (.agg [rowsAV rows, AV.i per, AV.i tot, AV.i wth, AV.i balls, stopsAV l, stopsAV m])), (55, (.ptr ([] ++ [some [rowsAV rows, AV.i per, AV.i tot, AV.i wth, AV.i balls, stopsAV l, stopsAV m]]).length 1)), (56, .any), (57, .any), (58, .any), (59, .any), (60, .any), (52, .any), (61, .any), (62, .any), (15, y15), (16, y16), (0, y0), (1, AV.i n), (2, y2), (3, (.ptr ([] : Heap).length 0)), (5, (.ptr ([] ++ [some [rowsAV rows, AV.i per, AV.i tot, AV.i wth, AV.i balls, stopsAV l, stopsAV m]]).length 0)), (6, y6), (7, y7), (8, y8), (9, y9), (10, y10), (11, y11), (12, y12), (13, y13), (14, y14), (15, y15), (16, y16), (17, y17), (18, y18), (20, y20), (23, y23)] (([] ++ [some [rowsAV rows, AV.i per, AV.i tot, AV.i wth, AV.i balls, stopsAV l, stopsAV m]] ++ [some [AV.i x, AV.i y]])) := by
      intro y0 y2 y6 y7 y8 y9 y10 y11 y12 y13 y14 y15 y16 y17 y18 y20 y23
      refine A_step [3, 4, 5] (by kernel_rfl) (by decide) ?_
      refine A_cons rfl ?_ ?_
      · refine Rq ?_
        exact A_on (nd9_1111000000000 _ _ _ _ _ _ _ _ _ _ _ _ _ _ _ _ _) rfl rfl rfl
      refine A_cons rfl ?_ ?_
      · refine Rq ?_
        exact A_on (nd9_1110100000000 _ _ _ _ _ _ _ _ _ _ _ _ _ _ _ _ _) rfl rfl rfl
      refine A_cons rfl ?_ ?_
      · refine Rq ?_
        exact A_on (nd9_1110010000000 _ _ _ _ _ _ _ _ _ _ _ _ _ _ _ _ _) rfl rfl rfl
      exact A_end
    have nd9_1000010000000 : ∀ y0 y2 y6 y7 y8 y9 y10 y11 y12 y13 y14 y15 y16 y17 y18 y20 y23 : AV, Ap sig (([] : Heap).length) (opsAt (at' (bodyOf fa8) [0, 1, 1, 1, 1, 1, 1, 1])) (kk8_9 rows per tot wth balls l m n x y y0 y2 y6 y7 y8 y9 y10 y11 y12 y13 y14 y15 y16 y17 y18 y20 y23) 11 #[true, false, false, false, false, true, false, false, false, false, false, false, false] [(53, (.agg [rowsAV rows, AV.i per, AV.i tot, AV.i wth, AV.i balls, stopsAV l, stopsAV m])), (54, .any), (55, .any), (56, .any), (57, .any), (58, (.ptr ([] ++ [some [rowsAV rows, AV.i per, AV.i tot, AV.i wth, AV.i balls, stopsAV l, stopsAV m]]).length 0)), (59, .any), (60, .any), (52, .any), (61, .any), (62, .any), (15, y15), (16, y16), (0, y0), (1, AV.i n), (2, y2), (3, (.ptr ([] : Heap).length 0)), (5, (.ptr ([] ++ [some [rowsAV rows, AV.i per, AV.i tot, AV.i wth, AV.i balls, stopsAV l, stopsAV m]]).length 0)), (6, y6), (7, y7), (8, y8), (9, y9), (10, y10), (11, y11), (12, y12), (13, y13), (14, y14), (15, y15), (16, y16), (17, y17), (18, y18), (20, y20), (23, y23)] (([] ++ [some [rowsAV rows, AV.i per, AV.i tot, AV.i wth, AV.i balls, stopsAV l, stopsAV m]] ++ [some [AV.i x, AV.i y]])) := by
      intro y0 y2 y6 y7 y8 y9 y10 y11 y12 y13 y14 y15 y16 y17 y18 y20 y23
      refine A_step [1, 2, 4, 6] (by kernel_rfl) (by decide) ?_
      refine A_cons rfl ?_ ?_
      · refine Rcall ?_
        refine ACall_eq (of_ok _ _ rows per tot wth balls l m) ?_
        exact A_on (nd9_1100010000000 _ _ _ _ _ _ _ _ _ _ _ _ _ _ _ _ _) rfl rfl rfl
      refine A_cons rfl ?_ ?_
      · refine Rq ?_
        exact A_on (nd9_1010010000000 _ _ _ _ _ _ _ _ _ _ _ _ _ _ _ _ _) rfl rfl rfl
      refine A_cons rfl ?_ ?_
      · refine Rq ?_
        exact A_on (nd9_1000110000000 _ _ _ _ _ _ _ _ _ _ _ _ _ _ _ _ _) rfl rfl rfl
      refine A_cons rfl ?_ ?_
      · refine Rq ?_
        exact A_on (nd9_1000011000000 _ _ _ _ _ _ _ _ _ _ _ _ _ _ _ _ _) rfl rfl rfl
      exact A_end
    have nd9_0010010000000 : ∀ y0 y2 y6 y7 y8 y9 y10 y11 y12 y13 y14 y15 y16 y17 y18 y20 y23 : AV, Ap sig (([] : Heap).length) (opsAt (at' (bodyOf fa8) [0, 1, 1, 1, 1, 1, 1, 1])) (kk8_9 rows per tot wth balls l m n x y y0 y2 y6 y7 y8 y9 y10 y11 y12 y13 y14 y15 y16 y17 y18 y20 y23) 11 #[false, false, true, false, false, true, false, false, false, false, false, false, false] [(53, .any), (54, .any), (55, (.ptr ([] ++ [some [rowsAV rows, AV.i per, AV.i tot, AV.i wth, AV.i balls, stopsAV l, stopsAV m]]).length 1)), (56, .any), (57, .any), (58, (.ptr ([] ++ [some [rowsAV rows, AV.i per, AV.i tot, AV.i wth, AV.i balls, stopsAV l, stopsAV m]]).length 0)), (59, .any), (60, .any), (52, .any), (61, .any), (62, .any), (15, y15), (16, y16), (0, y0), (1, AV.i n), (2, y2), (3, (.ptr ([] : Heap).length 0)), (5, (.ptr ([] ++ [some [rowsAV rows, AV.i per, AV.i tot, AV.i wth, AV.i balls, stopsAV l, stopsAV m]]).length 0)), (6, y6), (7, y7), (8, y8), (9, y9), (10, y10), (11, y11), (12, y12), (13, y13), (14, y14), (15, y15), (16, y16), (17, y17), (18, y18), (20, y20), (23, y23)] (([] ++ [some [rowsAV rows, AV.i per, AV.i tot, AV.i wth, AV.i balls, stopsAV l, stopsAV m]] ++ [some [AV.i x, AV.i y]])) := by
      intro y0 y2 y6 y7 y8 y9 y10 y11 y12 y13 y14 y15 y16 y17 y18 y20 y23
      refine A_step [0, 3, 4, 6] (by kernel_rfl) (by decide) ?_
      refine A_cons rfl ?_ ?_
      · refine Rq ?_
        exact A_on (nd9_1010010000000 _ _ _ _ _ _ _ _ _ _ _ _ _ _ _ _ _) rfl rfl rfl
      refine A_cons rfl ?_ ?_
      · refine Rq ?_
        exact A_on (nd9_0011010000000 _ _ _ _ _ _ _ _ _ _ _ _ _ _ _ _ _) rfl rfl rfl
      refine A_cons rfl ?_ ?_
      · refine Rq ?_
        exact A_on (nd9_0010110000000 _ _ _ _ _ _ _ _ _ _ _ _ _ _ _ _ _) rfl rfl rfl
      refine A_cons rfl ?_ ?_
      · refine Rq ?_
        exact A_on (nd9_0010011000000 _ _ _ _ _ _ _ _ _ _ _ _ _ _ _ _ _) rfl rfl rfl
      exact A_end
    have nd9_0000110000000 : ∀ y0 y2 y6 y7 y8 y9 y10 y11 y12 y13 y14 y15 y16 y17 y18 y20 y23 : AV, Ap sig (([] : Heap).length) (opsAt (at' (bodyOf fa8) [0, 1, 1, 1, 1, 1, 1, 1])) (kk8_9 rows per tot wth balls l m n x y y0 y2 y6 y7 y8 y9 y10 y11 y12 y13 y14 y15 y16 y17 y18 y20 y23) 11 #[false, false, false, false, true, true, false, false, false, false, false, false, false] [(53, .any), (54, .any), (55, .any), (56, .any), (57, AV.i n), (58, (.ptr ([] ++ [some [rowsAV rows, AV.i per, AV.i tot, AV.i wth, AV.i balls, stopsAV l, stopsAV m]]).length 0)), (59, .any), (60, .any), (52, .any), (61, .any), (62, .any), (15, y15), (16, y16), (0, y0), (1, AV.i n), (2, y2), (3, (.ptr ([] : Heap).length 0)), (5, (.ptr ([] ++ [some [rowsAV rows, AV.i per, AV.i tot, AV.i wth, AV.i balls, stopsAV l, stopsAV m]]).length 0)), (6, y6), (7, y7), (8, y8), (9, y9), (10, y10), (11, y11), (12, y12), (13, y13), (14, y14), (15, y15), (16, y16), (17, y17), (18, y18), (20, y20), (23, y23)] (([] ++ [some [rowsAV rows, AV.i per, AV.i tot, AV.i wth, AV.i balls, stopsAV l, stopsAV m]] ++ [some [AV.i x, AV.i y]])) := by
      intro y0 y2 y6 y7 y8 y9 y10 y11 y12 y13 y14 y15 y16 y17 y18 y20 y23
      refine A_step [0, 2, 6] (by kernel_rfl) (by decide) ?_
      refine A_cons rfl ?_ ?_
      · refine Rq ?_
        exact A_on (nd9_1000110000000 _ _ _ _ _ _ _ _ _ _ _ _ _ _ _ _ _) rfl rfl rfl
      refine A_cons rfl ?_ ?_
      · refine Rq ?_
        exact A_on (nd9_0010110000000 _ _ _ _ _ _ _ _ _ _ _ _ _ _ _ _ _) rfl rfl rfl
      refine A_cons rfl ?_ ?_
      · refine Rq ?_
        exact A_on (nd9_0000111000000 _ _ _ _ _ _ _ _ _ _ _ _ _ _ _ _ _) rfl rfl rfl
      exact A_end
    have nd9_0000011000000 : ∀ y0 y2 y6 y7 y8 y9 y10 y11 y12 y13 y14 y15 y16 y17 y18 y20 y23 : AV, Ap sig (([] : Heap).length) (opsAt (at' (bodyOf fa8) [0, 1, 1, 1, 1, 1, 1, 1])) (kk8_9 rows per tot wth balls l m n x y y0 y2 y6 y7 y8 y9 y10 y11 y12 y13 y14 y15 y16 y17 y18 y20 y23) 11 #[false, false, false, false, false, true, true, false, false, false, false, false, false] [(53, .any), (54, .any), (55, .any), (56, .any), (57, .any), (58, (.ptr ([] ++ [some [rowsAV rows, AV.i per, AV.i tot, AV.i wth, AV.i balls, stopsAV l, stopsAV m]]).length 0)), (59, AV.i x), (60, .any), (52, .any), (61, .any), (62, .any), (15, y15), (16, y16), (0, y0), (1, AV.i n), (2, y2), (3, (.ptr ([] : Heap).length 0)), (5, (.ptr ([] ++ [some [rowsAV rows, AV.i per, AV.i tot, AV.i wth, AV.i balls, stopsAV l, stopsAV m]]).length 0)), (6, y6), (7, y7), (8, y8), (9, y9), (10, y10), (11, y11), (12, y12), (13, y13), (14, y14), (15, y15), (16, y16), (17, y17), (18, y18), (20, y20), (23, y23)] (([] ++ [some [rowsAV rows, AV.i per, AV.i tot, AV.i wth, AV.i balls, stopsAV l, stopsAV m]] ++ [some [AV.i x, AV.i y]])) := by
      intro y0 y2 y6 y7 y8 y9 y10 y11 y12 y13 y14 y15 y16 y17 y18 y20 y23
      refine A_step [0, 2, 4] (by kernel_rfl) (by decide) ?_
      refine A_cons rfl ?_ ?_
      · refine Rq ?_
        exact A_on (nd9_1000011000000 _ _ _ _ _ _ _ _ _ _ _ _ _ _ _ _ _) rfl rfl rfl
      refine A_cons rfl ?_ ?_
      · refine Rq ?_
        exact A_on (nd9_0010011000000 _ _ _ _ _ _ _ _ _ _ _ _ _ _ _ _ _) rfl rfl rfl
      refine A_cons rfl ?_ ?_
      · refine Rq ?_
        exact A_on (nd9_0000111000000 _ _ _ _ _ _ _ _ _ _ _ _ _ _ _ _ _) rfl rfl rfl
      exact A_end
    have nd9_1000100000000 : ∀ y0 y2 y6 y7 y8 y9 y10 y11 y12 y13 y14 y15 y16 y17 y18 y20 y23 : AV, Ap sig (([] : Heap).length) (opsAt (at' (bodyOf fa8) [0, 1, 1, 1, 1, 1, 1, 1])) (kk8_9 rows per tot wth balls l m n x y y0 y2 y6 y7 y8 y9 y10 y11 y12 y13 y14 y15 y16 y17 y18 y20 y23) 11 #[true, false, false, false, true, false, false, false, false, false, false, false, false] [(53, (.agg [rowsAV rows, AV.i per, AV.i tot, AV.i wth, AV.i balls, stopsAV l, stopsAV m])), (54, .any), (55, .any), (56, .any), (57, AV.i n), (58, .any), (59, .any), (60, .any), (52, .any), (61, .any), (62, .any), (15, y15), (16, y16), (0, y0), (1, AV.i n), (2, y2), (3, (.ptr ([] : Heap).length 0)), (5, (.ptr ([] ++ [some [rowsAV rows, AV.i per, AV.i tot, AV.i wth, AV.i balls, stopsAV l, stopsAV m]]).length 0)), (6, y6), (7, y7), (8, y8), (9, y9), (10, y10), (11, y11), (12, y12), (13, y13), (14, y14), (15, y15), (16, y16), (17, y17), (18, y18), (20, y20), (23, y23)] (([] ++ [some [rowsAV rows, AV.i per, AV.i tot, AV.i wth, AV.i balls, stopsAV l, stopsAV m]] ++ [some [AV.i x, AV.i y]])) := by
      intro y0 y2 y6 y7 y8 y9 y10 y11 y12 y13 y14 y15 y16 y17 y18 y20 y23
      refine A_step [1, 2, 5] (by kernel_rfl) (by decide) ?_
      refine A_cons rfl ?_ ?_
      · refine Rcall ?_
        refine ACall_eq (of_ok _ _ rows per tot wth balls l m) ?_
        exact A_on (nd9_1100100000000 _ _ _ _ _ _ _ _ _ _ _ _ _ _ _ _ _) rfl rfl rfl
      refine A_cons rfl ?_ ?_
      · refine Rq ?_
        exact A_on (nd9_1010100000000 _ _ _ _ _ _ _ _ _ _ _ _ _ _ _ _ _) rfl rfl rfl
      refine A_cons rfl ?_ ?_
      · refine Rq ?_
        exact A_on (nd9_1000110000000 _ _ _ _ _ _ _ _ _ _ _ _ _ _ _ _ _) rfl rfl rfl
      exact A_end
    have nd9_0010100000000 : ∀ y0 y2 y6 y7 y8 y9 y10 y11 y12 y13 y14 y15 y16 y17 y18 y20 y23 : AV, Ap sig (([] : Heap).length) (opsAt (at' (bodyOf fa8) [0, 1, 1, 1, 1, 1, 1, 1])) (kk8_9 rows per tot wth balls l m n x y y0 y2 y6 y7 y8 y9 y10 y11 y12 y13 y14 y15 y16 y17 y18 y20 y23) 11 #[false, false, true, false, true, false, false, false, false, false, false, false, false] [(53, .any), (54, .any), (55, (.ptr ([] ++ [some [rowsAV rows, AV.i per, AV.i tot, AV.i wth, AV.i balls, stopsAV l, stopsAV m]]).length 1)), (56, .any), (57, AV.i n), (58, .any), (59, .any), (60, .any), (52, .any), (61, .any), (62, .any), (15, y15), (16, y16), (0, y0), (1, AV.i n), (2, y2), (3, (.ptr ([] : Heap).length 0)), (5, (.ptr ([] ++ [some [rowsAV rows, AV.i per, AV.i tot, AV.i wth, AV.i balls, stopsAV l, stopsAV m]]).length 0)), (6, y6), (7, y7), (8, y8), (9, y9), (10, y10), (11, y11), (12, y12), (13, y13), (14, y14), (15, y15), (16, y16), (17, y17), (18, y18), (20, y20), (23, y23)] (([] ++ [some [rowsAV rows, AV.i per, AV.i tot, AV.i wth, AV.i balls, stopsAV l, stopsAV m]] ++ [some [AV.i x, AV.i y]])) := by
      intro y0 y2 y6 y7 y8 y9 y10 y11 y12 y13 y14 y15 y16 y17 y18 y20 y23
      refine A_step [0, 3, 5] (by kernel_rfl) (by decide) ?_
      refine A_cons rfl ?_ ?_
      · refine Rq ?_
        exact A_on (nd9_1010100000000 _ _ _ _ _ _ _ _ _ _ _ _ _ _ _ _ _) rfl rfl rfl
      refine A_cons rfl ?_ ?_
      · refine Rq ?_
        exact A_on (nd9_0011100000000 _ _ _ _ _ _ _ _ _ _ _ _ _ _ _ _ _) rfl rfl rfl
      refine A_cons rfl ?_ ?_
      · refine Rq ?_
        exact A_on (nd9_0010110000000 _ _ _ _ _ _ _ _ _ _ _ _ _ _ _ _ _) rfl rfl rfl
      exact A_end
    have nd9_1010000000000 : ∀ y0 y2 y6 y7 y8 y9 y10 y11 y12 y13 y14 y15 y16 y17 y18 y20 y23 : AV, Ap sig (([] : Heap).length) (opsAt (at' (bodyOf fa8) [0, 1, 1, 1, 1, 1, 1, 1])) (kk8_9 rows per tot wth balls l m n x y y0 y2 y6 y7 y8 y9 y10 y11 y12 y13 y14 y15 y16 y17 y18 y20 y23) 11 #[true, false, true, false, false, false, false, false, false, false, false, false, false] [(53, (.agg [rowsAV rows, AV.i per, AV.i tot, AV.i wth, AV.i balls, stopsAV l, stopsAV m])), (54, .any), (55, (.ptr ([] ++ [some [rowsAV rows, AV.i per, AV.i tot, AV.i wth, AV.i balls, stopsAV l, stopsAV m]]).length 1)), (56, .any), (57, .any), (58, .any), (59, .any), (60, .any), (52, .any), (61, .any), (62, .any), (15, y15), (16, y16), (0, y0), (1, AV.i n), (2, y2), (3, (.ptr ([] : Heap).length 0)), (5, (.ptr ([] ++ [some [rowsAV rows, AV.i per, AV.i tot, AV.i wth, AV.i balls, stopsAV l, stopsAV m]]).length 0)), (6, y6), (7, y7), (8, y8), (9, y9), (10, y10), (11, y11), (12, y12), (13, y13), (14, y14), (15, y15), (16, y16), (17, y17), (18, y18), (20, y20), (23, y23)] (([] ++ [some [rowsAV rows, AV.i per, AV.i tot, AV.i wth, AV.i balls, stopsAV l, stopsAV m]] ++ [some [AV.i x, AV.i y]])) := by
      intro y0 y2 y6 y7 y8 y9 y10 y11 y12 y13 y14 y15 y16 y17 y18 y20 y23
      refine A_step [1, 3, 4, 5] (by kernel_rfl) (by decide) ?_
      refine A_cons rfl ?_ ?_
      · refine Rcall ?_
        refine ACall_eq (of_ok _ _ rows per tot wth balls l m) ?_
        exact A_on (nd9_1110000000000 _ _ _ _ _ _ _ _ _ _ _ _ _ _ _ _ _) rfl rfl rfl
      refine A_cons rfl ?_ ?_
      · refine Rq ?_
        exact A_on (nd9_1011000000000 _ _ _ _ _ _ _ _ _ _ _ _ _ _ _ _ _) rfl rfl rfl
      refine A_cons rfl ?_ ?_
      · refine Rq ?_
        exact A_on (nd9_1010100000000 _ _ _ _ _ _ _ _ _ _ _ _ _ _ _ _ _) rfl rfl rfl
      refine A_cons rfl ?_ ?_
      · refine Rq ?_
        exact A_on (nd9_1010010000000 _ _ _ _ _ _ _ _ _ _ _ _ _ _ _ _ _) rfl rfl rfl
      exact A_end
    have nd9_0011000000000 : ∀ y0 y2 y6 y7 y8 y9 y10 y11 y12 y13 y14 y15 y16 y17 y18 y20 y23 : AV, Ap sig (([] : Heap).length) (opsAt (at' (bodyOf fa8) [0, 1, 1, 1, 1, 1, 1, 1])) (kk8_9 rows per tot wth balls l m n x y y0 y2 y6 y7 y8 y9 y10 y11 y12 y13 y14 y15 y16 y17 y18 y20 y23) 11 #[false, false, true, true, false, false, false, false, false, false, false, false, false] [(53, .any), (54, .any), (55, (.ptr ([] ++ [some [rowsAV rows, AV.i per, AV.i tot, AV.i wth, AV.i balls, stopsAV l, stopsAV m]]).length 1)), (56, AV.i y), (57, .any), (58, .any), (59, .any), (60, .any), (52, .any), (61, .any), (62, .any), (15, y15), (16, y16), (0, y0), (1, AV.i n), (2, y2), (3, (.ptr ([] : Heap).length 0)), (5, (.ptr ([] ++ [some [rowsAV rows, AV.i per, AV.i tot, AV.i wth, AV.i balls, stopsAV l, stopsAV m]]).length 0)), (6, y6), (7, y7), (8, y8), (9, y9), (10, y10), (11, y11), (12, y12), (13, y13), (14, y14), (15, y15), (16, y16), (17, y17), (18, y18), (20, y20), (23, y23)] (([] ++ [some [rowsAV rows, AV.i per, AV.i tot, AV.i wth, AV.i balls, stopsAV l, stopsAV m]] ++ [some [AV.i x, AV.i y]])) := by
      intro y0 y2 y6 y7 y8 y9 y10 y11 y12 y13 y14 y15 y16 y17 y18 y20 y23
      refine A_step [0, 4, 5] (by kernel_rfl) (by decide) ?_
      refine A_cons rfl ?_ ?_
      · refine Rq ?_
        exact A_on (nd9_1011000000000 _ _ _ _ _ _ _ _ _ _ _ _ _ _ _ _ _) rfl rfl rfl
      refine A_cons rfl ?_ ?_
      · refine Rq ?_
        exact A_on (nd9_0011100000000 _ _ _ _ _ _ _ _ _ _ _ _ _ _ _ _ _) rfl rfl rfl
      refine A_cons rfl ?_ ?_
      · refine Rq ?_
        exact A_on (nd9_0011010000000 _ _ _ _ _ _ _ _ _ _ _ _ _ _ _ _ _) rfl rfl rfl
      exact A_end
    have nd9_1100000000000 : ∀ y0 y2 y6 y7 y8 y9 y10 y11 y12 y13 y14 y15 y16 y17 y18 y20 y23 : AV, Ap sig (([] : Heap).length) (opsAt (at' (bodyOf fa8) [0, 1, 1, 1, 1, 1, 1, 1])) (kk8_9 rows per tot wth balls l m n x y y0 y2 y6 y7 y8 y9 y10 y11 y12 y13 y14 y15 y16 y17 y18 y20 y23) 11 #[true, true, false, false, false, false, false, false, false, false, false, false, false] [(53, (.agg [rowsAV rows, AV.i per, AV.i tot, AV.i wth, AV.i balls, stopsAV l, stopsAV m])), (54, (.agg [rowsAV rows, AV.i per, AV.i tot, AV.i wth, AV.i balls, stopsAV l, stopsAV m])), (55, .any), (56, .any), (57, .any), (58, .any), (59, .any), (60, .any), (52, .any), (61, .any), (62, .any), (15, y15), (16, y16), (0, y0), (1, AV.i n), (2, y2), (3, (.ptr ([] : Heap).length 0)), (5, (.ptr ([] ++ [some [rowsAV rows, AV.i per, AV.i tot, AV.i wth, AV.i balls, stopsAV l, stopsAV m]]).length 0)), (6, y6), (7, y7), (8, y8), (9, y9), (10, y10), (11, y11), (12, y12), (13, y13), (14, y14), (15, y15), (16, y16), (17, y17), (18, y18), (20, y20), (23, y23)] (([] ++ [some [rowsAV rows, AV.i per, AV.i tot, AV.i wth, AV.i balls, stopsAV l, stopsAV m]] ++ [some [AV.i x, AV.i y]])) := by
      intro y0 y2 y6 y7 y8 y9 y10 y11 y12 y13 y14 y15 y16 y17 y18 y20 y23
      refine A_step [2, 4, 5] (by kernel_rfl) (by decide) ?_
      refine A_cons rfl ?_ ?_
      · refine Rq ?_
        exact A_on (nd9_1110000000000 _ _ _ _ _ _ _ _ _ _ _ _ _ _ _ _ _) rfl rfl rfl
      refine A_cons rfl ?_ ?_
      · refine Rq ?_
        exact A_on (nd9_1100100000000 _ _ _ _ _ _ _ _ _ _ _ _ _ _ _ _ _) rfl rfl rfl
      refine A_cons rfl ?_ ?_
      · refine Rq ?_
        exact A_on (nd9_1100010000000 _ _ _ _ _ _ _ _ _ _ _ _ _ _ _ _ _) rfl rfl rfl
      exact A_end
    have nd9_1000000000000 : ∀ y0 y2 y6 y7 y8 y9 y10 y11 y12 y13 y14 y15 y16 y17 y18 y20 y23 : AV, Ap sig (([] : Heap).length) (opsAt (at' (bodyOf fa8) [0, 1, 1, 1, 1, 1, 1, 1])) (kk8_9 rows per tot wth balls l m n x y y0 y2 y6 y7 y8 y9 y10 y11 y12 y13 y14 y15 y16 y17 y18 y20 y23) 12 #[true, false, false, false, false, false, false, false, false, false, false, false, false] [(53, (.agg [rowsAV rows, AV.i per, AV.i tot, AV.i wth, AV.i balls, stopsAV l, stopsAV m])), (54, .any), (55, .any), (56, .any), (57, .any), (58, .any), (59, .any), (60, .any), (52, .any), (61, .any), (62, .any), (15, y15), (16, y16), (0, y0), (1, AV.i n), (2, y2), (3, (.ptr ([] : Heap).length 0)), (5, (.ptr ([] ++ [some [rowsAV rows, AV.i per, AV.i tot, AV.i wth, AV.i balls, stopsAV l, stopsAV m]]).length 0)), (6, y6), (7, y7), (8, y8), (9, y9), (10, y10), (11, y11), (12, y12), (13, y13), (14, y14), (15, y15), (16, y16), (17, y17), (18, y18), (20, y20), (23, y23)] (([] ++ [some [rowsAV rows, AV.i per, AV.i tot, AV.i wth, AV.i balls, stopsAV l, stopsAV m]] ++ [some [AV.i x, AV.i y]])) := by
      intro y0 y2 y6 y7 y8 y9 y10 y11 y12 y13 y14 y15 y16 y17 y18 y20 y23
      refine A_step [1, 2, 4, 5] (by kernel_rfl) (by decide) ?_
      refine A_cons rfl ?_ ?_
      · refine Rcall ?_
        refine ACall_eq (of_ok _ _ rows per tot wth balls l m) ?_
        exact A_on (nd9_1100000000000 _ _ _ _ _ _ _ _ _ _ _ _ _ _ _ _ _) rfl rfl rfl
      refine A_cons rfl ?_ ?_
      · refine Rq ?_
        exact A_on (nd9_1010000000000 _ _ _ _ _ _ _ _ _ _ _ _ _ _ _ _ _) rfl rfl rfl
      refine A_cons rfl ?_ ?_
      · refine Rq ?_
        exact A_on (nd9_1000100000000 _ _ _ _ _ _ _ _ _ _ _ _ _ _ _ _ _) rfl rfl rfl
      refine A_cons rfl ?_ ?_
      · refine Rq ?_
        exact A_on (nd9_1000010000000 _ _ _ _ _ _ _ _ _ _ _ _ _ _ _ _ _) rfl rfl rfl
      exact A_end
    have nd9_0010000000000 : ∀ y0 y2 y6 y7 y8 y9 y10 y11 y12 y13 y14 y15 y16 y17 y18 y20 y23 : AV, Ap sig (([] : Heap).length) (opsAt (at' (bodyOf fa8) [0, 1, 1, 1, 1, 1, 1, 1])) (kk8_9 rows per tot wth balls l m n x y y0 y2 y6 y7 y8 y9 y10 y11 y12 y13 y14 y15 y16 y17 y18 y20 y23) 12 #[false, false, true, false, false, false, false, false, false, false, false, false, false] [(53, .any), (54, .any), (55, (.ptr ([] ++ [some [rowsAV rows, AV.i per, AV.i tot, AV.i wth, AV.i balls, stopsAV l, stopsAV m]]).length 1)), (56, .any), (57, .any), (58, .any), (59, .any), (60, .any), (52, .any), (61, .any), (62, .any), (15, y15), (16, y16), (0, y0), (1, AV.i n), (2, y2), (3, (.ptr ([] : Heap).length 0)), (5, (.ptr ([] ++ [some [rowsAV rows, AV.i per, AV.i tot, AV.i wth, AV.i balls, stopsAV l, stopsAV m]]).length 0)), (6, y6), (7, y7), (8, y8), (9, y9), (10, y10), (11, y11), (12, y12), (13, y13), (14, y14), (15, y15), (16, y16), (17, y17), (18, y18), (20, y20), (23, y23)] (([] ++ [some [rowsAV rows, AV.i per, AV.i tot, AV.i wth, AV.i balls, stopsAV l, stopsAV m]] ++ [some [AV.i x, AV.i y]])) := by
      intro y0 y2 y6 y7 y8 y9 y10 y11 y12 y13 y14 y15 y16 y17 y18 y20 y23
      refine A_step [0, 3, 4, 5] (by kernel_rfl) (by decide) ?_
      refine A_cons rfl ?_ ?_
      · refine Rq ?_
        exact A_on (nd9_1010000000000 _ _ _ _ _ _ _ _ _ _ _ _ _ _ _ _ _) rfl rfl rfl
      refine A_cons rfl ?_ ?_
      · refine Rq ?_
        exact A_on (nd9_0011000000000 _ _ _ _ _ _ _ _ _ _ _ _ _ _ _ _ _) rfl rfl rfl
      refine A_cons rfl ?_ ?_
      · refine Rq ?_
        exact A_on (nd9_0010100000000 _ _ _ _ _ _ _ _ _ _ _ _ _ _ _ _ _) rfl rfl rfl
      refine A_cons rfl ?_ ?_
      · refine Rq ?_
        exact A_on (nd9_0010010000000 _ _ _ _ _ _ _ _ _ _ _ _ _ _ _ _ _) rfl rfl rfl
      exact A_end
    have nd9_0000100000000 : ∀ y0 y2 y6 y7 y8 y9 y10 y11 y12 y13 y14 y15 y16 y17 y18 y20 y23 : AV, Ap sig (([] : Heap).length) (opsAt (at' (bodyOf fa8) [0, 1, 1, 1, 1, 1, 1, 1])) (kk8_9 rows per tot wth balls l m n x y y0 y2 y6 y7 y8 y9 y10 y11 y12 y13 y14 y15 y16 y17 y18 y20 y23) 12 #[false, false, false, false, true, false, false, false, false, false, false, false, false] [(53, .any), (54, .any), (55, .any), (56, .any), (57, AV.i n), (58, .any), (59, .any), (60, .any), (52, .any), (61, .any), (62, .any), (15, y15), (16, y16), (0, y0), (1, AV.i n), (2, y2), (3, (.ptr ([] : Heap).length 0)), (5, (.ptr ([] ++ [some [rowsAV rows, AV.i per, AV.i tot, AV.i wth, AV.i balls, stopsAV l, stopsAV m]]).length 0)), (6, y6), (7, y7), (8, y8), (9, y9), (10, y10), (11, y11), (12, y12), (13, y13), (14, y14), (15, y15), (16, y16), (17, y17), (18, y18), (20, y20), (23, y23)] (([] ++ [some [rowsAV rows, AV.i per, AV.i tot, AV.i wth, AV.i balls, stopsAV l, stopsAV m]] ++ [some [AV.i x, AV.i y]])) := by
      intro y0 y2 y6 y7 y8 y9 y10 y11 y12 y13 y14 y15 y16 y17 y18 y20 y23
      refine A_step [0, 2, 5] (by kernel_rfl) (by decide) ?_
      refine A_cons rfl ?_ ?_
      · refine Rq ?_
        exact A_on (nd9_1000100000000 _ _ _ _ _ _ _ _ _ _ _ _ _ _ _ _ _) rfl rfl rfl
      refine A_cons rfl ?_ ?_
      · refine Rq ?_
        exact A_on (nd9_0010100000000 _ _ _ _ _ _ _ _ _ _ _ _ _ _ _ _ _) rfl rfl rfl
      refine A_cons rfl ?_ ?_
      · refine Rq ?_
        exact A_on (nd9_0000110000000 _ _ _ _ _ _ _ _ _ _ _ _ _ _ _ _ _) rfl rfl rfl
      exact A_end
    have nd9_0000010000000 : ∀ y0 y2 y6 y7 y8 y9 y10 y11 y12 y13 y14 y15 y16 y17 y18 y20 y23 : AV, Ap sig (([] : Heap).length) (opsAt (at' (bodyOf fa8) [0, 1, 1, 1, 1, 1, 1, 1])) (kk8_9 rows per tot wth balls l m n x y y0 y2 y6 y7 y8 y9 y10 y11 y12 y13 y14 y15 y16 y17 y18 y20 y23) 12 #[false, false, false, false, false, true, false, false, false, false, false, false, false] [(53, .any), (54, .any), (55, .any), (56, .any), (57, .any), (58, (.ptr ([] ++ [some [rowsAV rows, AV.i per, AV.i tot, AV.i wth, AV.i balls, stopsAV l, stopsAV m]]).length 0)), (59, .any), (60, .any), (52, .any), (61, .any), (62, .any), (15, y15), (16, y16), (0, y0), (1, AV.i n), (2, y2), (3, (.ptr ([] : Heap).length 0)), (5, (.ptr ([] ++ [some [rowsAV rows, AV.i per, AV.i tot, AV.i wth, AV.i balls, stopsAV l, stopsAV m]]).length 0)), (6, y6), (7, y7), (8, y8), (9, y9), (10, y10), (11, y11), (12, y12), (13, y13), (14, y14), (15, y15), (16, y16), (17, y17), (18, y18), (20, y20), (23, y23)] (([] ++ [some [rowsAV rows, AV.i per, AV.i tot, AV.i wth, AV.i balls, stopsAV l, stopsAV m]] ++ [some [AV.i x, AV.i y]])) := by
      intro y0 y2 y6 y7 y8 y9 y10 y11 y12 y13 y14 y15 y16 y17 y18 y20 y23
      refine A_step [0, 2, 4, 6] (by kernel_rfl) (by decide) ?_
      refine A_cons rfl ?_ ?_
      · refine Rq ?_
        exact A_on (nd9_1000010000000 _ _ _ _ _ _ _ _ _ _ _ _ _ _ _ _ _) rfl rfl rfl
      refine A_cons rfl ?_ ?_
      · refine Rq ?_
        exact A_on (nd9_0010010000000 _ _ _ _ _ _ _ _ _ _ _ _ _ _ _ _ _) rfl rfl rfl
      refine A_cons rfl ?_ ?_
      · refine Rq ?_
        exact A_on (nd9_0000110000000 _ _ _ _ _ _ _ _ _ _ _ _ _ _ _ _ _) rfl rfl rfl
      refine A_cons rfl ?_ ?_
      · refine Rq ?_
        exact A_on (nd9_0000011000000 _ _ _ _ _ _ _ _ _ _ _ _ _ _ _ _ _) rfl rfl rfl
      exact A_end
    have nd9_0000000000000 : ∀ y0 y2 y6 y7 y8 y9 y10 y11 y12 y13 y14 y15 y16 y17 y18 y20 y23 : AV, Ap sig (([] : Heap).length) (opsAt (at' (bodyOf fa8) [0, 1, 1, 1, 1, 1, 1, 1])) (kk8_9 rows per tot wth balls l m n x y y0 y2 y6 y7 y8 y9 y10 y11 y12 y13 y14 y15 y16 y17 y18 y20 y23) 13 #[false, false, false, false, false, false, false, false, false, false, false, false, false] [(53, .any), (54, .any), (55, .any), (56, .any), (57, .any), (58, .any), (59, .any), (60, .any), (52, .any), (61, .any), (62, .any), (15, y15), (16, y16), (0, y0), (1, AV.i n), (2, y2), (3, (.ptr ([] : Heap).length 0)), (5, (.ptr ([] ++ [some [rowsAV rows, AV.i per, AV.i tot, AV.i wth, AV.i balls, stopsAV l, stopsAV m]]).length 0)), (6, y6), (7, y7), (8, y8), (9, y9), (10, y10), (11, y11), (12, y12), (13, y13), (14, y14), (15, y15), (16, y16), (17, y17), (18, y18), (20, y20), (23, y23)] (([] ++ [some [rowsAV rows, AV.i per, AV.i tot, AV.i wth, AV.i balls, stopsAV l, stopsAV m]] ++ [some [AV.i x, AV.i y]])) := by
      intro y0 y2 y6 y7 y8 y9 y10 y11 y12 y13 y14 y15 y16 y17 y18 y20 y23
      refine A_step [0, 2, 4, 5] (by kernel_rfl) (by decide) ?_
      refine A_cons rfl ?_ ?_
      · refine Rq ?_
        exact A_on (nd9_1000000000000 _ _ _ _ _ _ _ _ _ _ _ _ _ _ _ _ _) rfl rfl rfl
      refine A_cons rfl ?_ ?_
      · refine Rq ?_
        exact A_on (nd9_0010000000000 _ _ _ _ _ _ _ _ _ _ _ _ _ _ _ _ _) rfl rfl rfl
      refine A_cons rfl ?_ ?_
      · refine Rq ?_
        exact A_on (nd9_0000100000000 _ _ _ _ _ _ _ _ _ _ _ _ _ _ _ _ _) rfl rfl rfl
      refine A_cons rfl ?_ ?_
      · refine Rq ?_
        exact A_on (nd9_0000010000000 _ _ _ _ _ _ _ _ _ _ _ _ _ _ _ _ _) rfl rfl rfl
      exact A_end
    have tr : ∀ y0 y2 y6 y7 y8 y9 y10 y11 y12 y13 y14 y15 y16 y17 y18 y20 y23 : AV, trim [(53, (.agg [rowsAV rows, AV.i per, AV.i tot, AV.i wth, AV.i balls, stopsAV l, stopsAV m])), (54, (.agg [rowsAV rows, AV.i per, AV.i tot, AV.i wth, AV.i balls, stopsAV l, stopsAV m])), (55, (.ptr ([] ++ [some [rowsAV rows, AV.i per, AV.i tot, AV.i wth, AV.i balls, stopsAV l, stopsAV m]]).length 1)), (56, AV.i y), (57, AV.i n), (58, (.ptr ([] ++ [some [rowsAV rows, AV.i per, AV.i tot, AV.i wth, AV.i balls, stopsAV l, stopsAV m]]).length 0)), (59, AV.i x), (60, (.tup [AV.i (winS rows per tot wth balls l m y n x).1, AV.i (winS rows per tot wth balls l m y n x).2])), (52, (.tup [AV.i (winS rows per tot wth balls l m y n x).1, AV.i (winS rows per tot wth balls l m y n x).2])), (61, (AV.i (winS rows per tot wth balls l m y n x).1)), (62, (AV.i (winS rows per tot wth balls l m y n x).2)), (15, (AV.i (winS rows per tot wth balls l m y n x).1)), (16, (AV.i (winS rows per tot wth balls l m y n x).2)), (0, y0), (1, AV.i n), (2, y2), (3, (.ptr ([] : Heap).length 0)), (5, (.ptr ([] ++ [some [rowsAV rows, AV.i per, AV.i tot, AV.i wth, AV.i balls, stopsAV l, stopsAV m]]).length 0)), (6, y6), (7, y7), (8, y8), (9, y9), (10, y10), (11, y11), (12, y12), (13, y13), (14, y14), (15, y15), (16, y16), (17, y17), (18, y18), (20, y20), (23, y23)] [(0, y0), (1, AV.i n), (2, y2), (3, (.ptr ([] : Heap).length 0)), (5, (.ptr ([] ++ [some [rowsAV rows, AV.i per, AV.i tot, AV.i wth, AV.i balls, stopsAV l, stopsAV m]]).length 0)), (6, y6), (7, y7), (8, y8), (9, y9), (10, y10), (11, y11), (12, y12), (13, y13), (14, y14), (15, y15), (16, y16), (17, y17), (18, y18), (20, y20), (23, y23)] = [(0, y0), (1, AV.i n), (2, y2), (3, (.ptr ([] : Heap).length 0)), (5, (.ptr ([] ++ [some [rowsAV rows, AV.i per, AV.i tot, AV.i wth, AV.i balls, stopsAV l, stopsAV m]]).length 0)), (6, y6), (7, y7), (8, y8), (9, y9), (10, y10), (11, y11), (12, y12), (13, y13), (14, y14), (15, (AV.i (winS rows per tot wth balls l m y n x).1)), (16, (AV.i (winS rows per tot wth balls l m y n x).2)), (17, y17), (18, y18), (20, y20), (23, y23)] := fun y0 y2 y6 y7 y8 y9 y10 y11 y12 y13 y14 y15 y16 y17 y18 y20 y23 => rfl
    refine at_mixed rfl rfl rfl rfl rfl (nd9_0000000000000 _ _ _ _ _ _ _ _ _ _ _ _ _ _ _ _ _) (tr _ _ _ _ _ _ _ _ _ _ _ _ _ _ _ _ _) ?_; clear tr
    clear nd9_0000000000000
    clear nd9_1000000000000
    clear nd9_0010000000000
    clear nd9_0000100000000
    clear nd9_0000010000000
    clear nd9_1000010000000
    clear nd9_0010010000000
    clear nd9_0000110000000
    clear nd9_0000011000000
    clear nd9_1000011000000
    clear nd9_0010011000000
    clear nd9_0000111000000
    clear nd9_1000111000000
    clear nd9_0010111000000
    clear nd9_1010111000000
    clear nd9_0011111000000
    clear nd9_1011111000000
    clear nd9_1111111000000
    clear nd9_1111111100000
    clear nd9_1111111110000
    clear nd9_1111111111000
    clear nd9_1111111110100
    clear nd9_1111111111100
    clear nd9_1111111111110
    clear nd9_1111111111111
    clear nd9_1111111111010
    clear nd9_1110111000000
    clear nd9_1100111000000
    clear nd9_1010011000000
    clear nd9_0011011000000
    clear nd9_1011011000000
    clear nd9_1111011000000
    clear nd9_1110011000000
    clear nd9_1100011000000
    clear nd9_1000110000000
    clear nd9_0010110000000
    clear nd9_1010110000000
    clear nd9_0011110000000
    clear nd9_1011110000000
    clear nd9_1111110000000
    clear nd9_1110110000000
    clear nd9_1100110000000
    clear nd9_1010010000000
    clear nd9_0011010000000
    clear nd9_1011010000000
    clear nd9_1111010000000
    clear nd9_1110010000000
    clear nd9_1100010000000
    clear nd9_1000100000000
    clear nd9_0010100000000
    clear nd9_1010100000000
    clear nd9_0011100000000
    clear nd9_1011100000000
    clear nd9_1111100000000
    clear nd9_1110100000000
    clear nd9_1100100000000
    clear nd9_1010000000000
    clear nd9_0011000000000
    clear nd9_1011000000000
    clear nd9_1111000000000
    clear nd9_1110000000000
    clear nd9_1100000000000
    refine then_n ?_
    refine at_seq rfl ?_
    refine rg rfl ?_
    refine Rq ?_
    refine Rq ?_
    refine Rq ?_
    refine Rq ?_
    refine Rq ?_
    refine Rq ?_
    refine Rcall ?_
    refine ACall_eq (rwin_ok _ _ rows per tot wth balls l m y n x) ?_
    refine Rq ?_
    refine Rq ?_
    refine Rq ?_
    refine Rq ?_
    refine Rq ?_
    have tr : ∀ y0 y1 y2 y3 y5 y6 y7 y8 y9 y10 y11 y12 y13 y14 y15 y16 y17 y18 y20 y23 z0 z1 z2 z3 z4 z5 z6 z7 z8 z9 z10 z11 : AV, trim [(18, z11), (17, z10), (72, z9), (71, z8), (63, z7), (70, z6), (69, z5), (68, z4), (67, z3), (66, z2), (65, z1), (64, z0), (0, y0), (1, y1), (2, y2), (3, y3), (5, y5), (6, y6), (7, y7), (8, y8), (9, y9), (10, y10), (11, y11), (12, y12), (13, y13), (14, y14), (15, y15), (16, y16), (17, y17), (18, y18), (20, y20), (23, y23)] [(0, y0), (1, y1), (2, y2), (3, y3), (5, y5), (6, y6), (7, y7), (8, y8), (9, y9), (10, y10), (11, y11), (12, y12), (13, y13), (14, y14), (15, y15), (16, y16), (17, y17), (18, y18), (20, y20), (23, y23)] = [(0, y0), (1, y1), (2, y2), (3, y3), (5, y5), (6, y6), (7, y7), (8, y8), (9, y9), (10, y10), (11, y11), (12, y12), (13, y13), (14, y14), (15, y15), (16, y16), (17, z10), (18, z11), (20, y20), (23, y23)] := fun y0 y1 y2 y3 y5 y6 y7 y8 y9 y10 y11 y12 y13 y14 y15 y16 y17 y18 y20 y23 z0 z1 z2 z3 z4 z5 z6 z7 z8 z9 z10 z11 => rfl
    refine R_nil (tr _ _ _ _ _ _ _ _ _ _ _ _ _ _ _ _ _ _ _ _ _ _ _ _ _ _ _ _ _ _ _ _) ?_; clear tr
    refine then_n ?_
    refine at_seq rfl ?_
    refine rg rfl ?_
    refine Rq ?_
    refine Rq ?_
    refine Rq ?_
    refine Rq ?_
    refine Rp_split (fun h2 => ?_) (fun h2 => ?_)
    · try simp only [decide_eq_true_eq, decide_eq_false_iff_not, Bool.not_eq_true', Bool.not_eq_false', beq_iff_eq, beq_eq_false_iff_ne, ne_eq] at h2
      refine Ry ?_
      refine Rq ?_
      refine Ry ?_
      refine Rq ?_
      refine Ry ?_
      refine Rq ?_
      refine Rq ?_
      refine Rq ?_
      refine Rp_split (fun h3 => ?_) (fun h3 => ?_)
      · try simp only [decide_eq_true_eq, decide_eq_false_iff_not, Bool.not_eq_true', Bool.not_eq_false', beq_iff_eq, beq_eq_false_iff_ne, ne_eq] at h3
        refine Ry ?_
        refine Rq ?_
        refine Ry ?_
        refine Rq ?_
        refine Ry ?_
        refine Rq ?_
        refine Rq ?_
        refine Rq ?_
        refine Rp_split (fun h4 => ?_) (fun h4 => ?_)
        · try simp only [decide_eq_true_eq, decide_eq_false_iff_not, Bool.not_eq_true', Bool.not_eq_false', beq_iff_eq, beq_eq_false_iff_ne, ne_eq] at h4
          refine Ry ?_
          refine Rq ?_
          refine Ry ?_
          refine Rq ?_
          refine Ry ?_
          refine Rq ?_
          refine Rq ?_
          refine Rq ?_
          refine Rp_split (fun h5 => ?_) (fun h5 => ?_)
          · try simp only [decide_eq_true_eq, decide_eq_false_iff_not, Bool.not_eq_true', Bool.not_eq_false', beq_iff_eq, beq_eq_false_iff_ne, ne_eq] at h5
            refine Ry ?_
            refine Rq ?_
            refine Ry ?_
            refine Rq ?_
            refine Ry ?_
            refine Rq ?_
            refine Rq ?_
            refine Rq ?_
            refine Rp_split (fun h6 => ?_) (fun h6 => ?_)
            · try simp only [decide_eq_true_eq, decide_eq_false_iff_not, Bool.not_eq_true', Bool.not_eq_false', beq_iff_eq, beq_eq_false_iff_ne, ne_eq] at h6
              refine Ry ?_
              refine Rq ?_
              refine Ry ?_
              refine Rq ?_
              refine Ry ?_
              refine Rq ?_
              refine Rq ?_
              refine Rq ?_
              have tr : ∀ y0 y1 y2 y3 y5 y6 y7 y8 y9 y10 y11 y12 y13 y14 y15 y16 y17 y18 y20 y23 z0 z1 z2 z3 z4 z5 z6 z7 z8 z9 z10 z11 z12 z13 z14 z15 z16 z17 z18 z19 z20 z21 z22 z23 z24 z25 z26 z27 z28 : AV, trim [(6, z28), (100, z27), (99, z26), (98, z25), (97, z24), (96, z23), (95, z22), (94, z21), (93, z20), (92, z19), (91, z18), (90, z17), (89, z16), (88, z15), (87, z14), (86, z13), (85, z12), (84, z11), (83, z10), (82, z9), (81, z8), (80, z7), (79, z6), (78, z5), (77, z4), (76, z3), (75, z2), (74, z1), (73, z0), (0, y0), (1, y1), (2, y2), (3, y3), (5, y5), (6, y6), (7, y7), (8, y8), (9, y9), (10, y10), (11, y11), (12, y12), (13, y13), (14, y14), (15, y15), (16, y16), (17, y17), (18, y18), (20, y20), (23, y23)] [(0, y0), (1, y1), (2, y2), (3, y3), (5, y5), (6, y6), (7, y7), (8, y8), (9, y9), (10, y10), (11, y11), (12, y12), (13, y13), (14, y14), (15, y15), (16, y16), (17, y17), (18, y18), (20, y20), (23, y23)] = [(0, y0), (1, y1), (2, y2), (3, y3), (5, y5), (6, z28), (7, y7), (8, y8), (9, y9), (10, y10), (11, y11), (12, y12), (13, y13), (14, y14), (15, y15), (16, y16), (17, y17), (18, y18), (20, y20), (23, y23)] := fun y0 y1 y2 y3 y5 y6 y7 y8 y9 y10 y11 y12 y13 y14 y15 y16 y17 y18 y20 y23 z0 z1 z2 z3 z4 z5 z6 z7 z8 z9 z10 z11 z12 z13 z14 z15 z16 z17 z18 z19 z20 z21 z22 z23 z24 z25 z26 z27 z28 => rfl
              refine R_nil (tr _ _ _ _ _ _ _ _ _ _ _ _ _ _ _ _ _ _ _ _ _ _ _ _ _ _ _ _ _ _ _ _ _ _ _ _ _ _ _ _ _ _ _ _ _ _ _ _ _) ?_; clear tr
              refine then_n ?_
              refine at_ret rfl ?_
              refine fpure ?_
              first | rfl | simp
            · try simp only [decide_eq_true_eq, decide_eq_false_iff_not, Bool.not_eq_true', Bool.not_eq_false', beq_iff_eq, beq_eq_false_iff_ne, ne_eq] at h6
              first | omega | exact absurd trivial (by assumption)
          · try simp only [decide_eq_true_eq, decide_eq_false_iff_not, Bool.not_eq_true', Bool.not_eq_false', beq_iff_eq, beq_eq_false_iff_ne, ne_eq] at h5
            first | omega | exact absurd trivial (by assumption)
        · try simp only [decide_eq_true_eq, decide_eq_false_iff_not, Bool.not_eq_true', Bool.not_eq_false', beq_iff_eq, beq_eq_false_iff_ne, ne_eq] at h4
          first | omega | exact absurd trivial (by assumption)
      · try simp only [decide_eq_true_eq, decide_eq_false_iff_not, Bool.not_eq_true', Bool.not_eq_false', beq_iff_eq, beq_eq_false_iff_ne, ne_eq] at h3
        first | omega | exact absurd trivial (by assumption)
    · try simp only [decide_eq_true_eq, decide_eq_false_iff_not, Bool.not_eq_true', Bool.not_eq_false', beq_iff_eq, beq_eq_false_iff_ne, ne_eq] at h2
      first | omega | exact absurd trivial (by assumption)

end Go.Proofs.Ytaoondlakhocnaa
