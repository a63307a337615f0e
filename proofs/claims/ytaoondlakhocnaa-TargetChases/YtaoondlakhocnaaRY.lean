/-
  Walks of chapters 37, 39 and 40. The steps are written by program (walk.py).
-/
import Derived.Test.YtaoondlakhocnaaRX
set_option linter.unusedSimpArgs false
set_option linter.unusedVariables false
set_option maxHeartbeats 40000000
set_option maxRecDepth 4000
namespace Go.Proofs.Ytaoondlakhocnaa
open Go Go.Am

theorem pat_ok (lim : Nat) (H : Heap) (rows : Tb) (per tot wth balls : Int) (l m : List Stp) (n w : Int) :
    ACall sig lim 23 [.agg [rowsAV rows, AV.i per, AV.i tot, AV.i wth, AV.i balls, stopsAV l, stopsAV m], AV.i n, AV.i w] H fun r H' => r = .tup [AV.i (patS rows per tot wth balls l m n w).1, AV.i (patS rows per tot wth balls l m n w).2] ∧ H' = H := by
  refine ACall_pure (fa := fa23) rfl rfl rfl rfl ?_
  have tr : ∀ a0 a1 a2 : AV, env0 fa23.keep [a0, a1, a2] = [(0, a0), (1, a1), (2, a2), (3, .any), (6, .any), (7, .any), (9, .any), (10, .any), (11, .any), (12, .any), (13, .any), (14, .any), (15, .any), (16, .any), (17, .any), (25, .any), (38, .any), (46, .any), (68, .any)] := fun a0 a1 a2 => rfl
  refine W_to (tr _ _ _) ?_; clear tr
  refine at_seq rfl ?_
  refine rg rfl ?_
  refine R_box rfl (by simp (disch := first | omega | (simp only [List.length_map, List.length_append, List.length_set, List.length_cons, List.length_nil, List.length_take, List.length_drop]; omega)) only [go_sem, ↓reduceIte, Nat.reduceEqDiff, reduceCtorEq]; rfl) rfl rfl ?_
  refine Rq ?_
  refine Rq ?_
  have tr : ∀ y0 y1 y2 y3 y6 y7 y9 y10 y11 y12 y13 y14 y15 y16 y17 y25 y38 y46 y68 z0 z1 z2 : AV, trim [(7, z2), (6, z1), (3, z0), (0, y0), (1, y1), (2, y2), (3, y3), (6, y6), (7, y7), (9, y9), (10, y10), (11, y11), (12, y12), (13, y13), (14, y14), (15, y15), (16, y16), (17, y17), (25, y25), (38, y38), (46, y46), (68, y68)] [(0, y0), (1, y1), (2, y2), (3, y3), (6, y6), (7, y7), (9, y9), (10, y10), (11, y11), (12, y12), (13, y13), (14, y14), (15, y15), (16, y16), (17, y17), (25, y25), (38, y38), (46, y46), (68, y68)] = [(0, y0), (1, y1), (2, y2), (3, z0), (6, z1), (7, z2), (9, y9), (10, y10), (11, y11), (12, y12), (13, y13), (14, y14), (15, y15), (16, y16), (17, y17), (25, y25), (38, y38), (46, y46), (68, y68)] := fun y0 y1 y2 y3 y6 y7 y9 y10 y11 y12 y13 y14 y15 y16 y17 y25 y38 y46 y68 z0 z1 z2 => rfl
  refine R_nil (tr _ _ _ _ _ _ _ _ _ _ _ _ _ _ _ _ _ _ _ _ _ _) ?_; clear tr
  refine then_n ?_
  refine at_seq rfl ?_
  refine at_seq rfl ?_
  refine rg rfl ?_
  refine Rq ?_
  refine Rcall ?_
  refine ACall_eq (tgt_ok _ _ rows per tot wth balls l m) ?_
  refine Rq ?_
  refine Rq ?_
  refine Rq ?_
  refine Rq ?_
  refine Rq ?_
  have tr : ∀ y0 y1 y2 y3 y6 y7 y9 y10 y11 y12 y13 y14 y15 y16 y17 y25 y38 y46 y68 z0 z1 z2 z3 z4 z5 z6 : AV, trim [(9, z6), (8, z5), (23, z4), (22, z3), (19, z2), (21, z1), (20, z0), (0, y0), (1, y1), (2, y2), (3, y3), (6, y6), (7, y7), (9, y9), (10, y10), (11, y11), (12, y12), (13, y13), (14, y14), (15, y15), (16, y16), (17, y17), (25, y25), (38, y38), (46, y46), (68, y68)] [(0, y0), (1, y1), (2, y2), (3, y3), (6, y6), (7, y7), (9, y9), (10, y10), (11, y11), (12, y12), (13, y13), (14, y14), (15, y15), (16, y16), (17, y17), (25, y25), (38, y38), (46, y46), (68, y68)] = [(0, y0), (1, y1), (2, y2), (3, y3), (6, y6), (7, y7), (9, z6), (10, y10), (11, y11), (12, y12), (13, y13), (14, y14), (15, y15), (16, y16), (17, y17), (25, y25), (38, y38), (46, y46), (68, y68)] := fun y0 y1 y2 y3 y6 y7 y9 y10 y11 y12 y13 y14 y15 y16 y17 y25 y38 y46 y68 z0 z1 z2 z3 z4 z5 z6 => rfl
  refine R_nil (tr _ _ _ _ _ _ _ _ _ _ _ _ _ _ _ _ _ _ _ _ _ _ _ _ _ _) ?_; clear tr
  refine then_n ?_
  refine at_seq rfl ?_
  refine rg rfl ?_
  refine Rq ?_
  refine Rq ?_
  have tr : ∀ y0 y1 y2 y3 y6 y7 y9 y10 y11 y12 y13 y14 y15 y16 y17 y25 y38 y46 y68 z0 z1 : AV, trim [(25, z1), (24, z0), (0, y0), (1, y1), (2, y2), (3, y3), (6, y6), (7, y7), (9, y9), (10, y10), (11, y11), (12, y12), (13, y13), (14, y14), (15, y15), (16, y16), (17, y17), (25, y25), (38, y38), (46, y46), (68, y68)] [(0, y0), (1, y1), (2, y2), (3, y3), (6, y6), (7, y7), (9, y9), (10, y10), (11, y11), (12, y12), (13, y13), (14, y14), (15, y15), (16, y16), (17, y17), (25, y25), (38, y38), (46, y46), (68, y68)] = [(0, y0), (1, y1), (2, y2), (3, y3), (6, y6), (7, y7), (9, y9), (10, y10), (11, y11), (12, y12), (13, y13), (14, y14), (15, y15), (16, y16), (17, y17), (25, z1), (38, y38), (46, y46), (68, y68)] := fun y0 y1 y2 y3 y6 y7 y9 y10 y11 y12 y13 y14 y15 y16 y17 y25 y38 y46 y68 z0 z1 => rfl
  refine R_nil (tr _ _ _ _ _ _ _ _ _ _ _ _ _ _ _ _ _ _ _ _ _) ?_; clear tr
  refine then_n ?_
  refine cdd (fun h1 => ?_) (fun h1 => ?_)
  · try simp only [decide_eq_true_eq, decide_eq_false_iff_not, Bool.not_eq_true', Bool.not_eq_false', beq_iff_eq, beq_eq_false_iff_ne, ne_eq] at h1
    refine at_seq rfl ?_
    refine rg rfl ?_
    refine Rq ?_
    refine Rq ?_
    refine Rq ?_
    have tr : ∀ y0 y1 y2 y3 y6 y7 y9 y10 y11 y12 y13 y14 y15 y16 y17 y25 y38 y46 y68 z0 z1 z2 : AV, trim [(7, z2), (6, z1), (26, z0), (0, y0), (1, y1), (2, y2), (3, y3), (6, y6), (7, y7), (9, y9), (10, y10), (11, y11), (12, y12), (13, y13), (14, y14), (15, y15), (16, y16), (17, y17), (25, y25), (38, y38), (46, y46), (68, y68)] [(0, y0), (1, y1), (2, y2), (3, y3), (6, y6), (7, y7), (9, y9), (10, y10), (11, y11), (12, y12), (13, y13), (14, y14), (15, y15), (16, y16), (17, y17), (25, y25), (38, y38), (46, y46), (68, y68)] = [(0, y0), (1, y1), (2, y2), (3, y3), (6, z1), (7, z2), (9, y9), (10, y10), (11, y11), (12, y12), (13, y13), (14, y14), (15, y15), (16, y16), (17, y17), (25, y25), (38, y38), (46, y46), (68, y68)] := fun y0 y1 y2 y3 y6 y7 y9 y10 y11 y12 y13 y14 y15 y16 y17 y25 y38 y46 y68 z0 z1 z2 => rfl
    refine R_nil (tr _ _ _ _ _ _ _ _ _ _ _ _ _ _ _ _ _ _ _ _ _ _) ?_; clear tr
    refine then_n ?_
    refine at_ret rfl ?_
    refine then_r ?_
    refine fpure ?_
    refine ⟨?_, rfl⟩
    first | (rw [patS, if_pos (by assumption)]; done) | (rw [patS, if_neg (by omega), if_pos (by assumption)]; done) | (rw [patS, if_neg (by omega), if_neg (by omega), if_pos (by omega)]; done) | (rw [patS, if_neg (by omega), if_neg (by omega), if_neg (by omega)]; done)
  · try simp only [decide_eq_true_eq, decide_eq_false_iff_not, Bool.not_eq_true', Bool.not_eq_false', beq_iff_eq, beq_eq_false_iff_ne, ne_eq] at h1
    refine at_skip rfl ?_
    refine then_n ?_
    refine at_seq rfl ?_
    refine rg rfl ?_
    refine Rq ?_
    refine Rq ?_
    refine Rq ?_
    refine Rq ?_
    refine Rq ?_
    refine Rq ?_
    refine Rcall ?_
    refine ACall_eq (at_ok _ _ rows per n w) ?_
    refine Rq ?_
    refine Rq ?_
    refine Rq ?_
    refine Rq ?_
    refine Rq ?_
    have tr : ∀ y0 y1 y2 y3 y6 y7 y9 y10 y11 y12 y13 y14 y15 y16 y17 y25 y38 y46 y68 z0 z1 z2 z3 z4 z5 z6 z7 z8 z9 z10 z11 : AV, trim [(11, z11), (10, z10), (36, z9), (35, z8), (27, z7), (34, z6), (33, z5), (32, z4), (31, z3), (30, z2), (29, z1), (28, z0), (0, y0), (1, y1), (2, y2), (3, y3), (6, y6), (7, y7), (9, y9), (10, y10), (11, y11), (12, y12), (13, y13), (14, y14), (15, y15), (16, y16), (17, y17), (25, y25), (38, y38), (46, y46), (68, y68)] [(0, y0), (1, y1), (2, y2), (3, y3), (6, y6), (7, y7), (9, y9), (10, y10), (11, y11), (12, y12), (13, y13), (14, y14), (15, y15), (16, y16), (17, y17), (25, y25), (38, y38), (46, y46), (68, y68)] = [(0, y0), (1, y1), (2, y2), (3, y3), (6, y6), (7, y7), (9, y9), (10, z10), (11, z11), (12, y12), (13, y13), (14, y14), (15, y15), (16, y16), (17, y17), (25, y25), (38, y38), (46, y46), (68, y68)] := fun y0 y1 y2 y3 y6 y7 y9 y10 y11 y12 y13 y14 y15 y16 y17 y25 y38 y46 y68 z0 z1 z2 z3 z4 z5 z6 z7 z8 z9 z10 z11 => rfl
    refine R_nil (tr _ _ _ _ _ _ _ _ _ _ _ _ _ _ _ _ _ _ _ _ _ _ _ _ _ _ _ _ _ _ _) ?_; clear tr
    refine then_n ?_
    refine at_seq rfl ?_
    refine at_seq rfl ?_
    refine rg rfl ?_
    refine Rq ?_
    refine Rq ?_
    have tr : ∀ y0 y1 y2 y3 y6 y7 y9 y10 y11 y12 y13 y14 y15 y16 y17 y25 y38 y46 y68 z0 z1 : AV, trim [(38, z1), (37, z0), (0, y0), (1, y1), (2, y2), (3, y3), (6, y6), (7, y7), (9, y9), (10, y10), (11, y11), (12, y12), (13, y13), (14, y14), (15, y15), (16, y16), (17, y17), (25, y25), (38, y38), (46, y46), (68, y68)] [(0, y0), (1, y1), (2, y2), (3, y3), (6, y6), (7, y7), (9, y9), (10, y10), (11, y11), (12, y12), (13, y13), (14, y14), (15, y15), (16, y16), (17, y17), (25, y25), (38, y38), (46, y46), (68, y68)] = [(0, y0), (1, y1), (2, y2), (3, y3), (6, y6), (7, y7), (9, y9), (10, y10), (11, y11), (12, y12), (13, y13), (14, y14), (15, y15), (16, y16), (17, y17), (25, y25), (38, z1), (46, y46), (68, y68)] := fun y0 y1 y2 y3 y6 y7 y9 y10 y11 y12 y13 y14 y15 y16 y17 y25 y38 y46 y68 z0 z1 => rfl
    refine R_nil (tr _ _ _ _ _ _ _ _ _ _ _ _ _ _ _ _ _ _ _ _ _) ?_; clear tr
    refine then_n ?_
    refine cdd (fun h2 => ?_) (fun h2 => ?_)
    · try simp only [decide_eq_true_eq, decide_eq_false_iff_not, Bool.not_eq_true', Bool.not_eq_false', beq_iff_eq, beq_eq_false_iff_ne, ne_eq] at h2
      refine at_seq rfl ?_
      refine rg rfl ?_
      refine Rq ?_
      refine Rq ?_
      refine Rq ?_
      have tr : ∀ y0 y1 y2 y3 y6 y7 y9 y10 y11 y12 y13 y14 y15 y16 y17 y25 y38 y46 y68 z0 z1 z2 : AV, trim [(7, z2), (6, z1), (39, z0), (0, y0), (1, y1), (2, y2), (3, y3), (6, y6), (7, y7), (9, y9), (10, y10), (11, y11), (12, y12), (13, y13), (14, y14), (15, y15), (16, y16), (17, y17), (25, y25), (38, y38), (46, y46), (68, y68)] [(0, y0), (1, y1), (2, y2), (3, y3), (6, y6), (7, y7), (9, y9), (10, y10), (11, y11), (12, y12), (13, y13), (14, y14), (15, y15), (16, y16), (17, y17), (25, y25), (38, y38), (46, y46), (68, y68)] = [(0, y0), (1, y1), (2, y2), (3, y3), (6, z1), (7, z2), (9, y9), (10, y10), (11, y11), (12, y12), (13, y13), (14, y14), (15, y15), (16, y16), (17, y17), (25, y25), (38, y38), (46, y46), (68, y68)] := fun y0 y1 y2 y3 y6 y7 y9 y10 y11 y12 y13 y14 y15 y16 y17 y25 y38 y46 y68 z0 z1 z2 => rfl
      refine R_nil (tr _ _ _ _ _ _ _ _ _ _ _ _ _ _ _ _ _ _ _ _ _ _) ?_; clear tr
      refine then_n ?_
      refine at_ret rfl ?_
      refine then_r ?_
      refine fpure ?_
      refine ⟨?_, rfl⟩
      first | (rw [patS, if_pos (by assumption)]; done) | (rw [patS, if_neg (by omega), if_pos (by assumption)]; done) | (rw [patS, if_neg (by omega), if_neg (by omega), if_pos (by omega)]; done) | (rw [patS, if_neg (by omega), if_neg (by omega), if_neg (by omega)]; done)
    · try simp only [decide_eq_true_eq, decide_eq_false_iff_not, Bool.not_eq_true', Bool.not_eq_false', beq_iff_eq, beq_eq_false_iff_ne, ne_eq] at h2
      refine at_skip rfl ?_
      refine then_n ?_
      refine at_seq rfl ?_
      refine rg rfl ?_
      have hE := tgt_E (by assumption : (tgtS rows per tot wth balls l m).2 = 0)
      have e3 : res3 rows per balls l m = 10000 * per := by rw [res3, if_pos hE]
      have hper := res_per hE
      have hml := (left_zero (res_zero hE).2).1.most
      have hm := most_case balls m
      refine Rq ?_
      refine Rq ?_
      refine Rq ?_
      refine Rq ?_
      have tr : ∀ y0 y1 y2 y3 y6 y7 y9 y10 y11 y12 y13 y14 y15 y16 y17 y25 y38 y46 y68 z0 z1 z2 z3 : AV, trim [(13, z3), (12, z2), (41, z1), (40, z0), (0, y0), (1, y1), (2, y2), (3, y3), (6, y6), (7, y7), (9, y9), (10, y10), (11, y11), (12, y12), (13, y13), (14, y14), (15, y15), (16, y16), (17, y17), (25, y25), (38, y38), (46, y46), (68, y68)] [(0, y0), (1, y1), (2, y2), (3, y3), (6, y6), (7, y7), (9, y9), (10, y10), (11, y11), (12, y12), (13, y13), (14, y14), (15, y15), (16, y16), (17, y17), (25, y25), (38, y38), (46, y46), (68, y68)] = [(0, y0), (1, y1), (2, y2), (3, y3), (6, y6), (7, y7), (9, y9), (10, y10), (11, y11), (12, z2), (13, z3), (14, y14), (15, y15), (16, y16), (17, y17), (25, y25), (38, y38), (46, y46), (68, y68)] := fun y0 y1 y2 y3 y6 y7 y9 y10 y11 y12 y13 y14 y15 y16 y17 y25 y38 y46 y68 z0 z1 z2 z3 => rfl
      refine R_nil (tr _ _ _ _ _ _ _ _ _ _ _ _ _ _ _ _ _ _ _ _ _ _ _) ?_; clear tr
      refine then_n ?_
      refine at_seq rfl ?_
      refine at_seq rfl ?_
      refine rg rfl ?_
      refine Rq ?_
      refine Rq ?_
      refine Rq ?_
      refine Rq ?_
      have tr : ∀ y0 y1 y2 y3 y6 y7 y9 y10 y11 y12 y13 y14 y15 y16 y17 y25 y38 y46 y68 z0 z1 z2 z3 : AV, trim [(14, z3), (44, z2), (43, z1), (42, z0), (0, y0), (1, y1), (2, y2), (3, y3), (6, y6), (7, y7), (9, y9), (10, y10), (11, y11), (12, y12), (13, y13), (14, y14), (15, y15), (16, y16), (17, y17), (25, y25), (38, y38), (46, y46), (68, y68)] [(0, y0), (1, y1), (2, y2), (3, y3), (6, y6), (7, y7), (9, y9), (10, y10), (11, y11), (12, y12), (13, y13), (14, y14), (15, y15), (16, y16), (17, y17), (25, y25), (38, y38), (46, y46), (68, y68)] = [(0, y0), (1, y1), (2, y2), (3, y3), (6, y6), (7, y7), (9, y9), (10, y10), (11, y11), (12, y12), (13, y13), (14, z3), (15, y15), (16, y16), (17, y17), (25, y25), (38, y38), (46, y46), (68, y68)] := fun y0 y1 y2 y3 y6 y7 y9 y10 y11 y12 y13 y14 y15 y16 y17 y25 y38 y46 y68 z0 z1 z2 z3 => rfl
      refine R_nil (tr _ _ _ _ _ _ _ _ _ _ _ _ _ _ _ _ _ _ _ _ _ _ _) ?_; clear tr
      refine then_n ?_
      refine at_seq rfl ?_
      refine rg rfl ?_
      refine Rq ?_
      refine Rq ?_
      have tr : ∀ y0 y1 y2 y3 y6 y7 y9 y10 y11 y12 y13 y14 y15 y16 y17 y25 y38 y46 y68 z0 z1 : AV, trim [(46, z1), (45, z0), (0, y0), (1, y1), (2, y2), (3, y3), (6, y6), (7, y7), (9, y9), (10, y10), (11, y11), (12, y12), (13, y13), (14, y14), (15, y15), (16, y16), (17, y17), (25, y25), (38, y38), (46, y46), (68, y68)] [(0, y0), (1, y1), (2, y2), (3, y3), (6, y6), (7, y7), (9, y9), (10, y10), (11, y11), (12, y12), (13, y13), (14, y14), (15, y15), (16, y16), (17, y17), (25, y25), (38, y38), (46, y46), (68, y68)] = [(0, y0), (1, y1), (2, y2), (3, y3), (6, y6), (7, y7), (9, y9), (10, y10), (11, y11), (12, y12), (13, y13), (14, y14), (15, y15), (16, y16), (17, y17), (25, y25), (38, y38), (46, z1), (68, y68)] := fun y0 y1 y2 y3 y6 y7 y9 y10 y11 y12 y13 y14 y15 y16 y17 y25 y38 y46 y68 z0 z1 => rfl
      refine R_nil (tr _ _ _ _ _ _ _ _ _ _ _ _ _ _ _ _ _ _ _ _ _) ?_; clear tr
      refine then_n ?_
      refine cdd (fun h3 => ?_) (fun h3 => ?_)
      · try simp only [decide_eq_true_eq, decide_eq_false_iff_not, Bool.not_eq_true', Bool.not_eq_false', beq_iff_eq, beq_eq_false_iff_ne, ne_eq] at h3
        refine rd rfl rfl ?_
        refine Qq ?_
        refine Qq ?_
        refine Qq ?_
        refine Qq ?_
        refine Qq ?_
        refine Qq ?_
        refine Qq ?_
        refine Qq ?_
        refine Qq ?_
        refine Qq ?_
        refine Qq ?_
        refine Qq ?_
        refine Qq ?_
        refine Qq ?_
        refine Qq ?_
        refine Qq ?_
        refine Q_nil ?_
        have tr : ∀ y0 y1 y2 y3 y6 y7 y9 y10 y11 y12 y13 y14 y15 y16 y17 y25 y38 y46 y68 z0 z1 z2 z3 z4 z5 z6 z7 z8 z9 z10 z11 z12 z13 z14 z15 : AV, trim [(13, z15), (12, z14), (60, z13), (59, z12), (58, z11), (57, z10), (56, z9), (55, z8), (54, z7), (53, z6), (52, z5), (51, z4), (50, z3), (49, z2), (48, z1), (47, z0), (0, y0), (1, y1), (2, y2), (3, y3), (6, y6), (7, y7), (9, y9), (10, y10), (11, y11), (12, y12), (13, y13), (14, y14), (15, y15), (16, y16), (17, y17), (25, y25), (38, y38), (46, y46), (68, y68)] [(0, y0), (1, y1), (2, y2), (3, y3), (6, y6), (7, y7), (9, y9), (10, y10), (11, y11), (12, y12), (13, y13), (14, y14), (15, y15), (16, y16), (17, y17), (25, y25), (38, y38), (46, y46), (68, y68)] = [(0, y0), (1, y1), (2, y2), (3, y3), (6, y6), (7, y7), (9, y9), (10, y10), (11, y11), (12, z14), (13, z15), (14, y14), (15, y15), (16, y16), (17, y17), (25, y25), (38, y38), (46, y46), (68, y68)] := fun y0 y1 y2 y3 y6 y7 y9 y10 y11 y12 y13 y14 y15 y16 y17 y25 y38 y46 y68 z0 z1 z2 z3 z4 z5 z6 z7 z8 z9 z10 z11 z12 z13 z14 z15 => rfl
        refine R_nil (tr _ _ _ _ _ _ _ _ _ _ _ _ _ _ _ _ _ _ _ _ _ _ _ _ _ _ _ _ _ _ _ _ _ _ _) ?_; clear tr
        refine then_n ?_
        refine at_seq rfl ?_
        refine at_seq rfl ?_
        refine rg rfl ?_
        refine Rq ?_
        refine Rq ?_
        refine Rq ?_
        refine Rq ?_
        refine Rp_split (fun h4 => ?_) (fun h4 => ?_)
        · try simp only [decide_eq_true_eq, decide_eq_false_iff_not, Bool.not_eq_true', Bool.not_eq_false', beq_iff_eq, beq_eq_false_iff_ne, ne_eq] at h4
          refine Rn ?_
          refine Rn ?_
          refine Rn ?_
          refine Rq ?_
          have tr : ∀ y0 y1 y2 y3 y6 y7 y9 y10 y11 y12 y13 y14 y15 y16 y17 y25 y38 y46 y68 z0 z1 z2 z3 z4 z5 z6 z7 : AV, trim [(68, z7), (67, z6), (66, z5), (65, z4), (64, z3), (63, z2), (62, z1), (61, z0), (0, y0), (1, y1), (2, y2), (3, y3), (6, y6), (7, y7), (9, y9), (10, y10), (11, y11), (12, y12), (13, y13), (14, y14), (15, y15), (16, y16), (17, y17), (25, y25), (38, y38), (46, y46), (68, y68)] [(0, y0), (1, y1), (2, y2), (3, y3), (6, y6), (7, y7), (9, y9), (10, y10), (11, y11), (12, y12), (13, y13), (14, y14), (15, y15), (16, y16), (17, y17), (25, y25), (38, y38), (46, y46), (68, y68)] = [(0, y0), (1, y1), (2, y2), (3, y3), (6, y6), (7, y7), (9, y9), (10, y10), (11, y11), (12, y12), (13, y13), (14, y14), (15, y15), (16, y16), (17, y17), (25, y25), (38, y38), (46, y46), (68, z7)] := fun y0 y1 y2 y3 y6 y7 y9 y10 y11 y12 y13 y14 y15 y16 y17 y25 y38 y46 y68 z0 z1 z2 z3 z4 z5 z6 z7 => rfl
          refine R_nil (tr _ _ _ _ _ _ _ _ _ _ _ _ _ _ _ _ _ _ _ _ _ _ _ _ _ _ _) ?_; clear tr
          refine then_n ?_
          refine cdt ?_
          refine at_seq rfl ?_
          refine rg rfl ?_
          refine Rq ?_
          refine Rq ?_
          have tr : ∀ y0 y1 y2 y3 y6 y7 y9 y10 y11 y12 y13 y14 y15 y16 y17 y25 y38 y46 y68 z0 z1 : AV, trim [(7, z1), (6, z0), (0, y0), (1, y1), (2, y2), (3, y3), (6, y6), (7, y7), (9, y9), (10, y10), (11, y11), (12, y12), (13, y13), (14, y14), (15, y15), (16, y16), (17, y17), (25, y25), (38, y38), (46, y46), (68, y68)] [(0, y0), (1, y1), (2, y2), (3, y3), (6, y6), (7, y7), (9, y9), (10, y10), (11, y11), (12, y12), (13, y13), (14, y14), (15, y15), (16, y16), (17, y17), (25, y25), (38, y38), (46, y46), (68, y68)] = [(0, y0), (1, y1), (2, y2), (3, y3), (6, z0), (7, z1), (9, y9), (10, y10), (11, y11), (12, y12), (13, y13), (14, y14), (15, y15), (16, y16), (17, y17), (25, y25), (38, y38), (46, y46), (68, y68)] := fun y0 y1 y2 y3 y6 y7 y9 y10 y11 y12 y13 y14 y15 y16 y17 y25 y38 y46 y68 z0 z1 => rfl
          refine R_nil (tr _ _ _ _ _ _ _ _ _ _ _ _ _ _ _ _ _ _ _ _ _) ?_; clear tr
          refine then_n ?_
          refine at_ret rfl ?_
          refine then_r ?_
          refine fpure ?_
          refine ⟨?_, rfl⟩
          first | (rw [patS, if_pos (by assumption)]; done) | (rw [patS, if_neg (by omega), if_pos (by assumption)]; done) | (rw [patS, if_neg (by omega), if_neg (by omega), if_pos (by omega)]; done) | (rw [patS, if_neg (by omega), if_neg (by omega), if_neg (by omega)]; done)
        · try simp only [decide_eq_true_eq, decide_eq_false_iff_not, Bool.not_eq_true', Bool.not_eq_false', beq_iff_eq, beq_eq_false_iff_ne, ne_eq] at h4
          refine Ry ?_
          refine Rq ?_
          refine Ry ?_
          refine Rq ?_
          refine Ry ?_
          refine Rq ?_
          refine Rq ?_
          have tr : ∀ y0 y1 y2 y3 y6 y7 y9 y10 y11 y12 y13 y14 y15 y16 y17 y25 y38 y46 y68 z0 z1 z2 z3 z4 z5 z6 z7 : AV, trim [(68, z7), (67, z6), (66, z5), (65, z4), (64, z3), (63, z2), (62, z1), (61, z0), (0, y0), (1, y1), (2, y2), (3, y3), (6, y6), (7, y7), (9, y9), (10, y10), (11, y11), (12, y12), (13, y13), (14, y14), (15, y15), (16, y16), (17, y17), (25, y25), (38, y38), (46, y46), (68, y68)] [(0, y0), (1, y1), (2, y2), (3, y3), (6, y6), (7, y7), (9, y9), (10, y10), (11, y11), (12, y12), (13, y13), (14, y14), (15, y15), (16, y16), (17, y17), (25, y25), (38, y38), (46, y46), (68, y68)] = [(0, y0), (1, y1), (2, y2), (3, y3), (6, y6), (7, y7), (9, y9), (10, y10), (11, y11), (12, y12), (13, y13), (14, y14), (15, y15), (16, y16), (17, y17), (25, y25), (38, y38), (46, y46), (68, z7)] := fun y0 y1 y2 y3 y6 y7 y9 y10 y11 y12 y13 y14 y15 y16 y17 y25 y38 y46 y68 z0 z1 z2 z3 z4 z5 z6 z7 => rfl
          refine R_nil (tr _ _ _ _ _ _ _ _ _ _ _ _ _ _ _ _ _ _ _ _ _ _ _ _ _ _ _) ?_; clear tr
          refine then_n ?_
          refine cdd (fun h5 => ?_) (fun h5 => ?_)
          · try simp only [decide_eq_true_eq, decide_eq_false_iff_not, Bool.not_eq_true', Bool.not_eq_false', beq_iff_eq, beq_eq_false_iff_ne, ne_eq] at h5
            refine at_seq rfl ?_
            refine rg rfl ?_
            refine Rq ?_
            refine Rq ?_
            have tr : ∀ y0 y1 y2 y3 y6 y7 y9 y10 y11 y12 y13 y14 y15 y16 y17 y25 y38 y46 y68 z0 z1 : AV, trim [(7, z1), (6, z0), (0, y0), (1, y1), (2, y2), (3, y3), (6, y6), (7, y7), (9, y9), (10, y10), (11, y11), (12, y12), (13, y13), (14, y14), (15, y15), (16, y16), (17, y17), (25, y25), (38, y38), (46, y46), (68, y68)] [(0, y0), (1, y1), (2, y2), (3, y3), (6, y6), (7, y7), (9, y9), (10, y10), (11, y11), (12, y12), (13, y13), (14, y14), (15, y15), (16, y16), (17, y17), (25, y25), (38, y38), (46, y46), (68, y68)] = [(0, y0), (1, y1), (2, y2), (3, y3), (6, z0), (7, z1), (9, y9), (10, y10), (11, y11), (12, y12), (13, y13), (14, y14), (15, y15), (16, y16), (17, y17), (25, y25), (38, y38), (46, y46), (68, y68)] := fun y0 y1 y2 y3 y6 y7 y9 y10 y11 y12 y13 y14 y15 y16 y17 y25 y38 y46 y68 z0 z1 => rfl
            refine R_nil (tr _ _ _ _ _ _ _ _ _ _ _ _ _ _ _ _ _ _ _ _ _) ?_; clear tr
            refine then_n ?_
            refine at_ret rfl ?_
            refine then_r ?_
            refine fpure ?_
            refine ⟨?_, rfl⟩
            first | (rw [patS, if_pos (by assumption)]; done) | (rw [patS, if_neg (by omega), if_pos (by assumption)]; done) | (rw [patS, if_neg (by omega), if_neg (by omega), if_pos (by omega)]; done) | (rw [patS, if_neg (by omega), if_neg (by omega), if_neg (by omega)]; done)
          · try simp only [decide_eq_true_eq, decide_eq_false_iff_not, Bool.not_eq_true', Bool.not_eq_false', beq_iff_eq, beq_eq_false_iff_ne, ne_eq] at h5
            refine at_skip rfl ?_
            refine then_n ?_
            refine at_seq rfl ?_
            refine rg rfl ?_
            refine Rq ?_
            refine Rcall ?_
            refine ACall_eq (res_ok _ _ rows per tot wth balls l m) ?_
            refine Rq ?_
            refine Rq ?_
            refine Rq ?_
            refine Rq ?_
            refine Rq ?_
            refine Rq ?_
            refine Rq ?_
            refine Rq ?_
            refine Rq ?_
            have tr : ∀ y0 y1 y2 y3 y6 y7 y9 y10 y11 y12 y13 y14 y15 y16 y17 y25 y38 y46 y68 z0 z1 z2 z3 z4 z5 z6 z7 z8 z9 z10 : AV, trim [(18, z10), (17, z9), (16, z8), (15, z7), (75, z6), (74, z5), (73, z4), (72, z3), (69, z2), (71, z1), (70, z0), (0, y0), (1, y1), (2, y2), (3, y3), (6, y6), (7, y7), (9, y9), (10, y10), (11, y11), (12, y12), (13, y13), (14, y14), (15, y15), (16, y16), (17, y17), (25, y25), (38, y38), (46, y46), (68, y68)] [(0, y0), (1, y1), (2, y2), (3, y3), (6, y6), (7, y7), (9, y9), (10, y10), (11, y11), (12, y12), (13, y13), (14, y14), (15, y15), (16, y16), (17, y17), (25, y25), (38, y38), (46, y46), (68, y68)] = [(0, y0), (1, y1), (2, y2), (3, y3), (6, y6), (7, y7), (9, y9), (10, y10), (11, y11), (12, y12), (13, y13), (14, y14), (15, z7), (16, z8), (17, z9), (25, y25), (38, y38), (46, y46), (68, y68)] := fun y0 y1 y2 y3 y6 y7 y9 y10 y11 y12 y13 y14 y15 y16 y17 y25 y38 y46 y68 z0 z1 z2 z3 z4 z5 z6 z7 z8 z9 z10 => rfl
            refine R_nil (tr _ _ _ _ _ _ _ _ _ _ _ _ _ _ _ _ _ _ _ _ _ _ _ _ _ _ _ _ _ _) ?_; clear tr
            refine then_n ?_
            refine at_seq rfl ?_
            refine rg rfl ?_
            refine Rq ?_
            refine Rq ?_
            refine Rq ?_
            refine Rq ?_
            refine Rq ?_
            refine Rq ?_
            refine Rq ?_
            refine Rq ?_
            refine Rcall ?_
            refine ACall_eq (par_ok _ _ tot (res1 rows per balls l m) (res2 rows per balls l m) (atS rows per n w).1 (res3 rows per balls l m) wth) ?_
            refine Rq ?_
            refine Rq ?_
            refine Rq ?_
            refine Rq ?_
            have tr : ∀ y0 y1 y2 y3 y6 y7 y9 y10 y11 y12 y13 y14 y15 y16 y17 y25 y38 y46 y68 z0 z1 z2 z3 z4 z5 z6 z7 z8 z9 z10 z11 z12 : AV, trim [(7, z12), (6, z11), (86, z10), (85, z9), (84, z8), (83, z7), (82, z6), (81, z5), (80, z4), (79, z3), (78, z2), (77, z1), (76, z0), (0, y0), (1, y1), (2, y2), (3, y3), (6, y6), (7, y7), (9, y9), (10, y10), (11, y11), (12, y12), (13, y13), (14, y14), (15, y15), (16, y16), (17, y17), (25, y25), (38, y38), (46, y46), (68, y68)] [(0, y0), (1, y1), (2, y2), (3, y3), (6, y6), (7, y7), (9, y9), (10, y10), (11, y11), (12, y12), (13, y13), (14, y14), (15, y15), (16, y16), (17, y17), (25, y25), (38, y38), (46, y46), (68, y68)] = [(0, y0), (1, y1), (2, y2), (3, y3), (6, z11), (7, z12), (9, y9), (10, y10), (11, y11), (12, y12), (13, y13), (14, y14), (15, y15), (16, y16), (17, y17), (25, y25), (38, y38), (46, y46), (68, y68)] := fun y0 y1 y2 y3 y6 y7 y9 y10 y11 y12 y13 y14 y15 y16 y17 y25 y38 y46 y68 z0 z1 z2 z3 z4 z5 z6 z7 z8 z9 z10 z11 z12 => rfl
            refine R_nil (tr _ _ _ _ _ _ _ _ _ _ _ _ _ _ _ _ _ _ _ _ _ _ _ _ _ _ _ _ _ _ _ _) ?_; clear tr
            refine then_n ?_
            refine at_ret rfl ?_
            refine fpure ?_
            refine ⟨?_, rfl⟩
            first | (rw [patS, if_pos (by assumption)]; done) | (rw [patS, if_neg (by omega), if_pos (by assumption)]; done) | (rw [patS, if_neg (by omega), if_neg (by omega), if_pos (by omega)]; done) | (rw [patS, if_neg (by omega), if_neg (by omega), if_neg (by omega)]; done)
      · try simp only [decide_eq_true_eq, decide_eq_false_iff_not, Bool.not_eq_true', Bool.not_eq_false', beq_iff_eq, beq_eq_false_iff_ne, ne_eq] at h3
        refine at_skip rfl ?_
        refine then_n ?_
        refine at_seq rfl ?_
        refine at_seq rfl ?_
        refine rg rfl ?_
        refine Rq ?_
        refine Rq ?_
        refine Rq ?_
        refine Rq ?_
        refine Rp_split (fun h6 => ?_) (fun h6 => ?_)
        · try simp only [decide_eq_true_eq, decide_eq_false_iff_not, Bool.not_eq_true', Bool.not_eq_false', beq_iff_eq, beq_eq_false_iff_ne, ne_eq] at h6
          refine Rn ?_
          refine Rn ?_
          refine Rn ?_
          refine Rq ?_
          have tr : ∀ y0 y1 y2 y3 y6 y7 y9 y10 y11 y12 y13 y14 y15 y16 y17 y25 y38 y46 y68 z0 z1 z2 z3 z4 z5 z6 z7 : AV, trim [(68, z7), (67, z6), (66, z5), (65, z4), (64, z3), (63, z2), (62, z1), (61, z0), (0, y0), (1, y1), (2, y2), (3, y3), (6, y6), (7, y7), (9, y9), (10, y10), (11, y11), (12, y12), (13, y13), (14, y14), (15, y15), (16, y16), (17, y17), (25, y25), (38, y38), (46, y46), (68, y68)] [(0, y0), (1, y1), (2, y2), (3, y3), (6, y6), (7, y7), (9, y9), (10, y10), (11, y11), (12, y12), (13, y13), (14, y14), (15, y15), (16, y16), (17, y17), (25, y25), (38, y38), (46, y46), (68, y68)] = [(0, y0), (1, y1), (2, y2), (3, y3), (6, y6), (7, y7), (9, y9), (10, y10), (11, y11), (12, y12), (13, y13), (14, y14), (15, y15), (16, y16), (17, y17), (25, y25), (38, y38), (46, y46), (68, z7)] := fun y0 y1 y2 y3 y6 y7 y9 y10 y11 y12 y13 y14 y15 y16 y17 y25 y38 y46 y68 z0 z1 z2 z3 z4 z5 z6 z7 => rfl
          refine R_nil (tr _ _ _ _ _ _ _ _ _ _ _ _ _ _ _ _ _ _ _ _ _ _ _ _ _ _ _) ?_; clear tr
          refine then_n ?_
          refine cdt ?_
          refine at_seq rfl ?_
          refine rg rfl ?_
          refine Rq ?_
          refine Rq ?_
          have tr : ∀ y0 y1 y2 y3 y6 y7 y9 y10 y11 y12 y13 y14 y15 y16 y17 y25 y38 y46 y68 z0 z1 : AV, trim [(7, z1), (6, z0), (0, y0), (1, y1), (2, y2), (3, y3), (6, y6), (7, y7), (9, y9), (10, y10), (11, y11), (12, y12), (13, y13), (14, y14), (15, y15), (16, y16), (17, y17), (25, y25), (38, y38), (46, y46), (68, y68)] [(0, y0), (1, y1), (2, y2), (3, y3), (6, y6), (7, y7), (9, y9), (10, y10), (11, y11), (12, y12), (13, y13), (14, y14), (15, y15), (16, y16), (17, y17), (25, y25), (38, y38), (46, y46), (68, y68)] = [(0, y0), (1, y1), (2, y2), (3, y3), (6, z0), (7, z1), (9, y9), (10, y10), (11, y11), (12, y12), (13, y13), (14, y14), (15, y15), (16, y16), (17, y17), (25, y25), (38, y38), (46, y46), (68, y68)] := fun y0 y1 y2 y3 y6 y7 y9 y10 y11 y12 y13 y14 y15 y16 y17 y25 y38 y46 y68 z0 z1 => rfl
          refine R_nil (tr _ _ _ _ _ _ _ _ _ _ _ _ _ _ _ _ _ _ _ _ _) ?_; clear tr
          refine then_n ?_
          refine at_ret rfl ?_
          refine then_r ?_
          refine fpure ?_
          refine ⟨?_, rfl⟩
          first | (rw [patS, if_pos (by assumption)]; done) | (rw [patS, if_neg (by omega), if_pos (by assumption)]; done) | (rw [patS, if_neg (by omega), if_neg (by omega), if_pos (by omega)]; done) | (rw [patS, if_neg (by omega), if_neg (by omega), if_neg (by omega)]; done)
        · try simp only [decide_eq_true_eq, decide_eq_false_iff_not, Bool.not_eq_true', Bool.not_eq_false', beq_iff_eq, beq_eq_false_iff_ne, ne_eq] at h6
          refine Ry ?_
          refine Rq ?_
          refine Ry ?_
          refine Rq ?_
          refine Ry ?_
          refine Rq ?_
          refine Rq ?_
          have tr : ∀ y0 y1 y2 y3 y6 y7 y9 y10 y11 y12 y13 y14 y15 y16 y17 y25 y38 y46 y68 z0 z1 z2 z3 z4 z5 z6 z7 : AV, trim [(68, z7), (67, z6), (66, z5), (65, z4), (64, z3), (63, z2), (62, z1), (61, z0), (0, y0), (1, y1), (2, y2), (3, y3), (6, y6), (7, y7), (9, y9), (10, y10), (11, y11), (12, y12), (13, y13), (14, y14), (15, y15), (16, y16), (17, y17), (25, y25), (38, y38), (46, y46), (68, y68)] [(0, y0), (1, y1), (2, y2), (3, y3), (6, y6), (7, y7), (9, y9), (10, y10), (11, y11), (12, y12), (13, y13), (14, y14), (15, y15), (16, y16), (17, y17), (25, y25), (38, y38), (46, y46), (68, y68)] = [(0, y0), (1, y1), (2, y2), (3, y3), (6, y6), (7, y7), (9, y9), (10, y10), (11, y11), (12, y12), (13, y13), (14, y14), (15, y15), (16, y16), (17, y17), (25, y25), (38, y38), (46, y46), (68, z7)] := fun y0 y1 y2 y3 y6 y7 y9 y10 y11 y12 y13 y14 y15 y16 y17 y25 y38 y46 y68 z0 z1 z2 z3 z4 z5 z6 z7 => rfl
          refine R_nil (tr _ _ _ _ _ _ _ _ _ _ _ _ _ _ _ _ _ _ _ _ _ _ _ _ _ _ _) ?_; clear tr
          refine then_n ?_
          refine cdd (fun h7 => ?_) (fun h7 => ?_)
          · try simp only [decide_eq_true_eq, decide_eq_false_iff_not, Bool.not_eq_true', Bool.not_eq_false', beq_iff_eq, beq_eq_false_iff_ne, ne_eq] at h7
            refine at_seq rfl ?_
            refine rg rfl ?_
            refine Rq ?_
            refine Rq ?_
            have tr : ∀ y0 y1 y2 y3 y6 y7 y9 y10 y11 y12 y13 y14 y15 y16 y17 y25 y38 y46 y68 z0 z1 : AV, trim [(7, z1), (6, z0), (0, y0), (1, y1), (2, y2), (3, y3), (6, y6), (7, y7), (9, y9), (10, y10), (11, y11), (12, y12), (13, y13), (14, y14), (15, y15), (16, y16), (17, y17), (25, y25), (38, y38), (46, y46), (68, y68)] [(0, y0), (1, y1), (2, y2), (3, y3), (6, y6), (7, y7), (9, y9), (10, y10), (11, y11), (12, y12), (13, y13), (14, y14), (15, y15), (16, y16), (17, y17), (25, y25), (38, y38), (46, y46), (68, y68)] = [(0, y0), (1, y1), (2, y2), (3, y3), (6, z0), (7, z1), (9, y9), (10, y10), (11, y11), (12, y12), (13, y13), (14, y14), (15, y15), (16, y16), (17, y17), (25, y25), (38, y38), (46, y46), (68, y68)] := fun y0 y1 y2 y3 y6 y7 y9 y10 y11 y12 y13 y14 y15 y16 y17 y25 y38 y46 y68 z0 z1 => rfl
            refine R_nil (tr _ _ _ _ _ _ _ _ _ _ _ _ _ _ _ _ _ _ _ _ _) ?_; clear tr
            refine then_n ?_
            refine at_ret rfl ?_
            refine then_r ?_
            refine fpure ?_
            refine ⟨?_, rfl⟩
            first | (rw [patS, if_pos (by assumption)]; done) | (rw [patS, if_neg (by omega), if_pos (by assumption)]; done) | (rw [patS, if_neg (by omega), if_neg (by omega), if_pos (by omega)]; done) | (rw [patS, if_neg (by omega), if_neg (by omega), if_neg (by omega)]; done)
          · try simp only [decide_eq_true_eq, decide_eq_false_iff_not, Bool.not_eq_true', Bool.not_eq_false', beq_iff_eq, beq_eq_false_iff_ne, ne_eq] at h7
            refine at_skip rfl ?_
            refine then_n ?_
            refine at_seq rfl ?_
            refine rg rfl ?_
            refine Rq ?_
            refine Rcall ?_
            refine ACall_eq (res_ok _ _ rows per tot wth balls l m) ?_
            refine Rq ?_
            refine Rq ?_
            refine Rq ?_
            refine Rq ?_
            refine Rq ?_
            refine Rq ?_
            refine Rq ?_
            refine Rq ?_
            refine Rq ?_
            have tr : ∀ y0 y1 y2 y3 y6 y7 y9 y10 y11 y12 y13 y14 y15 y16 y17 y25 y38 y46 y68 z0 z1 z2 z3 z4 z5 z6 z7 z8 z9 z10 : AV, trim [(18, z10), (17, z9), (16, z8), (15, z7), (75, z6), (74, z5), (73, z4), (72, z3), (69, z2), (71, z1), (70, z0), (0, y0), (1, y1), (2, y2), (3, y3), (6, y6), (7, y7), (9, y9), (10, y10), (11, y11), (12, y12), (13, y13), (14, y14), (15, y15), (16, y16), (17, y17), (25, y25), (38, y38), (46, y46), (68, y68)] [(0, y0), (1, y1), (2, y2), (3, y3), (6, y6), (7, y7), (9, y9), (10, y10), (11, y11), (12, y12), (13, y13), (14, y14), (15, y15), (16, y16), (17, y17), (25, y25), (38, y38), (46, y46), (68, y68)] = [(0, y0), (1, y1), (2, y2), (3, y3), (6, y6), (7, y7), (9, y9), (10, y10), (11, y11), (12, y12), (13, y13), (14, y14), (15, z7), (16, z8), (17, z9), (25, y25), (38, y38), (46, y46), (68, y68)] := fun y0 y1 y2 y3 y6 y7 y9 y10 y11 y12 y13 y14 y15 y16 y17 y25 y38 y46 y68 z0 z1 z2 z3 z4 z5 z6 z7 z8 z9 z10 => rfl
            refine R_nil (tr _ _ _ _ _ _ _ _ _ _ _ _ _ _ _ _ _ _ _ _ _ _ _ _ _ _ _ _ _ _) ?_; clear tr
            refine then_n ?_
            refine at_seq rfl ?_
            refine rg rfl ?_
            refine Rq ?_
            refine Rq ?_
            refine Rq ?_
            refine Rq ?_
            refine Rq ?_
            refine Rq ?_
            refine Rq ?_
            refine Rq ?_
            refine Rcall ?_
            refine ACall_eq (par_ok _ _ tot (res1 rows per balls l m) (res2 rows per balls l m) (atS rows per n w).1 (res3 rows per balls l m) wth) ?_
            refine Rq ?_
            refine Rq ?_
            refine Rq ?_
            refine Rq ?_
            have tr : ∀ y0 y1 y2 y3 y6 y7 y9 y10 y11 y12 y13 y14 y15 y16 y17 y25 y38 y46 y68 z0 z1 z2 z3 z4 z5 z6 z7 z8 z9 z10 z11 z12 : AV, trim [(7, z12), (6, z11), (86, z10), (85, z9), (84, z8), (83, z7), (82, z6), (81, z5), (80, z4), (79, z3), (78, z2), (77, z1), (76, z0), (0, y0), (1, y1), (2, y2), (3, y3), (6, y6), (7, y7), (9, y9), (10, y10), (11, y11), (12, y12), (13, y13), (14, y14), (15, y15), (16, y16), (17, y17), (25, y25), (38, y38), (46, y46), (68, y68)] [(0, y0), (1, y1), (2, y2), (3, y3), (6, y6), (7, y7), (9, y9), (10, y10), (11, y11), (12, y12), (13, y13), (14, y14), (15, y15), (16, y16), (17, y17), (25, y25), (38, y38), (46, y46), (68, y68)] = [(0, y0), (1, y1), (2, y2), (3, y3), (6, z11), (7, z12), (9, y9), (10, y10), (11, y11), (12, y12), (13, y13), (14, y14), (15, y15), (16, y16), (17, y17), (25, y25), (38, y38), (46, y46), (68, y68)] := fun y0 y1 y2 y3 y6 y7 y9 y10 y11 y12 y13 y14 y15 y16 y17 y25 y38 y46 y68 z0 z1 z2 z3 z4 z5 z6 z7 z8 z9 z10 z11 z12 => rfl
            refine R_nil (tr _ _ _ _ _ _ _ _ _ _ _ _ _ _ _ _ _ _ _ _ _ _ _ _ _ _ _ _ _ _ _ _) ?_; clear tr
            refine then_n ?_
            refine at_ret rfl ?_
            refine fpure ?_
            refine ⟨?_, rfl⟩
            first | (rw [patS, if_pos (by assumption)]; done) | (rw [patS, if_neg (by omega), if_pos (by assumption)]; done) | (rw [patS, if_neg (by omega), if_neg (by omega), if_pos (by omega)]; done) | (rw [patS, if_neg (by omega), if_neg (by omega), if_neg (by omega)]; done)

theorem rpat_ok (lim : Nat) (H : Heap) (rows : Tb) (per tot wth balls : Int) (l m : List Stp) (n w : Int) :
    ACall sig lim 32 [.agg [rowsAV rows, AV.i per, AV.i tot, AV.i wth, AV.i balls, stopsAV l, stopsAV m], AV.i n, AV.i w] H fun r H' => r = .tup [AV.i (patS rows per tot wth balls l m n w).1, AV.i (patS rows per tot wth balls l m n w).2] ∧ H' = H := by
  refine ACall_pure (fa := fa32) rfl rfl rfl rfl ?_
  have tr : ∀ a0 a1 a2 : AV, env0 fa32.keep [a0, a1, a2] = [(0, a0), (1, a1), (2, a2), (3, .any), (6, .any), (7, .any), (9, .any), (10, .any), (11, .any), (12, .any), (13, .any), (14, .any), (15, .any), (16, .any), (24, .any), (37, .any), (45, .any), (67, .any)] := fun a0 a1 a2 => rfl
  refine W_to (tr _ _ _) ?_; clear tr
  refine at_seq rfl ?_
  refine rg rfl ?_
  refine R_box rfl (by simp (disch := first | omega | (simp only [List.length_map, List.length_append, List.length_set, List.length_cons, List.length_nil, List.length_take, List.length_drop]; omega)) only [go_sem, ↓reduceIte, Nat.reduceEqDiff, reduceCtorEq]; rfl) rfl rfl ?_
  refine Rq ?_
  refine Rq ?_
  have tr : ∀ y0 y1 y2 y3 y6 y7 y9 y10 y11 y12 y13 y14 y15 y16 y24 y37 y45 y67 z0 z1 z2 : AV, trim [(7, z2), (6, z1), (3, z0), (0, y0), (1, y1), (2, y2), (3, y3), (6, y6), (7, y7), (9, y9), (10, y10), (11, y11), (12, y12), (13, y13), (14, y14), (15, y15), (16, y16), (24, y24), (37, y37), (45, y45), (67, y67)] [(0, y0), (1, y1), (2, y2), (3, y3), (6, y6), (7, y7), (9, y9), (10, y10), (11, y11), (12, y12), (13, y13), (14, y14), (15, y15), (16, y16), (24, y24), (37, y37), (45, y45), (67, y67)] = [(0, y0), (1, y1), (2, y2), (3, z0), (6, z1), (7, z2), (9, y9), (10, y10), (11, y11), (12, y12), (13, y13), (14, y14), (15, y15), (16, y16), (24, y24), (37, y37), (45, y45), (67, y67)] := fun y0 y1 y2 y3 y6 y7 y9 y10 y11 y12 y13 y14 y15 y16 y24 y37 y45 y67 z0 z1 z2 => rfl
  refine R_nil (tr _ _ _ _ _ _ _ _ _ _ _ _ _ _ _ _ _ _ _ _ _) ?_; clear tr
  refine then_n ?_
  refine at_seq rfl ?_
  refine at_seq rfl ?_
  refine rg rfl ?_
  refine Rq ?_
  refine Rcall ?_
  refine ACall_eq (rtgt_ok _ _ rows per tot wth balls l m) ?_
  refine Rq ?_
  refine Rq ?_
  refine Rq ?_
  refine Rq ?_
  refine Rq ?_
  have tr : ∀ y0 y1 y2 y3 y6 y7 y9 y10 y11 y12 y13 y14 y15 y16 y24 y37 y45 y67 z0 z1 z2 z3 z4 z5 z6 : AV, trim [(9, z6), (8, z5), (22, z4), (21, z3), (18, z2), (20, z1), (19, z0), (0, y0), (1, y1), (2, y2), (3, y3), (6, y6), (7, y7), (9, y9), (10, y10), (11, y11), (12, y12), (13, y13), (14, y14), (15, y15), (16, y16), (24, y24), (37, y37), (45, y45), (67, y67)] [(0, y0), (1, y1), (2, y2), (3, y3), (6, y6), (7, y7), (9, y9), (10, y10), (11, y11), (12, y12), (13, y13), (14, y14), (15, y15), (16, y16), (24, y24), (37, y37), (45, y45), (67, y67)] = [(0, y0), (1, y1), (2, y2), (3, y3), (6, y6), (7, y7), (9, z6), (10, y10), (11, y11), (12, y12), (13, y13), (14, y14), (15, y15), (16, y16), (24, y24), (37, y37), (45, y45), (67, y67)] := fun y0 y1 y2 y3 y6 y7 y9 y10 y11 y12 y13 y14 y15 y16 y24 y37 y45 y67 z0 z1 z2 z3 z4 z5 z6 => rfl
  refine R_nil (tr _ _ _ _ _ _ _ _ _ _ _ _ _ _ _ _ _ _ _ _ _ _ _ _ _) ?_; clear tr
  refine then_n ?_
  refine at_seq rfl ?_
  refine rg rfl ?_
  refine Rq ?_
  refine Rq ?_
  have tr : ∀ y0 y1 y2 y3 y6 y7 y9 y10 y11 y12 y13 y14 y15 y16 y24 y37 y45 y67 z0 z1 : AV, trim [(24, z1), (23, z0), (0, y0), (1, y1), (2, y2), (3, y3), (6, y6), (7, y7), (9, y9), (10, y10), (11, y11), (12, y12), (13, y13), (14, y14), (15, y15), (16, y16), (24, y24), (37, y37), (45, y45), (67, y67)] [(0, y0), (1, y1), (2, y2), (3, y3), (6, y6), (7, y7), (9, y9), (10, y10), (11, y11), (12, y12), (13, y13), (14, y14), (15, y15), (16, y16), (24, y24), (37, y37), (45, y45), (67, y67)] = [(0, y0), (1, y1), (2, y2), (3, y3), (6, y6), (7, y7), (9, y9), (10, y10), (11, y11), (12, y12), (13, y13), (14, y14), (15, y15), (16, y16), (24, z1), (37, y37), (45, y45), (67, y67)] := fun y0 y1 y2 y3 y6 y7 y9 y10 y11 y12 y13 y14 y15 y16 y24 y37 y45 y67 z0 z1 => rfl
  refine R_nil (tr _ _ _ _ _ _ _ _ _ _ _ _ _ _ _ _ _ _ _ _) ?_; clear tr
  refine then_n ?_
  refine cdd (fun h1 => ?_) (fun h1 => ?_)
  · try simp only [decide_eq_true_eq, decide_eq_false_iff_not, Bool.not_eq_true', Bool.not_eq_false', beq_iff_eq, beq_eq_false_iff_ne, ne_eq] at h1
    refine at_seq rfl ?_
    refine rg rfl ?_
    refine Rq ?_
    refine Rq ?_
    refine Rq ?_
    have tr : ∀ y0 y1 y2 y3 y6 y7 y9 y10 y11 y12 y13 y14 y15 y16 y24 y37 y45 y67 z0 z1 z2 : AV, trim [(7, z2), (6, z1), (25, z0), (0, y0), (1, y1), (2, y2), (3, y3), (6, y6), (7, y7), (9, y9), (10, y10), (11, y11), (12, y12), (13, y13), (14, y14), (15, y15), (16, y16), (24, y24), (37, y37), (45, y45), (67, y67)] [(0, y0), (1, y1), (2, y2), (3, y3), (6, y6), (7, y7), (9, y9), (10, y10), (11, y11), (12, y12), (13, y13), (14, y14), (15, y15), (16, y16), (24, y24), (37, y37), (45, y45), (67, y67)] = [(0, y0), (1, y1), (2, y2), (3, y3), (6, z1), (7, z2), (9, y9), (10, y10), (11, y11), (12, y12), (13, y13), (14, y14), (15, y15), (16, y16), (24, y24), (37, y37), (45, y45), (67, y67)] := fun y0 y1 y2 y3 y6 y7 y9 y10 y11 y12 y13 y14 y15 y16 y24 y37 y45 y67 z0 z1 z2 => rfl
    refine R_nil (tr _ _ _ _ _ _ _ _ _ _ _ _ _ _ _ _ _ _ _ _ _) ?_; clear tr
    refine then_n ?_
    refine at_ret rfl ?_
    refine then_r ?_
    refine fpure ?_
    refine ⟨?_, rfl⟩
    first | (rw [patS, if_pos (by assumption)]; done) | (rw [patS, if_neg (by omega), if_pos (by assumption)]; done) | (rw [patS, if_neg (by omega), if_neg (by omega), if_pos (by omega)]; done) | (rw [patS, if_neg (by omega), if_neg (by omega), if_neg (by omega)]; done)
  · try simp only [decide_eq_true_eq, decide_eq_false_iff_not, Bool.not_eq_true', Bool.not_eq_false', beq_iff_eq, beq_eq_false_iff_ne, ne_eq] at h1
    refine at_skip rfl ?_
    refine then_n ?_
    refine at_seq rfl ?_
    refine rg rfl ?_
    refine Rq ?_
    refine Rq ?_
    refine Rq ?_
    refine Rq ?_
    refine Rq ?_
    refine Rq ?_
    refine Rcall ?_
    refine ACall_eq (rat_ok _ _ rows per n w) ?_
    refine Rq ?_
    refine Rq ?_
    refine Rq ?_
    refine Rq ?_
    refine Rq ?_
    have tr : ∀ y0 y1 y2 y3 y6 y7 y9 y10 y11 y12 y13 y14 y15 y16 y24 y37 y45 y67 z0 z1 z2 z3 z4 z5 z6 z7 z8 z9 z10 z11 : AV, trim [(11, z11), (10, z10), (35, z9), (34, z8), (26, z7), (33, z6), (32, z5), (31, z4), (30, z3), (29, z2), (28, z1), (27, z0), (0, y0), (1, y1), (2, y2), (3, y3), (6, y6), (7, y7), (9, y9), (10, y10), (11, y11), (12, y12), (13, y13), (14, y14), (15, y15), (16, y16), (24, y24), (37, y37), (45, y45), (67, y67)] [(0, y0), (1, y1), (2, y2), (3, y3), (6, y6), (7, y7), (9, y9), (10, y10), (11, y11), (12, y12), (13, y13), (14, y14), (15, y15), (16, y16), (24, y24), (37, y37), (45, y45), (67, y67)] = [(0, y0), (1, y1), (2, y2), (3, y3), (6, y6), (7, y7), (9, y9), (10, z10), (11, z11), (12, y12), (13, y13), (14, y14), (15, y15), (16, y16), (24, y24), (37, y37), (45, y45), (67, y67)] := fun y0 y1 y2 y3 y6 y7 y9 y10 y11 y12 y13 y14 y15 y16 y24 y37 y45 y67 z0 z1 z2 z3 z4 z5 z6 z7 z8 z9 z10 z11 => rfl
    refine R_nil (tr _ _ _ _ _ _ _ _ _ _ _ _ _ _ _ _ _ _ _ _ _ _ _ _ _ _ _ _ _ _) ?_; clear tr
    refine then_n ?_
    refine at_seq rfl ?_
    refine at_seq rfl ?_
    refine rg rfl ?_
    refine Rq ?_
    refine Rq ?_
    have tr : ∀ y0 y1 y2 y3 y6 y7 y9 y10 y11 y12 y13 y14 y15 y16 y24 y37 y45 y67 z0 z1 : AV, trim [(37, z1), (36, z0), (0, y0), (1, y1), (2, y2), (3, y3), (6, y6), (7, y7), (9, y9), (10, y10), (11, y11), (12, y12), (13, y13), (14, y14), (15, y15), (16, y16), (24, y24), (37, y37), (45, y45), (67, y67)] [(0, y0), (1, y1), (2, y2), (3, y3), (6, y6), (7, y7), (9, y9), (10, y10), (11, y11), (12, y12), (13, y13), (14, y14), (15, y15), (16, y16), (24, y24), (37, y37), (45, y45), (67, y67)] = [(0, y0), (1, y1), (2, y2), (3, y3), (6, y6), (7, y7), (9, y9), (10, y10), (11, y11), (12, y12), (13, y13), (14, y14), (15, y15), (16, y16), (24, y24), (37, z1), (45, y45), (67, y67)] := fun y0 y1 y2 y3 y6 y7 y9 y10 y11 y12 y13 y14 y15 y16 y24 y37 y45 y67 z0 z1 => rfl
    refine R_nil (tr _ _ _ _ _ _ _ _ _ _ _ _ _ _ _ _ _ _ _ _) ?_; clear tr
    refine then_n ?_
    refine cdd (fun h2 => ?_) (fun h2 => ?_)
    · try simp only [decide_eq_true_eq, decide_eq_false_iff_not, Bool.not_eq_true', Bool.not_eq_false', beq_iff_eq, beq_eq_false_iff_ne, ne_eq] at h2
      refine at_seq rfl ?_
      refine rg rfl ?_
      refine Rq ?_
      refine Rq ?_
      refine Rq ?_
      have tr : ∀ y0 y1 y2 y3 y6 y7 y9 y10 y11 y12 y13 y14 y15 y16 y24 y37 y45 y67 z0 z1 z2 : AV, trim [(7, z2), (6, z1), (38, z0), (0, y0), (1, y1), (2, y2), (3, y3), (6, y6), (7, y7), (9, y9), (10, y10), (11, y11), (12, y12), (13, y13), (14, y14), (15, y15), (16, y16), (24, y24), (37, y37), (45, y45), (67, y67)] [(0, y0), (1, y1), (2, y2), (3, y3), (6, y6), (7, y7), (9, y9), (10, y10), (11, y11), (12, y12), (13, y13), (14, y14), (15, y15), (16, y16), (24, y24), (37, y37), (45, y45), (67, y67)] = [(0, y0), (1, y1), (2, y2), (3, y3), (6, z1), (7, z2), (9, y9), (10, y10), (11, y11), (12, y12), (13, y13), (14, y14), (15, y15), (16, y16), (24, y24), (37, y37), (45, y45), (67, y67)] := fun y0 y1 y2 y3 y6 y7 y9 y10 y11 y12 y13 y14 y15 y16 y24 y37 y45 y67 z0 z1 z2 => rfl
      refine R_nil (tr _ _ _ _ _ _ _ _ _ _ _ _ _ _ _ _ _ _ _ _ _) ?_; clear tr
      refine then_n ?_
      refine at_ret rfl ?_
      refine then_r ?_
      refine fpure ?_
      refine ⟨?_, rfl⟩
      first | (rw [patS, if_pos (by assumption)]; done) | (rw [patS, if_neg (by omega), if_pos (by assumption)]; done) | (rw [patS, if_neg (by omega), if_neg (by omega), if_pos (by omega)]; done) | (rw [patS, if_neg (by omega), if_neg (by omega), if_neg (by omega)]; done)
    · try simp only [decide_eq_true_eq, decide_eq_false_iff_not, Bool.not_eq_true', Bool.not_eq_false', beq_iff_eq, beq_eq_false_iff_ne, ne_eq] at h2
      refine at_skip rfl ?_
      refine then_n ?_
      refine at_seq rfl ?_
      refine rg rfl ?_
      have hE := tgt_E (by assumption : (tgtS rows per tot wth balls l m).2 = 0)
      have e3 : res3 rows per balls l m = 10000 * per := by rw [res3, if_pos hE]
      have hper := res_per hE
      have hml := (left_zero (res_zero hE).2).1.most
      have hm := most_case balls m
      refine Rq ?_
      refine Rq ?_
      refine Rq ?_
      refine Rq ?_
      have tr : ∀ y0 y1 y2 y3 y6 y7 y9 y10 y11 y12 y13 y14 y15 y16 y24 y37 y45 y67 z0 z1 z2 z3 : AV, trim [(13, z3), (12, z2), (40, z1), (39, z0), (0, y0), (1, y1), (2, y2), (3, y3), (6, y6), (7, y7), (9, y9), (10, y10), (11, y11), (12, y12), (13, y13), (14, y14), (15, y15), (16, y16), (24, y24), (37, y37), (45, y45), (67, y67)] [(0, y0), (1, y1), (2, y2), (3, y3), (6, y6), (7, y7), (9, y9), (10, y10), (11, y11), (12, y12), (13, y13), (14, y14), (15, y15), (16, y16), (24, y24), (37, y37), (45, y45), (67, y67)] = [(0, y0), (1, y1), (2, y2), (3, y3), (6, y6), (7, y7), (9, y9), (10, y10), (11, y11), (12, z2), (13, z3), (14, y14), (15, y15), (16, y16), (24, y24), (37, y37), (45, y45), (67, y67)] := fun y0 y1 y2 y3 y6 y7 y9 y10 y11 y12 y13 y14 y15 y16 y24 y37 y45 y67 z0 z1 z2 z3 => rfl
      refine R_nil (tr _ _ _ _ _ _ _ _ _ _ _ _ _ _ _ _ _ _ _ _ _ _) ?_; clear tr
      refine then_n ?_
      refine at_seq rfl ?_
      refine at_seq rfl ?_
      refine rg rfl ?_
      refine Rq ?_
      refine Rq ?_
      refine Rq ?_
      refine Rq ?_
      have tr : ∀ y0 y1 y2 y3 y6 y7 y9 y10 y11 y12 y13 y14 y15 y16 y24 y37 y45 y67 z0 z1 z2 z3 : AV, trim [(14, z3), (43, z2), (42, z1), (41, z0), (0, y0), (1, y1), (2, y2), (3, y3), (6, y6), (7, y7), (9, y9), (10, y10), (11, y11), (12, y12), (13, y13), (14, y14), (15, y15), (16, y16), (24, y24), (37, y37), (45, y45), (67, y67)] [(0, y0), (1, y1), (2, y2), (3, y3), (6, y6), (7, y7), (9, y9), (10, y10), (11, y11), (12, y12), (13, y13), (14, y14), (15, y15), (16, y16), (24, y24), (37, y37), (45, y45), (67, y67)] = [(0, y0), (1, y1), (2, y2), (3, y3), (6, y6), (7, y7), (9, y9), (10, y10), (11, y11), (12, y12), (13, y13), (14, z3), (15, y15), (16, y16), (24, y24), (37, y37), (45, y45), (67, y67)] := fun y0 y1 y2 y3 y6 y7 y9 y10 y11 y12 y13 y14 y15 y16 y24 y37 y45 y67 z0 z1 z2 z3 => rfl
      refine R_nil (tr _ _ _ _ _ _ _ _ _ _ _ _ _ _ _ _ _ _ _ _ _ _) ?_; clear tr
      refine then_n ?_
      refine at_seq rfl ?_
      refine rg rfl ?_
      refine Rq ?_
      refine Rq ?_
      have tr : ∀ y0 y1 y2 y3 y6 y7 y9 y10 y11 y12 y13 y14 y15 y16 y24 y37 y45 y67 z0 z1 : AV, trim [(45, z1), (44, z0), (0, y0), (1, y1), (2, y2), (3, y3), (6, y6), (7, y7), (9, y9), (10, y10), (11, y11), (12, y12), (13, y13), (14, y14), (15, y15), (16, y16), (24, y24), (37, y37), (45, y45), (67, y67)] [(0, y0), (1, y1), (2, y2), (3, y3), (6, y6), (7, y7), (9, y9), (10, y10), (11, y11), (12, y12), (13, y13), (14, y14), (15, y15), (16, y16), (24, y24), (37, y37), (45, y45), (67, y67)] = [(0, y0), (1, y1), (2, y2), (3, y3), (6, y6), (7, y7), (9, y9), (10, y10), (11, y11), (12, y12), (13, y13), (14, y14), (15, y15), (16, y16), (24, y24), (37, y37), (45, z1), (67, y67)] := fun y0 y1 y2 y3 y6 y7 y9 y10 y11 y12 y13 y14 y15 y16 y24 y37 y45 y67 z0 z1 => rfl
      refine R_nil (tr _ _ _ _ _ _ _ _ _ _ _ _ _ _ _ _ _ _ _ _) ?_; clear tr
      refine then_n ?_
      refine cdd (fun h3 => ?_) (fun h3 => ?_)
      · try simp only [decide_eq_true_eq, decide_eq_false_iff_not, Bool.not_eq_true', Bool.not_eq_false', beq_iff_eq, beq_eq_false_iff_ne, ne_eq] at h3
        refine rd rfl rfl ?_
        refine Qq ?_
        refine Qq ?_
        refine Qq ?_
        refine Qq ?_
        refine Qq ?_
        refine Qq ?_
        refine Qq ?_
        refine Qq ?_
        refine Qq ?_
        refine Qq ?_
        refine Qq ?_
        refine Qq ?_
        refine Qq ?_
        refine Qq ?_
        refine Qq ?_
        refine Qq ?_
        refine Q_nil ?_
        have tr : ∀ y0 y1 y2 y3 y6 y7 y9 y10 y11 y12 y13 y14 y15 y16 y24 y37 y45 y67 z0 z1 z2 z3 z4 z5 z6 z7 z8 z9 z10 z11 z12 z13 z14 z15 : AV, trim [(13, z15), (12, z14), (59, z13), (58, z12), (57, z11), (56, z10), (55, z9), (54, z8), (53, z7), (52, z6), (51, z5), (50, z4), (49, z3), (48, z2), (47, z1), (46, z0), (0, y0), (1, y1), (2, y2), (3, y3), (6, y6), (7, y7), (9, y9), (10, y10), (11, y11), (12, y12), (13, y13), (14, y14), (15, y15), (16, y16), (24, y24), (37, y37), (45, y45), (67, y67)] [(0, y0), (1, y1), (2, y2), (3, y3), (6, y6), (7, y7), (9, y9), (10, y10), (11, y11), (12, y12), (13, y13), (14, y14), (15, y15), (16, y16), (24, y24), (37, y37), (45, y45), (67, y67)] = [(0, y0), (1, y1), (2, y2), (3, y3), (6, y6), (7, y7), (9, y9), (10, y10), (11, y11), (12, z14), (13, z15), (14, y14), (15, y15), (16, y16), (24, y24), (37, y37), (45, y45), (67, y67)] := fun y0 y1 y2 y3 y6 y7 y9 y10 y11 y12 y13 y14 y15 y16 y24 y37 y45 y67 z0 z1 z2 z3 z4 z5 z6 z7 z8 z9 z10 z11 z12 z13 z14 z15 => rfl
        refine R_nil (tr _ _ _ _ _ _ _ _ _ _ _ _ _ _ _ _ _ _ _ _ _ _ _ _ _ _ _ _ _ _ _ _ _ _) ?_; clear tr
        refine then_n ?_
        refine at_seq rfl ?_
        refine at_seq rfl ?_
        refine rg rfl ?_
        refine Rq ?_
        refine Rq ?_
        refine Rq ?_
        refine Rq ?_
        refine Rp_split (fun h4 => ?_) (fun h4 => ?_)
        · try simp only [decide_eq_true_eq, decide_eq_false_iff_not, Bool.not_eq_true', Bool.not_eq_false', beq_iff_eq, beq_eq_false_iff_ne, ne_eq] at h4
          refine Rn ?_
          refine Rn ?_
          refine Rn ?_
          refine Rq ?_
          have tr : ∀ y0 y1 y2 y3 y6 y7 y9 y10 y11 y12 y13 y14 y15 y16 y24 y37 y45 y67 z0 z1 z2 z3 z4 z5 z6 z7 : AV, trim [(67, z7), (66, z6), (65, z5), (64, z4), (63, z3), (62, z2), (61, z1), (60, z0), (0, y0), (1, y1), (2, y2), (3, y3), (6, y6), (7, y7), (9, y9), (10, y10), (11, y11), (12, y12), (13, y13), (14, y14), (15, y15), (16, y16), (24, y24), (37, y37), (45, y45), (67, y67)] [(0, y0), (1, y1), (2, y2), (3, y3), (6, y6), (7, y7), (9, y9), (10, y10), (11, y11), (12, y12), (13, y13), (14, y14), (15, y15), (16, y16), (24, y24), (37, y37), (45, y45), (67, y67)] = [(0, y0), (1, y1), (2, y2), (3, y3), (6, y6), (7, y7), (9, y9), (10, y10), (11, y11), (12, y12), (13, y13), (14, y14), (15, y15), (16, y16), (24, y24), (37, y37), (45, y45), (67, z7)] := fun y0 y1 y2 y3 y6 y7 y9 y10 y11 y12 y13 y14 y15 y16 y24 y37 y45 y67 z0 z1 z2 z3 z4 z5 z6 z7 => rfl
          refine R_nil (tr _ _ _ _ _ _ _ _ _ _ _ _ _ _ _ _ _ _ _ _ _ _ _ _ _ _) ?_; clear tr
          refine then_n ?_
          refine cdt ?_
          refine at_seq rfl ?_
          refine rg rfl ?_
          refine Rq ?_
          refine Rq ?_
          have tr : ∀ y0 y1 y2 y3 y6 y7 y9 y10 y11 y12 y13 y14 y15 y16 y24 y37 y45 y67 z0 z1 : AV, trim [(7, z1), (6, z0), (0, y0), (1, y1), (2, y2), (3, y3), (6, y6), (7, y7), (9, y9), (10, y10), (11, y11), (12, y12), (13, y13), (14, y14), (15, y15), (16, y16), (24, y24), (37, y37), (45, y45), (67, y67)] [(0, y0), (1, y1), (2, y2), (3, y3), (6, y6), (7, y7), (9, y9), (10, y10), (11, y11), (12, y12), (13, y13), (14, y14), (15, y15), (16, y16), (24, y24), (37, y37), (45, y45), (67, y67)] = [(0, y0), (1, y1), (2, y2), (3, y3), (6, z0), (7, z1), (9, y9), (10, y10), (11, y11), (12, y12), (13, y13), (14, y14), (15, y15), (16, y16), (24, y24), (37, y37), (45, y45), (67, y67)] := fun y0 y1 y2 y3 y6 y7 y9 y10 y11 y12 y13 y14 y15 y16 y24 y37 y45 y67 z0 z1 => rfl
          refine R_nil (tr _ _ _ _ _ _ _ _ _ _ _ _ _ _ _ _ _ _ _ _) ?_; clear tr
          refine then_n ?_
          refine at_ret rfl ?_
          refine then_r ?_
          refine fpure ?_
          refine ⟨?_, rfl⟩
          first | (rw [patS, if_pos (by assumption)]; done) | (rw [patS, if_neg (by omega), if_pos (by assumption)]; done) | (rw [patS, if_neg (by omega), if_neg (by omega), if_pos (by omega)]; done) | (rw [patS, if_neg (by omega), if_neg (by omega), if_neg (by omega)]; done)
        · try simp only [decide_eq_true_eq, decide_eq_false_iff_not, Bool.not_eq_true', Bool.not_eq_false', beq_iff_eq, beq_eq_false_iff_ne, ne_eq] at h4
          refine Ry ?_
          refine Rq ?_
          refine Ry ?_
          refine Rq ?_
          refine Ry ?_
          refine Rq ?_
          refine Rq ?_
          have tr : ∀ y0 y1 y2 y3 y6 y7 y9 y10 y11 y12 y13 y14 y15 y16 y24 y37 y45 y67 z0 z1 z2 z3 z4 z5 z6 z7 : AV, trim [(67, z7), (66, z6), (65, z5), (64, z4), (63, z3), (62, z2), (61, z1), (60, z0), (0, y0), (1, y1), (2, y2), (3, y3), (6, y6), (7, y7), (9, y9), (10, y10), (11, y11), (12, y12), (13, y13), (14, y14), (15, y15), (16, y16), (24, y24), (37, y37), (45, y45), (67, y67)] [(0, y0), (1, y1), (2, y2), (3, y3), (6, y6), (7, y7), (9, y9), (10, y10), (11, y11), (12, y12), (13, y13), (14, y14), (15, y15), (16, y16), (24, y24), (37, y37), (45, y45), (67, y67)] = [(0, y0), (1, y1), (2, y2), (3, y3), (6, y6), (7, y7), (9, y9), (10, y10), (11, y11), (12, y12), (13, y13), (14, y14), (15, y15), (16, y16), (24, y24), (37, y37), (45, y45), (67, z7)] := fun y0 y1 y2 y3 y6 y7 y9 y10 y11 y12 y13 y14 y15 y16 y24 y37 y45 y67 z0 z1 z2 z3 z4 z5 z6 z7 => rfl
          refine R_nil (tr _ _ _ _ _ _ _ _ _ _ _ _ _ _ _ _ _ _ _ _ _ _ _ _ _ _) ?_; clear tr
          refine then_n ?_
          refine cdd (fun h5 => ?_) (fun h5 => ?_)
          · try simp only [decide_eq_true_eq, decide_eq_false_iff_not, Bool.not_eq_true', Bool.not_eq_false', beq_iff_eq, beq_eq_false_iff_ne, ne_eq] at h5
            refine at_seq rfl ?_
            refine rg rfl ?_
            refine Rq ?_
            refine Rq ?_
            have tr : ∀ y0 y1 y2 y3 y6 y7 y9 y10 y11 y12 y13 y14 y15 y16 y24 y37 y45 y67 z0 z1 : AV, trim [(7, z1), (6, z0), (0, y0), (1, y1), (2, y2), (3, y3), (6, y6), (7, y7), (9, y9), (10, y10), (11, y11), (12, y12), (13, y13), (14, y14), (15, y15), (16, y16), (24, y24), (37, y37), (45, y45), (67, y67)] [(0, y0), (1, y1), (2, y2), (3, y3), (6, y6), (7, y7), (9, y9), (10, y10), (11, y11), (12, y12), (13, y13), (14, y14), (15, y15), (16, y16), (24, y24), (37, y37), (45, y45), (67, y67)] = [(0, y0), (1, y1), (2, y2), (3, y3), (6, z0), (7, z1), (9, y9), (10, y10), (11, y11), (12, y12), (13, y13), (14, y14), (15, y15), (16, y16), (24, y24), (37, y37), (45, y45), (67, y67)] := fun y0 y1 y2 y3 y6 y7 y9 y10 y11 y12 y13 y14 y15 y16 y24 y37 y45 y67 z0 z1 => rfl
            refine R_nil (tr _ _ _ _ _ _ _ _ _ _ _ _ _ _ _ _ _ _ _ _) ?_; clear tr
            refine then_n ?_
            refine at_ret rfl ?_
            refine then_r ?_
            refine fpure ?_
            refine ⟨?_, rfl⟩
            first | (rw [patS, if_pos (by assumption)]; done) | (rw [patS, if_neg (by omega), if_pos (by assumption)]; done) | (rw [patS, if_neg (by omega), if_neg (by omega), if_pos (by omega)]; done) | (rw [patS, if_neg (by omega), if_neg (by omega), if_neg (by omega)]; done)
          · try simp only [decide_eq_true_eq, decide_eq_false_iff_not, Bool.not_eq_true', Bool.not_eq_false', beq_iff_eq, beq_eq_false_iff_ne, ne_eq] at h5
            refine at_skip rfl ?_
            refine then_n ?_
            refine at_seq rfl ?_
            refine rg rfl ?_
            refine Rq ?_
            refine Rcall ?_
            refine ACall_eq (rres_ok _ _ rows per tot wth balls l m) ?_
            refine Rq ?_
            refine Rq ?_
            refine Rq ?_
            refine Rq ?_
            refine Rq ?_
            refine Rq ?_
            refine Rq ?_
            have tr : ∀ y0 y1 y2 y3 y6 y7 y9 y10 y11 y12 y13 y14 y15 y16 y24 y37 y45 y67 z0 z1 z2 z3 z4 z5 z6 z7 z8 : AV, trim [(17, z8), (16, z7), (15, z6), (73, z5), (72, z4), (71, z3), (68, z2), (70, z1), (69, z0), (0, y0), (1, y1), (2, y2), (3, y3), (6, y6), (7, y7), (9, y9), (10, y10), (11, y11), (12, y12), (13, y13), (14, y14), (15, y15), (16, y16), (24, y24), (37, y37), (45, y45), (67, y67)] [(0, y0), (1, y1), (2, y2), (3, y3), (6, y6), (7, y7), (9, y9), (10, y10), (11, y11), (12, y12), (13, y13), (14, y14), (15, y15), (16, y16), (24, y24), (37, y37), (45, y45), (67, y67)] = [(0, y0), (1, y1), (2, y2), (3, y3), (6, y6), (7, y7), (9, y9), (10, y10), (11, y11), (12, y12), (13, y13), (14, y14), (15, z6), (16, z7), (24, y24), (37, y37), (45, y45), (67, y67)] := fun y0 y1 y2 y3 y6 y7 y9 y10 y11 y12 y13 y14 y15 y16 y24 y37 y45 y67 z0 z1 z2 z3 z4 z5 z6 z7 z8 => rfl
            refine R_nil (tr _ _ _ _ _ _ _ _ _ _ _ _ _ _ _ _ _ _ _ _ _ _ _ _ _ _ _) ?_; clear tr
            refine then_n ?_
            refine at_seq rfl ?_
            refine rg rfl ?_
            refine Rq ?_
            refine Rq ?_
            refine Rq ?_
            refine Rq ?_
            refine Rq ?_
            refine Rq ?_
            refine Rq ?_
            refine Rq ?_
            refine Rq ?_
            refine Rq ?_
            refine Rcall ?_
            rw [← e3]
            refine ACall_eq (rpar_ok _ _ tot (res1 rows per balls l m) (res2 rows per balls l m) (atS rows per n w).1 (res3 rows per balls l m) wth) ?_
            refine Rq ?_
            refine Rq ?_
            refine Rq ?_
            refine Rq ?_
            have tr : ∀ y0 y1 y2 y3 y6 y7 y9 y10 y11 y12 y13 y14 y15 y16 y24 y37 y45 y67 z0 z1 z2 z3 z4 z5 z6 z7 z8 z9 z10 z11 z12 z13 z14 : AV, trim [(7, z14), (6, z13), (86, z12), (85, z11), (84, z10), (83, z9), (82, z8), (81, z7), (80, z6), (79, z5), (78, z4), (77, z3), (76, z2), (75, z1), (74, z0), (0, y0), (1, y1), (2, y2), (3, y3), (6, y6), (7, y7), (9, y9), (10, y10), (11, y11), (12, y12), (13, y13), (14, y14), (15, y15), (16, y16), (24, y24), (37, y37), (45, y45), (67, y67)] [(0, y0), (1, y1), (2, y2), (3, y3), (6, y6), (7, y7), (9, y9), (10, y10), (11, y11), (12, y12), (13, y13), (14, y14), (15, y15), (16, y16), (24, y24), (37, y37), (45, y45), (67, y67)] = [(0, y0), (1, y1), (2, y2), (3, y3), (6, z13), (7, z14), (9, y9), (10, y10), (11, y11), (12, y12), (13, y13), (14, y14), (15, y15), (16, y16), (24, y24), (37, y37), (45, y45), (67, y67)] := fun y0 y1 y2 y3 y6 y7 y9 y10 y11 y12 y13 y14 y15 y16 y24 y37 y45 y67 z0 z1 z2 z3 z4 z5 z6 z7 z8 z9 z10 z11 z12 z13 z14 => rfl
            refine R_nil (tr _ _ _ _ _ _ _ _ _ _ _ _ _ _ _ _ _ _ _ _ _ _ _ _ _ _ _ _ _ _ _ _ _) ?_; clear tr
            refine then_n ?_
            refine at_ret rfl ?_
            refine fpure ?_
            refine ⟨?_, rfl⟩
            first | (rw [patS, if_pos (by assumption)]; done) | (rw [patS, if_neg (by omega), if_pos (by assumption)]; done) | (rw [patS, if_neg (by omega), if_neg (by omega), if_pos (by omega)]; done) | (rw [patS, if_neg (by omega), if_neg (by omega), if_neg (by omega)]; done)
      · try simp only [decide_eq_true_eq, decide_eq_false_iff_not, Bool.not_eq_true', Bool.not_eq_false', beq_iff_eq, beq_eq_false_iff_ne, ne_eq] at h3
        refine at_skip rfl ?_
        refine then_n ?_
        refine at_seq rfl ?_
        refine at_seq rfl ?_
        refine rg rfl ?_
        refine Rq ?_
        refine Rq ?_
        refine Rq ?_
        refine Rq ?_
        refine Rp_split (fun h6 => ?_) (fun h6 => ?_)
        · try simp only [decide_eq_true_eq, decide_eq_false_iff_not, Bool.not_eq_true', Bool.not_eq_false', beq_iff_eq, beq_eq_false_iff_ne, ne_eq] at h6
          refine Rn ?_
          refine Rn ?_
          refine Rn ?_
          refine Rq ?_
          have tr : ∀ y0 y1 y2 y3 y6 y7 y9 y10 y11 y12 y13 y14 y15 y16 y24 y37 y45 y67 z0 z1 z2 z3 z4 z5 z6 z7 : AV, trim [(67, z7), (66, z6), (65, z5), (64, z4), (63, z3), (62, z2), (61, z1), (60, z0), (0, y0), (1, y1), (2, y2), (3, y3), (6, y6), (7, y7), (9, y9), (10, y10), (11, y11), (12, y12), (13, y13), (14, y14), (15, y15), (16, y16), (24, y24), (37, y37), (45, y45), (67, y67)] [(0, y0), (1, y1), (2, y2), (3, y3), (6, y6), (7, y7), (9, y9), (10, y10), (11, y11), (12, y12), (13, y13), (14, y14), (15, y15), (16, y16), (24, y24), (37, y37), (45, y45), (67, y67)] = [(0, y0), (1, y1), (2, y2), (3, y3), (6, y6), (7, y7), (9, y9), (10, y10), (11, y11), (12, y12), (13, y13), (14, y14), (15, y15), (16, y16), (24, y24), (37, y37), (45, y45), (67, z7)] := fun y0 y1 y2 y3 y6 y7 y9 y10 y11 y12 y13 y14 y15 y16 y24 y37 y45 y67 z0 z1 z2 z3 z4 z5 z6 z7 => rfl
          refine R_nil (tr _ _ _ _ _ _ _ _ _ _ _ _ _ _ _ _ _ _ _ _ _ _ _ _ _ _) ?_; clear tr
          refine then_n ?_
          refine cdt ?_
          refine at_seq rfl ?_
          refine rg rfl ?_
          refine Rq ?_
          refine Rq ?_
          have tr : ∀ y0 y1 y2 y3 y6 y7 y9 y10 y11 y12 y13 y14 y15 y16 y24 y37 y45 y67 z0 z1 : AV, trim [(7, z1), (6, z0), (0, y0), (1, y1), (2, y2), (3, y3), (6, y6), (7, y7), (9, y9), (10, y10), (11, y11), (12, y12), (13, y13), (14, y14), (15, y15), (16, y16), (24, y24), (37, y37), (45, y45), (67, y67)] [(0, y0), (1, y1), (2, y2), (3, y3), (6, y6), (7, y7), (9, y9), (10, y10), (11, y11), (12, y12), (13, y13), (14, y14), (15, y15), (16, y16), (24, y24), (37, y37), (45, y45), (67, y67)] = [(0, y0), (1, y1), (2, y2), (3, y3), (6, z0), (7, z1), (9, y9), (10, y10), (11, y11), (12, y12), (13, y13), (14, y14), (15, y15), (16, y16), (24, y24), (37, y37), (45, y45), (67, y67)] := fun y0 y1 y2 y3 y6 y7 y9 y10 y11 y12 y13 y14 y15 y16 y24 y37 y45 y67 z0 z1 => rfl
          refine R_nil (tr _ _ _ _ _ _ _ _ _ _ _ _ _ _ _ _ _ _ _ _) ?_; clear tr
          refine then_n ?_
          refine at_ret rfl ?_
          refine then_r ?_
          refine fpure ?_
          refine ⟨?_, rfl⟩
          first | (rw [patS, if_pos (by assumption)]; done) | (rw [patS, if_neg (by omega), if_pos (by assumption)]; done) | (rw [patS, if_neg (by omega), if_neg (by omega), if_pos (by omega)]; done) | (rw [patS, if_neg (by omega), if_neg (by omega), if_neg (by omega)]; done)
        · try simp only [decide_eq_true_eq, decide_eq_false_iff_not, Bool.not_eq_true', Bool.not_eq_false', beq_iff_eq, beq_eq_false_iff_ne, ne_eq] at h6
          refine Ry ?_
          refine Rq ?_
          refine Ry ?_
          refine Rq ?_
          refine Ry ?_
          refine Rq ?_
          refine Rq ?_
          have tr : ∀ y0 y1 y2 y3 y6 y7 y9 y10 y11 y12 y13 y14 y15 y16 y24 y37 y45 y67 z0 z1 z2 z3 z4 z5 z6 z7 : AV, trim [(67, z7), (66, z6), (65, z5), (64, z4), (63, z3), (62, z2), (61, z1), (60, z0), (0, y0), (1, y1), (2, y2), (3, y3), (6, y6), (7, y7), (9, y9), (10, y10), (11, y11), (12, y12), (13, y13), (14, y14), (15, y15), (16, y16), (24, y24), (37, y37), (45, y45), (67, y67)] [(0, y0), (1, y1), (2, y2), (3, y3), (6, y6), (7, y7), (9, y9), (10, y10), (11, y11), (12, y12), (13, y13), (14, y14), (15, y15), (16, y16), (24, y24), (37, y37), (45, y45), (67, y67)] = [(0, y0), (1, y1), (2, y2), (3, y3), (6, y6), (7, y7), (9, y9), (10, y10), (11, y11), (12, y12), (13, y13), (14, y14), (15, y15), (16, y16), (24, y24), (37, y37), (45, y45), (67, z7)] := fun y0 y1 y2 y3 y6 y7 y9 y10 y11 y12 y13 y14 y15 y16 y24 y37 y45 y67 z0 z1 z2 z3 z4 z5 z6 z7 => rfl
          refine R_nil (tr _ _ _ _ _ _ _ _ _ _ _ _ _ _ _ _ _ _ _ _ _ _ _ _ _ _) ?_; clear tr
          refine then_n ?_
          refine cdd (fun h7 => ?_) (fun h7 => ?_)
          · try simp only [decide_eq_true_eq, decide_eq_false_iff_not, Bool.not_eq_true', Bool.not_eq_false', beq_iff_eq, beq_eq_false_iff_ne, ne_eq] at h7
            refine at_seq rfl ?_
            refine rg rfl ?_
            refine Rq ?_
            refine Rq ?_
            have tr : ∀ y0 y1 y2 y3 y6 y7 y9 y10 y11 y12 y13 y14 y15 y16 y24 y37 y45 y67 z0 z1 : AV, trim [(7, z1), (6, z0), (0, y0), (1, y1), (2, y2), (3, y3), (6, y6), (7, y7), (9, y9), (10, y10), (11, y11), (12, y12), (13, y13), (14, y14), (15, y15), (16, y16), (24, y24), (37, y37), (45, y45), (67, y67)] [(0, y0), (1, y1), (2, y2), (3, y3), (6, y6), (7, y7), (9, y9), (10, y10), (11, y11), (12, y12), (13, y13), (14, y14), (15, y15), (16, y16), (24, y24), (37, y37), (45, y45), (67, y67)] = [(0, y0), (1, y1), (2, y2), (3, y3), (6, z0), (7, z1), (9, y9), (10, y10), (11, y11), (12, y12), (13, y13), (14, y14), (15, y15), (16, y16), (24, y24), (37, y37), (45, y45), (67, y67)] := fun y0 y1 y2 y3 y6 y7 y9 y10 y11 y12 y13 y14 y15 y16 y24 y37 y45 y67 z0 z1 => rfl
            refine R_nil (tr _ _ _ _ _ _ _ _ _ _ _ _ _ _ _ _ _ _ _ _) ?_; clear tr
            refine then_n ?_
            refine at_ret rfl ?_
            refine then_r ?_
            refine fpure ?_
            refine ⟨?_, rfl⟩
            first | (rw [patS, if_pos (by assumption)]; done) | (rw [patS, if_neg (by omega), if_pos (by assumption)]; done) | (rw [patS, if_neg (by omega), if_neg (by omega), if_pos (by omega)]; done) | (rw [patS, if_neg (by omega), if_neg (by omega), if_neg (by omega)]; done)
          · try simp only [decide_eq_true_eq, decide_eq_false_iff_not, Bool.not_eq_true', Bool.not_eq_false', beq_iff_eq, beq_eq_false_iff_ne, ne_eq] at h7
            refine at_skip rfl ?_
            refine then_n ?_
            refine at_seq rfl ?_
            refine rg rfl ?_
            refine Rq ?_
            refine Rcall ?_
            refine ACall_eq (rres_ok _ _ rows per tot wth balls l m) ?_
            refine Rq ?_
            refine Rq ?_
            refine Rq ?_
            refine Rq ?_
            refine Rq ?_
            refine Rq ?_
            refine Rq ?_
            have tr : ∀ y0 y1 y2 y3 y6 y7 y9 y10 y11 y12 y13 y14 y15 y16 y24 y37 y45 y67 z0 z1 z2 z3 z4 z5 z6 z7 z8 : AV, trim [(17, z8), (16, z7), (15, z6), (73, z5), (72, z4), (71, z3), (68, z2), (70, z1), (69, z0), (0, y0), (1, y1), (2, y2), (3, y3), (6, y6), (7, y7), (9, y9), (10, y10), (11, y11), (12, y12), (13, y13), (14, y14), (15, y15), (16, y16), (24, y24), (37, y37), (45, y45), (67, y67)] [(0, y0), (1, y1), (2, y2), (3, y3), (6, y6), (7, y7), (9, y9), (10, y10), (11, y11), (12, y12), (13, y13), (14, y14), (15, y15), (16, y16), (24, y24), (37, y37), (45, y45), (67, y67)] = [(0, y0), (1, y1), (2, y2), (3, y3), (6, y6), (7, y7), (9, y9), (10, y10), (11, y11), (12, y12), (13, y13), (14, y14), (15, z6), (16, z7), (24, y24), (37, y37), (45, y45), (67, y67)] := fun y0 y1 y2 y3 y6 y7 y9 y10 y11 y12 y13 y14 y15 y16 y24 y37 y45 y67 z0 z1 z2 z3 z4 z5 z6 z7 z8 => rfl
            refine R_nil (tr _ _ _ _ _ _ _ _ _ _ _ _ _ _ _ _ _ _ _ _ _ _ _ _ _ _ _) ?_; clear tr
            refine then_n ?_
            refine at_seq rfl ?_
            refine rg rfl ?_
            refine Rq ?_
            refine Rq ?_
            refine Rq ?_
            refine Rq ?_
            refine Rq ?_
            refine Rq ?_
            refine Rq ?_
            refine Rq ?_
            refine Rq ?_
            refine Rq ?_
            refine Rcall ?_
            rw [← e3]
            refine ACall_eq (rpar_ok _ _ tot (res1 rows per balls l m) (res2 rows per balls l m) (atS rows per n w).1 (res3 rows per balls l m) wth) ?_
            refine Rq ?_
            refine Rq ?_
            refine Rq ?_
            refine Rq ?_
            have tr : ∀ y0 y1 y2 y3 y6 y7 y9 y10 y11 y12 y13 y14 y15 y16 y24 y37 y45 y67 z0 z1 z2 z3 z4 z5 z6 z7 z8 z9 z10 z11 z12 z13 z14 : AV, trim [(7, z14), (6, z13), (86, z12), (85, z11), (84, z10), (83, z9), (82, z8), (81, z7), (80, z6), (79, z5), (78, z4), (77, z3), (76, z2), (75, z1), (74, z0), (0, y0), (1, y1), (2, y2), (3, y3), (6, y6), (7, y7), (9, y9), (10, y10), (11, y11), (12, y12), (13, y13), (14, y14), (15, y15), (16, y16), (24, y24), (37, y37), (45, y45), (67, y67)] [(0, y0), (1, y1), (2, y2), (3, y3), (6, y6), (7, y7), (9, y9), (10, y10), (11, y11), (12, y12), (13, y13), (14, y14), (15, y15), (16, y16), (24, y24), (37, y37), (45, y45), (67, y67)] = [(0, y0), (1, y1), (2, y2), (3, y3), (6, z13), (7, z14), (9, y9), (10, y10), (11, y11), (12, y12), (13, y13), (14, y14), (15, y15), (16, y16), (24, y24), (37, y37), (45, y45), (67, y67)] := fun y0 y1 y2 y3 y6 y7 y9 y10 y11 y12 y13 y14 y15 y16 y24 y37 y45 y67 z0 z1 z2 z3 z4 z5 z6 z7 z8 z9 z10 z11 z12 z13 z14 => rfl
            refine R_nil (tr _ _ _ _ _ _ _ _ _ _ _ _ _ _ _ _ _ _ _ _ _ _ _ _ _ _ _ _ _ _ _ _ _) ?_; clear tr
            refine then_n ?_
            refine at_ret rfl ?_
            refine fpure ?_
            refine ⟨?_, rfl⟩
            first | (rw [patS, if_pos (by assumption)]; done) | (rw [patS, if_neg (by omega), if_pos (by assumption)]; done) | (rw [patS, if_neg (by omega), if_neg (by omega), if_pos (by omega)]; done) | (rw [patS, if_neg (by omega), if_neg (by omega), if_neg (by omega)]; done)

theorem win_ok (lim : Nat) (H : Heap) (rows : Tb) (per tot wth balls : Int) (l m : List Stp) (k n w : Int) :
    ACall sig lim 22 [.agg [rowsAV rows, AV.i per, AV.i tot, AV.i wth, AV.i balls, stopsAV l, stopsAV m], AV.i k, AV.i n, AV.i w] H fun r H' => r = .tup [AV.i (winS rows per tot wth balls l m k n w).1, AV.i (winS rows per tot wth balls l m k n w).2] ∧ H' = H := by
  refine ACall_pure (fa := fa22) rfl rfl rfl rfl ?_
  have tr : ∀ a0 a1 a2 a3 : AV, env0 fa22.keep [a0, a1, a2, a3] = [(0, a0), (1, a1), (2, a2), (3, a3), (4, .any), (8, .any), (9, .any), (10, .any), (11, .any), (20, .any), (22, .any), (26, .any), (30, .any)] := fun a0 a1 a2 a3 => rfl
  refine W_to (tr _ _ _ _) ?_; clear tr
  refine at_seq rfl ?_
  refine rg rfl ?_
  refine R_box rfl (by simp (disch := first | omega | (simp only [List.length_map, List.length_append, List.length_set, List.length_cons, List.length_nil, List.length_take, List.length_drop]; omega)) only [go_sem, ↓reduceIte, Nat.reduceEqDiff, reduceCtorEq]; rfl) rfl rfl ?_
  refine Rq ?_
  refine Rq ?_
  have tr : ∀ y0 y1 y2 y3 y4 y8 y9 y10 y11 y20 y22 y26 y30 z0 z1 z2 : AV, trim [(9, z2), (8, z1), (4, z0), (0, y0), (1, y1), (2, y2), (3, y3), (4, y4), (8, y8), (9, y9), (10, y10), (11, y11), (20, y20), (22, y22), (26, y26), (30, y30)] [(0, y0), (1, y1), (2, y2), (3, y3), (4, y4), (8, y8), (9, y9), (10, y10), (11, y11), (20, y20), (22, y22), (26, y26), (30, y30)] = [(0, y0), (1, y1), (2, y2), (3, y3), (4, z0), (8, z1), (9, z2), (10, y10), (11, y11), (20, y20), (22, y22), (26, y26), (30, y30)] := fun y0 y1 y2 y3 y4 y8 y9 y10 y11 y20 y22 y26 y30 z0 z1 z2 => rfl
  refine R_nil (tr _ _ _ _ _ _ _ _ _ _ _ _ _ _ _ _) ?_; clear tr
  refine then_n ?_
  refine at_seq rfl ?_
  refine rg rfl ?_
  refine Rq ?_
  refine Rq ?_
  refine Rq ?_
  refine Rcall ?_
  refine ACall_eq (pat_ok _ _ rows per tot wth balls l m n w) ?_
  refine Rq ?_
  refine Rq ?_
  refine Rq ?_
  refine Rq ?_
  refine Rq ?_
  have tr : ∀ y0 y1 y2 y3 y4 y8 y9 y10 y11 y20 y22 y26 y30 z0 z1 z2 z3 z4 z5 z6 z7 z8 : AV, trim [(11, z8), (10, z7), (18, z6), (17, z5), (12, z4), (16, z3), (15, z2), (14, z1), (13, z0), (0, y0), (1, y1), (2, y2), (3, y3), (4, y4), (8, y8), (9, y9), (10, y10), (11, y11), (20, y20), (22, y22), (26, y26), (30, y30)] [(0, y0), (1, y1), (2, y2), (3, y3), (4, y4), (8, y8), (9, y9), (10, y10), (11, y11), (20, y20), (22, y22), (26, y26), (30, y30)] = [(0, y0), (1, y1), (2, y2), (3, y3), (4, y4), (8, y8), (9, y9), (10, z7), (11, z8), (20, y20), (22, y22), (26, y26), (30, y30)] := fun y0 y1 y2 y3 y4 y8 y9 y10 y11 y20 y22 y26 y30 z0 z1 z2 z3 z4 z5 z6 z7 z8 => rfl
  refine R_nil (tr _ _ _ _ _ _ _ _ _ _ _ _ _ _ _ _ _ _ _ _ _ _) ?_; clear tr
  refine then_n ?_
  refine at_seq rfl ?_
  refine at_seq rfl ?_
  refine rg rfl ?_
  refine Rq ?_
  refine Rq ?_
  have tr : ∀ y0 y1 y2 y3 y4 y8 y9 y10 y11 y20 y22 y26 y30 z0 z1 : AV, trim [(20, z1), (19, z0), (0, y0), (1, y1), (2, y2), (3, y3), (4, y4), (8, y8), (9, y9), (10, y10), (11, y11), (20, y20), (22, y22), (26, y26), (30, y30)] [(0, y0), (1, y1), (2, y2), (3, y3), (4, y4), (8, y8), (9, y9), (10, y10), (11, y11), (20, y20), (22, y22), (26, y26), (30, y30)] = [(0, y0), (1, y1), (2, y2), (3, y3), (4, y4), (8, y8), (9, y9), (10, y10), (11, y11), (20, z1), (22, y22), (26, y26), (30, y30)] := fun y0 y1 y2 y3 y4 y8 y9 y10 y11 y20 y22 y26 y30 z0 z1 => rfl
  refine R_nil (tr _ _ _ _ _ _ _ _ _ _ _ _ _ _ _) ?_; clear tr
  refine then_n ?_
  refine cdd (fun h1 => ?_) (fun h1 => ?_)
  · try simp only [decide_eq_true_eq, decide_eq_false_iff_not, Bool.not_eq_true', Bool.not_eq_false', beq_iff_eq, beq_eq_false_iff_ne, ne_eq] at h1
    refine at_seq rfl ?_
    refine rg rfl ?_
    refine Rq ?_
    refine Rq ?_
    refine Rq ?_
    have tr : ∀ y0 y1 y2 y3 y4 y8 y9 y10 y11 y20 y22 y26 y30 z0 z1 z2 : AV, trim [(9, z2), (8, z1), (21, z0), (0, y0), (1, y1), (2, y2), (3, y3), (4, y4), (8, y8), (9, y9), (10, y10), (11, y11), (20, y20), (22, y22), (26, y26), (30, y30)] [(0, y0), (1, y1), (2, y2), (3, y3), (4, y4), (8, y8), (9, y9), (10, y10), (11, y11), (20, y20), (22, y22), (26, y26), (30, y30)] = [(0, y0), (1, y1), (2, y2), (3, y3), (4, y4), (8, z1), (9, z2), (10, y10), (11, y11), (20, y20), (22, y22), (26, y26), (30, y30)] := fun y0 y1 y2 y3 y4 y8 y9 y10 y11 y20 y22 y26 y30 z0 z1 z2 => rfl
    refine R_nil (tr _ _ _ _ _ _ _ _ _ _ _ _ _ _ _ _) ?_; clear tr
    refine then_n ?_
    refine at_ret rfl ?_
    refine then_r ?_
    refine fpure ?_
    refine ⟨?_, rfl⟩
    first | (rw [winS, if_pos (by assumption)]; done) | (rw [winS, if_neg (by omega), if_pos (by omega)]; done) | (rw [winS, if_neg (by omega), if_neg (by omega), if_pos (by omega)]; done) | (rw [winS, if_neg (by omega), if_neg (by omega), if_neg (by omega), if_pos (by omega)]; done) | (rw [winS, if_neg (by omega), if_neg (by omega), if_neg (by omega), if_neg (by omega)]; done)
  · try simp only [decide_eq_true_eq, decide_eq_false_iff_not, Bool.not_eq_true', Bool.not_eq_false', beq_iff_eq, beq_eq_false_iff_ne, ne_eq] at h1
    refine at_skip rfl ?_
    refine then_n ?_
    refine at_seq rfl ?_
    refine at_block rfl ?_
    refine at_seq rfl ?_
    refine rg rfl ?_
    refine Rq ?_
    refine Rcall ?_
    refine ACall_eq (total_ok _ _ _) ?_
    refine Rq ?_
    refine Rq ?_
    have tr : ∀ y0 y1 y2 y3 y4 y8 y9 y10 y11 y20 y22 y26 y30 z0 z1 z2 z3 : AV, trim [(22, z3), (25, z2), (24, z1), (23, z0), (0, y0), (1, y1), (2, y2), (3, y3), (4, y4), (8, y8), (9, y9), (10, y10), (11, y11), (20, y20), (22, y22), (26, y26), (30, y30)] [(0, y0), (1, y1), (2, y2), (3, y3), (4, y4), (8, y8), (9, y9), (10, y10), (11, y11), (20, y20), (22, y22), (26, y26), (30, y30)] = [(0, y0), (1, y1), (2, y2), (3, y3), (4, y4), (8, y8), (9, y9), (10, y10), (11, y11), (20, y20), (22, z3), (26, y26), (30, y30)] := fun y0 y1 y2 y3 y4 y8 y9 y10 y11 y20 y22 y26 y30 z0 z1 z2 z3 => rfl
    refine R_nil (tr _ _ _ _ _ _ _ _ _ _ _ _ _ _ _ _ _) ?_; clear tr
    refine then_n ?_
    refine cdd (fun h2 => ?_) (fun h2 => ?_)
    · try simp only [decide_eq_true_eq, decide_eq_false_iff_not, Bool.not_eq_true', Bool.not_eq_false', beq_iff_eq, beq_eq_false_iff_ne, ne_eq] at h2
      refine at_seq rfl ?_
      refine rg rfl ?_
      refine Rq ?_
      refine Rq ?_
      have tr : ∀ y0 y1 y2 y3 y4 y8 y9 y10 y11 y20 y22 y26 y30 z0 z1 : AV, trim [(9, z1), (8, z0), (0, y0), (1, y1), (2, y2), (3, y3), (4, y4), (8, y8), (9, y9), (10, y10), (11, y11), (20, y20), (22, y22), (26, y26), (30, y30)] [(0, y0), (1, y1), (2, y2), (3, y3), (4, y4), (8, y8), (9, y9), (10, y10), (11, y11), (20, y20), (22, y22), (26, y26), (30, y30)] = [(0, y0), (1, y1), (2, y2), (3, y3), (4, y4), (8, z0), (9, z1), (10, y10), (11, y11), (20, y20), (22, y22), (26, y26), (30, y30)] := fun y0 y1 y2 y3 y4 y8 y9 y10 y11 y20 y22 y26 y30 z0 z1 => rfl
      refine R_nil (tr _ _ _ _ _ _ _ _ _ _ _ _ _ _ _) ?_; clear tr
      refine then_n ?_
      refine at_ret rfl ?_
      refine blk_r ?_
      refine then_r ?_
      refine fpure ?_
      refine ⟨?_, rfl⟩
      first | (rw [winS, if_pos (by assumption)]; done) | (rw [winS, if_neg (by omega), if_pos (by omega)]; done) | (rw [winS, if_neg (by omega), if_neg (by omega), if_pos (by omega)]; done) | (rw [winS, if_neg (by omega), if_neg (by omega), if_neg (by omega), if_pos (by omega)]; done) | (rw [winS, if_neg (by omega), if_neg (by omega), if_neg (by omega), if_neg (by omega)]; done)
    · try simp only [decide_eq_true_eq, decide_eq_false_iff_not, Bool.not_eq_true', Bool.not_eq_false', beq_iff_eq, beq_eq_false_iff_ne, ne_eq] at h2
      refine at_seq rfl ?_
      refine rg rfl ?_
      refine Rq ?_
      refine Rq ?_
      refine Rq ?_
      refine Rq ?_
      have tr : ∀ y0 y1 y2 y3 y4 y8 y9 y10 y11 y20 y22 y26 y30 z0 z1 z2 z3 : AV, trim [(26, z3), (29, z2), (28, z1), (27, z0), (0, y0), (1, y1), (2, y2), (3, y3), (4, y4), (8, y8), (9, y9), (10, y10), (11, y11), (20, y20), (22, y22), (26, y26), (30, y30)] [(0, y0), (1, y1), (2, y2), (3, y3), (4, y4), (8, y8), (9, y9), (10, y10), (11, y11), (20, y20), (22, y22), (26, y26), (30, y30)] = [(0, y0), (1, y1), (2, y2), (3, y3), (4, y4), (8, y8), (9, y9), (10, y10), (11, y11), (20, y20), (22, y22), (26, z3), (30, y30)] := fun y0 y1 y2 y3 y4 y8 y9 y10 y11 y20 y22 y26 y30 z0 z1 z2 z3 => rfl
      refine R_nil (tr _ _ _ _ _ _ _ _ _ _ _ _ _ _ _ _ _) ?_; clear tr
      refine then_n ?_
      refine cdd (fun h3 => ?_) (fun h3 => ?_)
      · try simp only [decide_eq_true_eq, decide_eq_false_iff_not, Bool.not_eq_true', Bool.not_eq_false', beq_iff_eq, beq_eq_false_iff_ne, ne_eq] at h3
        refine at_seq rfl ?_
        refine rg rfl ?_
        refine Rq ?_
        refine Rq ?_
        have tr : ∀ y0 y1 y2 y3 y4 y8 y9 y10 y11 y20 y22 y26 y30 z0 z1 : AV, trim [(9, z1), (8, z0), (0, y0), (1, y1), (2, y2), (3, y3), (4, y4), (8, y8), (9, y9), (10, y10), (11, y11), (20, y20), (22, y22), (26, y26), (30, y30)] [(0, y0), (1, y1), (2, y2), (3, y3), (4, y4), (8, y8), (9, y9), (10, y10), (11, y11), (20, y20), (22, y22), (26, y26), (30, y30)] = [(0, y0), (1, y1), (2, y2), (3, y3), (4, y4), (8, z0), (9, z1), (10, y10), (11, y11), (20, y20), (22, y22), (26, y26), (30, y30)] := fun y0 y1 y2 y3 y4 y8 y9 y10 y11 y20 y22 y26 y30 z0 z1 => rfl
        refine R_nil (tr _ _ _ _ _ _ _ _ _ _ _ _ _ _ _) ?_; clear tr
        refine then_n ?_
        refine at_ret rfl ?_
        refine blk_r ?_
        refine then_r ?_
        refine fpure ?_
        refine ⟨?_, rfl⟩
        first | (rw [winS, if_pos (by assumption)]; done) | (rw [winS, if_neg (by omega), if_pos (by omega)]; done) | (rw [winS, if_neg (by omega), if_neg (by omega), if_pos (by omega)]; done) | (rw [winS, if_neg (by omega), if_neg (by omega), if_neg (by omega), if_pos (by omega)]; done) | (rw [winS, if_neg (by omega), if_neg (by omega), if_neg (by omega), if_neg (by omega)]; done)
      · try simp only [decide_eq_true_eq, decide_eq_false_iff_not, Bool.not_eq_true', Bool.not_eq_false', beq_iff_eq, beq_eq_false_iff_ne, ne_eq] at h3
        refine at_seq rfl ?_
        refine rg rfl ?_
        refine Rq ?_
        refine Rq ?_
        refine Rq ?_
        refine Rq ?_
        have tr : ∀ y0 y1 y2 y3 y4 y8 y9 y10 y11 y20 y22 y26 y30 z0 z1 z2 z3 : AV, trim [(30, z3), (33, z2), (32, z1), (31, z0), (0, y0), (1, y1), (2, y2), (3, y3), (4, y4), (8, y8), (9, y9), (10, y10), (11, y11), (20, y20), (22, y22), (26, y26), (30, y30)] [(0, y0), (1, y1), (2, y2), (3, y3), (4, y4), (8, y8), (9, y9), (10, y10), (11, y11), (20, y20), (22, y22), (26, y26), (30, y30)] = [(0, y0), (1, y1), (2, y2), (3, y3), (4, y4), (8, y8), (9, y9), (10, y10), (11, y11), (20, y20), (22, y22), (26, y26), (30, z3)] := fun y0 y1 y2 y3 y4 y8 y9 y10 y11 y20 y22 y26 y30 z0 z1 z2 z3 => rfl
        refine R_nil (tr _ _ _ _ _ _ _ _ _ _ _ _ _ _ _ _ _) ?_; clear tr
        refine then_n ?_
        refine cdd (fun h4 => ?_) (fun h4 => ?_)
        · try simp only [decide_eq_true_eq, decide_eq_false_iff_not, Bool.not_eq_true', Bool.not_eq_false', beq_iff_eq, beq_eq_false_iff_ne, ne_eq] at h4
          refine at_seq rfl ?_
          refine rg rfl ?_
          refine Rq ?_
          refine Rq ?_
          have tr : ∀ y0 y1 y2 y3 y4 y8 y9 y10 y11 y20 y22 y26 y30 z0 z1 : AV, trim [(9, z1), (8, z0), (0, y0), (1, y1), (2, y2), (3, y3), (4, y4), (8, y8), (9, y9), (10, y10), (11, y11), (20, y20), (22, y22), (26, y26), (30, y30)] [(0, y0), (1, y1), (2, y2), (3, y3), (4, y4), (8, y8), (9, y9), (10, y10), (11, y11), (20, y20), (22, y22), (26, y26), (30, y30)] = [(0, y0), (1, y1), (2, y2), (3, y3), (4, y4), (8, z0), (9, z1), (10, y10), (11, y11), (20, y20), (22, y22), (26, y26), (30, y30)] := fun y0 y1 y2 y3 y4 y8 y9 y10 y11 y20 y22 y26 y30 z0 z1 => rfl
          refine R_nil (tr _ _ _ _ _ _ _ _ _ _ _ _ _ _ _) ?_; clear tr
          refine then_n ?_
          refine at_ret rfl ?_
          refine blk_r ?_
          refine then_r ?_
          refine fpure ?_
          refine ⟨?_, rfl⟩
          first | (rw [winS, if_pos (by assumption)]; done) | (rw [winS, if_neg (by omega), if_pos (by omega)]; done) | (rw [winS, if_neg (by omega), if_neg (by omega), if_pos (by omega)]; done) | (rw [winS, if_neg (by omega), if_neg (by omega), if_neg (by omega), if_pos (by omega)]; done) | (rw [winS, if_neg (by omega), if_neg (by omega), if_neg (by omega), if_neg (by omega)]; done)
        · try simp only [decide_eq_true_eq, decide_eq_false_iff_not, Bool.not_eq_true', Bool.not_eq_false', beq_iff_eq, beq_eq_false_iff_ne, ne_eq] at h4
          refine at_skip rfl ?_
          refine blk_n ?_
          refine then_n ?_
          refine at_seq rfl ?_
          refine rg rfl ?_
          refine Rq ?_
          refine Rq ?_
          have tr : ∀ y0 y1 y2 y3 y4 y8 y9 y10 y11 y20 y22 y26 y30 z0 z1 : AV, trim [(9, z1), (8, z0), (0, y0), (1, y1), (2, y2), (3, y3), (4, y4), (8, y8), (9, y9), (10, y10), (11, y11), (20, y20), (22, y22), (26, y26), (30, y30)] [(0, y0), (1, y1), (2, y2), (3, y3), (4, y4), (8, y8), (9, y9), (10, y10), (11, y11), (20, y20), (22, y22), (26, y26), (30, y30)] = [(0, y0), (1, y1), (2, y2), (3, y3), (4, y4), (8, z0), (9, z1), (10, y10), (11, y11), (20, y20), (22, y22), (26, y26), (30, y30)] := fun y0 y1 y2 y3 y4 y8 y9 y10 y11 y20 y22 y26 y30 z0 z1 => rfl
          refine R_nil (tr _ _ _ _ _ _ _ _ _ _ _ _ _ _ _) ?_; clear tr
          refine then_n ?_
          refine at_ret rfl ?_
          refine fpure ?_
          refine ⟨?_, rfl⟩
          first | (rw [winS, if_pos (by assumption)]; done) | (rw [winS, if_neg (by omega), if_pos (by omega)]; done) | (rw [winS, if_neg (by omega), if_neg (by omega), if_pos (by omega)]; done) | (rw [winS, if_neg (by omega), if_neg (by omega), if_neg (by omega), if_pos (by omega)]; done) | (rw [winS, if_neg (by omega), if_neg (by omega), if_neg (by omega), if_neg (by omega)]; done)

theorem rwin_ok (lim : Nat) (H : Heap) (rows : Tb) (per tot wth balls : Int) (l m : List Stp) (k n w : Int) :
    ACall sig lim 33 [.agg [rowsAV rows, AV.i per, AV.i tot, AV.i wth, AV.i balls, stopsAV l, stopsAV m], AV.i k, AV.i n, AV.i w] H fun r H' => r = .tup [AV.i (winS rows per tot wth balls l m k n w).1, AV.i (winS rows per tot wth balls l m k n w).2] ∧ H' = H := by
  refine ACall_pure (fa := fa33) rfl rfl rfl rfl ?_
  have tr : ∀ a0 a1 a2 a3 : AV, env0 fa33.keep [a0, a1, a2, a3] = [(0, a0), (1, a1), (2, a2), (3, a3), (4, .any), (8, .any), (9, .any), (10, .any), (11, .any), (20, .any), (24, .any), (27, .any), (30, .any)] := fun a0 a1 a2 a3 => rfl
  refine W_to (tr _ _ _ _) ?_; clear tr
  refine at_seq rfl ?_
  refine rg rfl ?_
  refine R_box rfl (by simp (disch := first | omega | (simp only [List.length_map, List.length_append, List.length_set, List.length_cons, List.length_nil, List.length_take, List.length_drop]; omega)) only [go_sem, ↓reduceIte, Nat.reduceEqDiff, reduceCtorEq]; rfl) rfl rfl ?_
  refine Rq ?_
  refine Rq ?_
  have tr : ∀ y0 y1 y2 y3 y4 y8 y9 y10 y11 y20 y24 y27 y30 z0 z1 z2 : AV, trim [(9, z2), (8, z1), (4, z0), (0, y0), (1, y1), (2, y2), (3, y3), (4, y4), (8, y8), (9, y9), (10, y10), (11, y11), (20, y20), (24, y24), (27, y27), (30, y30)] [(0, y0), (1, y1), (2, y2), (3, y3), (4, y4), (8, y8), (9, y9), (10, y10), (11, y11), (20, y20), (24, y24), (27, y27), (30, y30)] = [(0, y0), (1, y1), (2, y2), (3, y3), (4, z0), (8, z1), (9, z2), (10, y10), (11, y11), (20, y20), (24, y24), (27, y27), (30, y30)] := fun y0 y1 y2 y3 y4 y8 y9 y10 y11 y20 y24 y27 y30 z0 z1 z2 => rfl
  refine R_nil (tr _ _ _ _ _ _ _ _ _ _ _ _ _ _ _ _) ?_; clear tr
  refine then_n ?_
  refine at_seq rfl ?_
  refine rg rfl ?_
  refine Rq ?_
  refine Rq ?_
  refine Rq ?_
  refine Rcall ?_
  refine ACall_eq (rpat_ok _ _ rows per tot wth balls l m n w) ?_
  refine Rq ?_
  refine Rq ?_
  refine Rq ?_
  refine Rq ?_
  refine Rq ?_
  have tr : ∀ y0 y1 y2 y3 y4 y8 y9 y10 y11 y20 y24 y27 y30 z0 z1 z2 z3 z4 z5 z6 z7 z8 : AV, trim [(11, z8), (10, z7), (18, z6), (17, z5), (12, z4), (16, z3), (15, z2), (14, z1), (13, z0), (0, y0), (1, y1), (2, y2), (3, y3), (4, y4), (8, y8), (9, y9), (10, y10), (11, y11), (20, y20), (24, y24), (27, y27), (30, y30)] [(0, y0), (1, y1), (2, y2), (3, y3), (4, y4), (8, y8), (9, y9), (10, y10), (11, y11), (20, y20), (24, y24), (27, y27), (30, y30)] = [(0, y0), (1, y1), (2, y2), (3, y3), (4, y4), (8, y8), (9, y9), (10, z7), (11, z8), (20, y20), (24, y24), (27, y27), (30, y30)] := fun y0 y1 y2 y3 y4 y8 y9 y10 y11 y20 y24 y27 y30 z0 z1 z2 z3 z4 z5 z6 z7 z8 => rfl
  refine R_nil (tr _ _ _ _ _ _ _ _ _ _ _ _ _ _ _ _ _ _ _ _ _ _) ?_; clear tr
  refine then_n ?_
  refine at_seq rfl ?_
  refine at_seq rfl ?_
  refine rg rfl ?_
  refine Rq ?_
  refine Rq ?_
  have tr : ∀ y0 y1 y2 y3 y4 y8 y9 y10 y11 y20 y24 y27 y30 z0 z1 : AV, trim [(20, z1), (19, z0), (0, y0), (1, y1), (2, y2), (3, y3), (4, y4), (8, y8), (9, y9), (10, y10), (11, y11), (20, y20), (24, y24), (27, y27), (30, y30)] [(0, y0), (1, y1), (2, y2), (3, y3), (4, y4), (8, y8), (9, y9), (10, y10), (11, y11), (20, y20), (24, y24), (27, y27), (30, y30)] = [(0, y0), (1, y1), (2, y2), (3, y3), (4, y4), (8, y8), (9, y9), (10, y10), (11, y11), (20, z1), (24, y24), (27, y27), (30, y30)] := fun y0 y1 y2 y3 y4 y8 y9 y10 y11 y20 y24 y27 y30 z0 z1 => rfl
  refine R_nil (tr _ _ _ _ _ _ _ _ _ _ _ _ _ _ _) ?_; clear tr
  refine then_n ?_
  refine cdd (fun h1 => ?_) (fun h1 => ?_)
  · try simp only [decide_eq_true_eq, decide_eq_false_iff_not, Bool.not_eq_true', Bool.not_eq_false', beq_iff_eq, beq_eq_false_iff_ne, ne_eq] at h1
    refine at_seq rfl ?_
    refine rg rfl ?_
    refine Rq ?_
    refine Rq ?_
    refine Rq ?_
    have tr : ∀ y0 y1 y2 y3 y4 y8 y9 y10 y11 y20 y24 y27 y30 z0 z1 z2 : AV, trim [(9, z2), (8, z1), (21, z0), (0, y0), (1, y1), (2, y2), (3, y3), (4, y4), (8, y8), (9, y9), (10, y10), (11, y11), (20, y20), (24, y24), (27, y27), (30, y30)] [(0, y0), (1, y1), (2, y2), (3, y3), (4, y4), (8, y8), (9, y9), (10, y10), (11, y11), (20, y20), (24, y24), (27, y27), (30, y30)] = [(0, y0), (1, y1), (2, y2), (3, y3), (4, y4), (8, z1), (9, z2), (10, y10), (11, y11), (20, y20), (24, y24), (27, y27), (30, y30)] := fun y0 y1 y2 y3 y4 y8 y9 y10 y11 y20 y24 y27 y30 z0 z1 z2 => rfl
    refine R_nil (tr _ _ _ _ _ _ _ _ _ _ _ _ _ _ _ _) ?_; clear tr
    refine then_n ?_
    refine at_ret rfl ?_
    refine then_r ?_
    refine fpure ?_
    refine ⟨?_, rfl⟩
    first | (rw [winS, if_pos (by assumption)]; done) | (rw [winS, if_neg (by omega), if_pos (by omega)]; done) | (rw [winS, if_neg (by omega), if_neg (by omega), if_pos (by omega)]; done) | (rw [winS, if_neg (by omega), if_neg (by omega), if_neg (by omega), if_pos (by omega)]; done) | (rw [winS, if_neg (by omega), if_neg (by omega), if_neg (by omega), if_neg (by omega)]; done)
  · try simp only [decide_eq_true_eq, decide_eq_false_iff_not, Bool.not_eq_true', Bool.not_eq_false', beq_iff_eq, beq_eq_false_iff_ne, ne_eq] at h1
    refine at_skip rfl ?_
    refine then_n ?_
    refine at_seq rfl ?_
    refine at_seq rfl ?_
    refine rg rfl ?_
    refine Rq ?_
    refine Rcall ?_
    refine ACall_eq (between_ok _ _ _ _ _) ?_
    refine Rq ?_
    have tr : ∀ y0 y1 y2 y3 y4 y8 y9 y10 y11 y20 y24 y27 y30 z0 z1 z2 : AV, trim [(24, z2), (23, z1), (22, z0), (0, y0), (1, y1), (2, y2), (3, y3), (4, y4), (8, y8), (9, y9), (10, y10), (11, y11), (20, y20), (24, y24), (27, y27), (30, y30)] [(0, y0), (1, y1), (2, y2), (3, y3), (4, y4), (8, y8), (9, y9), (10, y10), (11, y11), (20, y20), (24, y24), (27, y27), (30, y30)] = [(0, y0), (1, y1), (2, y2), (3, y3), (4, y4), (8, y8), (9, y9), (10, y10), (11, y11), (20, y20), (24, z2), (27, y27), (30, y30)] := fun y0 y1 y2 y3 y4 y8 y9 y10 y11 y20 y24 y27 y30 z0 z1 z2 => rfl
    refine R_nil (tr _ _ _ _ _ _ _ _ _ _ _ _ _ _ _ _) ?_; clear tr
    refine then_n ?_
    refine cdd (fun h2 => ?_) (fun h2 => ?_)
    · try simp only [decide_eq_true_eq, decide_eq_false_iff_not, Bool.not_eq_true', Bool.not_eq_false', beq_iff_eq, beq_eq_false_iff_ne, ne_eq] at h2
      refine at_seq rfl ?_
      refine rg rfl ?_
      refine Rq ?_
      refine Rq ?_
      have tr : ∀ y0 y1 y2 y3 y4 y8 y9 y10 y11 y20 y24 y27 y30 z0 z1 : AV, trim [(9, z1), (8, z0), (0, y0), (1, y1), (2, y2), (3, y3), (4, y4), (8, y8), (9, y9), (10, y10), (11, y11), (20, y20), (24, y24), (27, y27), (30, y30)] [(0, y0), (1, y1), (2, y2), (3, y3), (4, y4), (8, y8), (9, y9), (10, y10), (11, y11), (20, y20), (24, y24), (27, y27), (30, y30)] = [(0, y0), (1, y1), (2, y2), (3, y3), (4, y4), (8, z0), (9, z1), (10, y10), (11, y11), (20, y20), (24, y24), (27, y27), (30, y30)] := fun y0 y1 y2 y3 y4 y8 y9 y10 y11 y20 y24 y27 y30 z0 z1 => rfl
      refine R_nil (tr _ _ _ _ _ _ _ _ _ _ _ _ _ _ _) ?_; clear tr
      refine then_n ?_
      refine at_ret rfl ?_
      refine then_r ?_
      refine fpure ?_
      refine ⟨?_, rfl⟩
      first | (rw [winS, if_pos (by assumption)]; done) | (rw [winS, if_neg (by omega), if_pos (by omega)]; done) | (rw [winS, if_neg (by omega), if_neg (by omega), if_pos (by omega)]; done) | (rw [winS, if_neg (by omega), if_neg (by omega), if_neg (by omega), if_pos (by omega)]; done) | (rw [winS, if_neg (by omega), if_neg (by omega), if_neg (by omega), if_neg (by omega)]; done)
    · try simp only [decide_eq_true_eq, decide_eq_false_iff_not, Bool.not_eq_true', Bool.not_eq_false', beq_iff_eq, beq_eq_false_iff_ne, ne_eq] at h2
      refine at_skip rfl ?_
      refine then_n ?_
      refine at_seq rfl ?_
      refine at_seq rfl ?_
      refine rg rfl ?_
      refine Rq ?_
      refine Rq ?_
      refine Rq ?_
      have tr : ∀ y0 y1 y2 y3 y4 y8 y9 y10 y11 y20 y24 y27 y30 z0 z1 z2 : AV, trim [(27, z2), (26, z1), (25, z0), (0, y0), (1, y1), (2, y2), (3, y3), (4, y4), (8, y8), (9, y9), (10, y10), (11, y11), (20, y20), (24, y24), (27, y27), (30, y30)] [(0, y0), (1, y1), (2, y2), (3, y3), (4, y4), (8, y8), (9, y9), (10, y10), (11, y11), (20, y20), (24, y24), (27, y27), (30, y30)] = [(0, y0), (1, y1), (2, y2), (3, y3), (4, y4), (8, y8), (9, y9), (10, y10), (11, y11), (20, y20), (24, y24), (27, z2), (30, y30)] := fun y0 y1 y2 y3 y4 y8 y9 y10 y11 y20 y24 y27 y30 z0 z1 z2 => rfl
      refine R_nil (tr _ _ _ _ _ _ _ _ _ _ _ _ _ _ _ _) ?_; clear tr
      refine then_n ?_
      refine cdd (fun h3 => ?_) (fun h3 => ?_)
      · try simp only [decide_eq_true_eq, decide_eq_false_iff_not, Bool.not_eq_true', Bool.not_eq_false', beq_iff_eq, beq_eq_false_iff_ne, ne_eq] at h3
        refine at_seq rfl ?_
        refine rg rfl ?_
        refine Rq ?_
        refine Rq ?_
        have tr : ∀ y0 y1 y2 y3 y4 y8 y9 y10 y11 y20 y24 y27 y30 z0 z1 : AV, trim [(9, z1), (8, z0), (0, y0), (1, y1), (2, y2), (3, y3), (4, y4), (8, y8), (9, y9), (10, y10), (11, y11), (20, y20), (24, y24), (27, y27), (30, y30)] [(0, y0), (1, y1), (2, y2), (3, y3), (4, y4), (8, y8), (9, y9), (10, y10), (11, y11), (20, y20), (24, y24), (27, y27), (30, y30)] = [(0, y0), (1, y1), (2, y2), (3, y3), (4, y4), (8, z0), (9, z1), (10, y10), (11, y11), (20, y20), (24, y24), (27, y27), (30, y30)] := fun y0 y1 y2 y3 y4 y8 y9 y10 y11 y20 y24 y27 y30 z0 z1 => rfl
        refine R_nil (tr _ _ _ _ _ _ _ _ _ _ _ _ _ _ _) ?_; clear tr
        refine then_n ?_
        refine at_ret rfl ?_
        refine then_r ?_
        refine fpure ?_
        refine ⟨?_, rfl⟩
        first | (rw [winS, if_pos (by assumption)]; done) | (rw [winS, if_neg (by omega), if_pos (by omega)]; done) | (rw [winS, if_neg (by omega), if_neg (by omega), if_pos (by omega)]; done) | (rw [winS, if_neg (by omega), if_neg (by omega), if_neg (by omega), if_pos (by omega)]; done) | (rw [winS, if_neg (by omega), if_neg (by omega), if_neg (by omega), if_neg (by omega)]; done)
      · try simp only [decide_eq_true_eq, decide_eq_false_iff_not, Bool.not_eq_true', Bool.not_eq_false', beq_iff_eq, beq_eq_false_iff_ne, ne_eq] at h3
        refine at_skip rfl ?_
        refine then_n ?_
        refine at_seq rfl ?_
        refine at_seq rfl ?_
        refine rg rfl ?_
        refine Rq ?_
        refine Rq ?_
        refine Rq ?_
        have tr : ∀ y0 y1 y2 y3 y4 y8 y9 y10 y11 y20 y24 y27 y30 z0 z1 z2 : AV, trim [(30, z2), (29, z1), (28, z0), (0, y0), (1, y1), (2, y2), (3, y3), (4, y4), (8, y8), (9, y9), (10, y10), (11, y11), (20, y20), (24, y24), (27, y27), (30, y30)] [(0, y0), (1, y1), (2, y2), (3, y3), (4, y4), (8, y8), (9, y9), (10, y10), (11, y11), (20, y20), (24, y24), (27, y27), (30, y30)] = [(0, y0), (1, y1), (2, y2), (3, y3), (4, y4), (8, y8), (9, y9), (10, y10), (11, y11), (20, y20), (24, y24), (27, y27), (30, z2)] := fun y0 y1 y2 y3 y4 y8 y9 y10 y11 y20 y24 y27 y30 z0 z1 z2 => rfl
        refine R_nil (tr _ _ _ _ _ _ _ _ _ _ _ _ _ _ _ _) ?_; clear tr
        refine then_n ?_
        refine cdd (fun h4 => ?_) (fun h4 => ?_)
        · try simp only [decide_eq_true_eq, decide_eq_false_iff_not, Bool.not_eq_true', Bool.not_eq_false', beq_iff_eq, beq_eq_false_iff_ne, ne_eq] at h4
          refine at_seq rfl ?_
          refine rg rfl ?_
          refine Rq ?_
          refine Rq ?_
          have tr : ∀ y0 y1 y2 y3 y4 y8 y9 y10 y11 y20 y24 y27 y30 z0 z1 : AV, trim [(9, z1), (8, z0), (0, y0), (1, y1), (2, y2), (3, y3), (4, y4), (8, y8), (9, y9), (10, y10), (11, y11), (20, y20), (24, y24), (27, y27), (30, y30)] [(0, y0), (1, y1), (2, y2), (3, y3), (4, y4), (8, y8), (9, y9), (10, y10), (11, y11), (20, y20), (24, y24), (27, y27), (30, y30)] = [(0, y0), (1, y1), (2, y2), (3, y3), (4, y4), (8, z0), (9, z1), (10, y10), (11, y11), (20, y20), (24, y24), (27, y27), (30, y30)] := fun y0 y1 y2 y3 y4 y8 y9 y10 y11 y20 y24 y27 y30 z0 z1 => rfl
          refine R_nil (tr _ _ _ _ _ _ _ _ _ _ _ _ _ _ _) ?_; clear tr
          refine then_n ?_
          refine at_ret rfl ?_
          refine then_r ?_
          refine fpure ?_
          refine ⟨?_, rfl⟩
          first | (rw [winS, if_pos (by assumption)]; done) | (rw [winS, if_neg (by omega), if_pos (by omega)]; done) | (rw [winS, if_neg (by omega), if_neg (by omega), if_pos (by omega)]; done) | (rw [winS, if_neg (by omega), if_neg (by omega), if_neg (by omega), if_pos (by omega)]; done) | (rw [winS, if_neg (by omega), if_neg (by omega), if_neg (by omega), if_neg (by omega)]; done)
        · try simp only [decide_eq_true_eq, decide_eq_false_iff_not, Bool.not_eq_true', Bool.not_eq_false', beq_iff_eq, beq_eq_false_iff_ne, ne_eq] at h4
          refine at_skip rfl ?_
          refine then_n ?_
          refine at_seq rfl ?_
          refine rg rfl ?_
          refine Rq ?_
          refine Rq ?_
          have tr : ∀ y0 y1 y2 y3 y4 y8 y9 y10 y11 y20 y24 y27 y30 z0 z1 : AV, trim [(9, z1), (8, z0), (0, y0), (1, y1), (2, y2), (3, y3), (4, y4), (8, y8), (9, y9), (10, y10), (11, y11), (20, y20), (24, y24), (27, y27), (30, y30)] [(0, y0), (1, y1), (2, y2), (3, y3), (4, y4), (8, y8), (9, y9), (10, y10), (11, y11), (20, y20), (24, y24), (27, y27), (30, y30)] = [(0, y0), (1, y1), (2, y2), (3, y3), (4, y4), (8, z0), (9, z1), (10, y10), (11, y11), (20, y20), (24, y24), (27, y27), (30, y30)] := fun y0 y1 y2 y3 y4 y8 y9 y10 y11 y20 y24 y27 y30 z0 z1 => rfl
          refine R_nil (tr _ _ _ _ _ _ _ _ _ _ _ _ _ _ _) ?_; clear tr
          refine then_n ?_
          refine at_ret rfl ?_
          refine fpure ?_
          refine ⟨?_, rfl⟩
          first | (rw [winS, if_pos (by assumption)]; done) | (rw [winS, if_neg (by omega), if_pos (by omega)]; done) | (rw [winS, if_neg (by omega), if_neg (by omega), if_pos (by omega)]; done) | (rw [winS, if_neg (by omega), if_neg (by omega), if_neg (by omega), if_pos (by omega)]; done) | (rw [winS, if_neg (by omega), if_neg (by omega), if_neg (by omega), if_neg (by omega)]; done)

end Go.Proofs.Ytaoondlakhocnaa
