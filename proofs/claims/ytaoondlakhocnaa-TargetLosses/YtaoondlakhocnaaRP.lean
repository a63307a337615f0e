/-
  Walks of chapters 37, 39 and 40. The steps are written by program (walk.py).
-/
import Derived.Test.YtaoondlakhocnaaT
set_option linter.unusedSimpArgs false
set_option linter.unusedVariables false
set_option maxHeartbeats 40000000
set_option maxRecDepth 4000
namespace Go.Proofs.Ytaoondlakhocnaa
open Go Go.Am

theorem total_ok (lim : Nat) (H : Heap) (n : Int) : ACall sig lim 51 [AV.i n] H fun r H' => r = .v (.bool (decide (0 ≤ n ∧ n ≤ 10000))) ∧ H' = H := by
  refine ACall_pure (fa := fa51) rfl rfl rfl rfl ?_
  have tr : ∀ a0 : AV, env0 fa51.keep [a0] = [(0, a0), (2, .any)] := fun a0 => rfl
  refine W_to (tr _) ?_; clear tr
  refine at_seq rfl ?_
  refine rg rfl ?_
  refine Rq ?_
  have tr : ∀ y0 y2 z0 : AV, trim [(2, z0), (0, y0), (2, y2)] [(0, y0), (2, y2)] = [(0, y0), (2, z0)] := fun y0 y2 z0 => rfl
  refine R_nil (tr _ _ _) ?_; clear tr
  refine then_n ?_
  refine at_seq rfl ?_
  refine rg rfl ?_
  refine Rq ?_
  refine Rq ?_
  refine Rq ?_
  refine Rp_split (fun h1 => ?_) (fun h1 => ?_)
  · try simp only [decide_eq_true_eq, decide_eq_false_iff_not, Bool.not_eq_true', Bool.not_eq_false', beq_iff_eq, beq_eq_false_iff_ne, ne_eq] at h1
    refine Ry ?_
    refine Rq ?_
    refine Ry ?_
    refine Rq ?_
    refine Rq ?_
    refine Rq ?_
    have tr : ∀ y0 y2 z0 z1 z2 z3 z4 z5 z6 : AV, trim [(2, z6), (8, z5), (7, z4), (6, z3), (5, z2), (4, z1), (3, z0), (0, y0), (2, y2)] [(0, y0), (2, y2)] = [(0, y0), (2, z6)] := fun y0 y2 z0 z1 z2 z3 z4 z5 z6 => rfl
    refine R_nil (tr _ _ _ _ _ _ _ _ _) ?_; clear tr
    refine then_n ?_
    refine at_ret rfl ?_
    refine fpure ?_
    refine ⟨?_, rfl⟩
    congr 2
    first | (rw [decide_eq_decide]; omega) | (symm; rw [decide_eq_false_iff_not]; omega) | (symm; rw [decide_eq_true_eq]; omega)
  · try simp only [decide_eq_true_eq, decide_eq_false_iff_not, Bool.not_eq_true', Bool.not_eq_false', beq_iff_eq, beq_eq_false_iff_ne, ne_eq] at h1
    refine Rn ?_
    refine Rn ?_
    refine Rq ?_
    refine Rq ?_
    have tr : ∀ y0 y2 z0 z1 z2 z3 z4 z5 z6 : AV, trim [(2, z6), (8, z5), (7, z4), (6, z3), (5, z2), (4, z1), (3, z0), (0, y0), (2, y2)] [(0, y0), (2, y2)] = [(0, y0), (2, z6)] := fun y0 y2 z0 z1 z2 z3 z4 z5 z6 => rfl
    refine R_nil (tr _ _ _ _ _ _ _ _ _) ?_; clear tr
    refine then_n ?_
    refine at_ret rfl ?_
    refine fpure ?_
    refine ⟨?_, rfl⟩
    congr 2
    first | (rw [decide_eq_decide]; omega) | (symm; rw [decide_eq_false_iff_not]; omega) | (symm; rw [decide_eq_true_eq]; omega)

theorem between_ok (lim : Nat) (H : Heap) (n lo hi : Int) : ACall sig lim 52 [AV.i n, AV.i lo, AV.i hi] H fun r H' => r = .v (.bool (decide (lo ≤ n ∧ n ≤ hi))) ∧ H' = H := by
  refine ACall_pure (fa := fa52) rfl rfl rfl rfl ?_
  have tr : ∀ a0 a1 a2 : AV, env0 fa52.keep [a0, a1, a2] = [(0, a0), (1, a1), (2, a2), (6, .any)] := fun a0 a1 a2 => rfl
  refine W_to (tr _ _ _) ?_; clear tr
  refine at_seq rfl ?_
  refine rg rfl ?_
  refine Rq ?_
  have tr : ∀ y0 y1 y2 y6 z0 : AV, trim [(6, z0), (0, y0), (1, y1), (2, y2), (6, y6)] [(0, y0), (1, y1), (2, y2), (6, y6)] = [(0, y0), (1, y1), (2, y2), (6, z0)] := fun y0 y1 y2 y6 z0 => rfl
  refine R_nil (tr _ _ _ _ _) ?_; clear tr
  refine then_n ?_
  refine at_seq rfl ?_
  refine rg rfl ?_
  refine Rq ?_
  refine Rq ?_
  refine Rq ?_
  refine Rq ?_
  refine Rp_split (fun h1 => ?_) (fun h1 => ?_)
  · try simp only [decide_eq_true_eq, decide_eq_false_iff_not, Bool.not_eq_true', Bool.not_eq_false', beq_iff_eq, beq_eq_false_iff_ne, ne_eq] at h1
    refine Ry ?_
    refine Rq ?_
    refine Ry ?_
    refine Rq ?_
    refine Ry ?_
    refine Rq ?_
    refine Rq ?_
    refine Rq ?_
    have tr : ∀ y0 y1 y2 y6 z0 z1 z2 z3 z4 z5 z6 z7 z8 : AV, trim [(6, z8), (14, z7), (13, z6), (12, z5), (11, z4), (10, z3), (9, z2), (8, z1), (7, z0), (0, y0), (1, y1), (2, y2), (6, y6)] [(0, y0), (1, y1), (2, y2), (6, y6)] = [(0, y0), (1, y1), (2, y2), (6, z8)] := fun y0 y1 y2 y6 z0 z1 z2 z3 z4 z5 z6 z7 z8 => rfl
    refine R_nil (tr _ _ _ _ _ _ _ _ _ _ _ _ _) ?_; clear tr
    refine then_n ?_
    refine at_ret rfl ?_
    refine fpure ?_
    refine ⟨?_, rfl⟩
    congr 2
    first | (rw [decide_eq_decide]; omega) | (symm; rw [decide_eq_false_iff_not]; omega) | (symm; rw [decide_eq_true_eq]; omega)
  · try simp only [decide_eq_true_eq, decide_eq_false_iff_not, Bool.not_eq_true', Bool.not_eq_false', beq_iff_eq, beq_eq_false_iff_ne, ne_eq] at h1
    refine Rn ?_
    refine Rn ?_
    refine Rn ?_
    refine Rq ?_
    refine Rq ?_
    have tr : ∀ y0 y1 y2 y6 z0 z1 z2 z3 z4 z5 z6 z7 z8 : AV, trim [(6, z8), (14, z7), (13, z6), (12, z5), (11, z4), (10, z3), (9, z2), (8, z1), (7, z0), (0, y0), (1, y1), (2, y2), (6, y6)] [(0, y0), (1, y1), (2, y2), (6, y6)] = [(0, y0), (1, y1), (2, y2), (6, z8)] := fun y0 y1 y2 y6 z0 z1 z2 z3 z4 z5 z6 z7 z8 => rfl
    refine R_nil (tr _ _ _ _ _ _ _ _ _ _ _ _ _) ?_; clear tr
    refine then_n ?_
    refine at_ret rfl ?_
    refine fpure ?_
    refine ⟨?_, rfl⟩
    congr 2
    first | (rw [decide_eq_decide]; omega) | (symm; rw [decide_eq_false_iff_not]; omega) | (symm; rw [decide_eq_true_eq]; omega)

theorem rev_ok (lim : Nat) (H : Heap) (a b c e f : Int) :
    ACall sig lim 25 [AV.i a, AV.i b, AV.i c, AV.i e, AV.i f] H fun r H' => r = .tup [AV.i (reviseS a b c e f).1, AV.i (reviseS a b c e f).2] ∧ H' = H := by
  refine ACall_pure (fa := fa25) rfl rfl rfl rfl ?_
  have tr : ∀ a0 a1 a2 a3 a4 : AV, env0 fa25.keep [a0, a1, a2, a3, a4] = [(0, a0), (1, a1), (2, a2), (3, a3), (4, a4), (10, .any), (11, .any), (45, .any), (48, .any)] := fun a0 a1 a2 a3 a4 => rfl
  refine W_to (tr _ _ _ _ _) ?_; clear tr
  refine at_seq rfl ?_
  refine rg rfl ?_
  refine Rq ?_
  refine Rq ?_
  have tr : ∀ y0 y1 y2 y3 y4 y10 y11 y45 y48 z0 z1 : AV, trim [(11, z1), (10, z0), (0, y0), (1, y1), (2, y2), (3, y3), (4, y4), (10, y10), (11, y11), (45, y45), (48, y48)] [(0, y0), (1, y1), (2, y2), (3, y3), (4, y4), (10, y10), (11, y11), (45, y45), (48, y48)] = [(0, y0), (1, y1), (2, y2), (3, y3), (4, y4), (10, z0), (11, z1), (45, y45), (48, y48)] := fun y0 y1 y2 y3 y4 y10 y11 y45 y48 z0 z1 => rfl
  refine R_nil (tr _ _ _ _ _ _ _ _ _ _ _) ?_; clear tr
  refine then_n ?_
  refine at_seq rfl ?_
  refine at_seq rfl ?_
  refine rg rfl ?_
  refine Rq ?_
  refine Rcall ?_
  refine ACall_eq (total_ok _ _ _) ?_
  refine Rq ?_
  refine Rq ?_
  refine Rp_split (fun h1 => ?_) (fun h1 => ?_)
  · try simp only [decide_eq_true_eq, decide_eq_false_iff_not, Bool.not_eq_true', Bool.not_eq_false', beq_iff_eq, beq_eq_false_iff_ne, ne_eq] at h1
    refine Rn ?_
    refine Rn ?_
    refine Rn ?_
    refine Rq ?_
    refine Rq ?_
    refine Rn ?_
    refine Rn ?_
    refine Rq ?_
    refine Rq ?_
    refine Rn ?_
    refine Rn ?_
    refine Rq ?_
    refine Rq ?_
    refine Rn ?_
    refine Rn ?_
    refine Rq ?_
    refine Rq ?_
    refine Rn ?_
    refine Rn ?_
    refine Rn ?_
    refine Rq ?_
    refine Rq ?_
    refine Rn ?_
    refine Rn ?_
    refine Rq ?_
    refine Rq ?_
    refine Rn ?_
    refine Rn ?_
    refine Rn ?_
    refine Rq ?_
    have tr : ∀ y0 y1 y2 y3 y4 y10 y11 y45 y48 z0 z1 z2 z3 z4 z5 z6 z7 z8 z9 z10 z11 z12 z13 z14 z15 z16 z17 z18 z19 z20 z21 z22 z23 z24 z25 z26 z27 z28 z29 z30 z31 z32 z33 : AV, trim [(45, z33), (44, z32), (43, z31), (42, z30), (41, z29), (40, z28), (39, z27), (38, z26), (37, z25), (36, z24), (35, z23), (34, z22), (33, z21), (32, z20), (31, z19), (30, z18), (29, z17), (28, z16), (27, z15), (26, z14), (25, z13), (24, z12), (23, z11), (22, z10), (21, z9), (20, z8), (19, z7), (18, z6), (17, z5), (16, z4), (15, z3), (14, z2), (13, z1), (12, z0), (0, y0), (1, y1), (2, y2), (3, y3), (4, y4), (10, y10), (11, y11), (45, y45), (48, y48)] [(0, y0), (1, y1), (2, y2), (3, y3), (4, y4), (10, y10), (11, y11), (45, y45), (48, y48)] = [(0, y0), (1, y1), (2, y2), (3, y3), (4, y4), (10, y10), (11, y11), (45, z33), (48, y48)] := fun y0 y1 y2 y3 y4 y10 y11 y45 y48 z0 z1 z2 z3 z4 z5 z6 z7 z8 z9 z10 z11 z12 z13 z14 z15 z16 z17 z18 z19 z20 z21 z22 z23 z24 z25 z26 z27 z28 z29 z30 z31 z32 z33 => rfl
    refine R_nil (tr _ _ _ _ _ _ _ _ _ _ _ _ _ _ _ _ _ _ _ _ _ _ _ _ _ _ _ _ _ _ _ _ _ _ _ _ _ _ _ _ _ _ _) ?_; clear tr
    refine then_n ?_
    refine cdt ?_
    refine at_seq rfl ?_
    refine rg rfl ?_
    refine Rq ?_
    refine Rq ?_
    have tr : ∀ y0 y1 y2 y3 y4 y10 y11 y45 y48 z0 z1 : AV, trim [(11, z1), (10, z0), (0, y0), (1, y1), (2, y2), (3, y3), (4, y4), (10, y10), (11, y11), (45, y45), (48, y48)] [(0, y0), (1, y1), (2, y2), (3, y3), (4, y4), (10, y10), (11, y11), (45, y45), (48, y48)] = [(0, y0), (1, y1), (2, y2), (3, y3), (4, y4), (10, z0), (11, z1), (45, y45), (48, y48)] := fun y0 y1 y2 y3 y4 y10 y11 y45 y48 z0 z1 => rfl
    refine R_nil (tr _ _ _ _ _ _ _ _ _ _ _) ?_; clear tr
    refine then_n ?_
    refine at_ret rfl ?_
    refine then_r ?_
    refine fpure ?_
    refine ⟨?_, rfl⟩
    first | (rw [reviseS, if_pos (by unfold revBad; omega)]) | (rw [rev_ok0 hnb, revV, if_pos (by omega)]) | (rw [rev_ok0 hnb, revV, if_neg (by omega)])
  · try simp only [decide_eq_true_eq, decide_eq_false_iff_not, Bool.not_eq_true', Bool.not_eq_false', beq_iff_eq, beq_eq_false_iff_ne, ne_eq] at h1
    refine Ry ?_
    refine Rq ?_
    refine Ry ?_
    refine Rcall ?_
    refine ACall_eq (total_ok _ _ _) ?_
    refine Ry ?_
    refine Rq ?_
    refine Rq ?_
    refine Rq ?_
    refine Rp_split (fun h2 => ?_) (fun h2 => ?_)
    · try simp only [decide_eq_true_eq, decide_eq_false_iff_not, Bool.not_eq_true', Bool.not_eq_false', beq_iff_eq, beq_eq_false_iff_ne, ne_eq] at h2
      refine Rn ?_
      refine Rn ?_
      refine Rq ?_
      refine Rq ?_
      refine Rn ?_
      refine Rn ?_
      refine Rq ?_
      refine Rq ?_
      refine Rn ?_
      refine Rn ?_
      refine Rq ?_
      refine Rq ?_
      refine Rn ?_
      refine Rn ?_
      refine Rn ?_
      refine Rq ?_
      refine Rq ?_
      refine Rn ?_
      refine Rn ?_
      refine Rq ?_
      refine Rq ?_
      refine Rn ?_
      refine Rn ?_
      refine Rn ?_
      refine Rq ?_
      have tr : ∀ y0 y1 y2 y3 y4 y10 y11 y45 y48 z0 z1 z2 z3 z4 z5 z6 z7 z8 z9 z10 z11 z12 z13 z14 z15 z16 z17 z18 z19 z20 z21 z22 z23 z24 z25 z26 z27 z28 z29 z30 z31 z32 z33 : AV, trim [(45, z33), (44, z32), (43, z31), (42, z30), (41, z29), (40, z28), (39, z27), (38, z26), (37, z25), (36, z24), (35, z23), (34, z22), (33, z21), (32, z20), (31, z19), (30, z18), (29, z17), (28, z16), (27, z15), (26, z14), (25, z13), (24, z12), (23, z11), (22, z10), (21, z9), (20, z8), (19, z7), (18, z6), (17, z5), (16, z4), (15, z3), (14, z2), (13, z1), (12, z0), (0, y0), (1, y1), (2, y2), (3, y3), (4, y4), (10, y10), (11, y11), (45, y45), (48, y48)] [(0, y0), (1, y1), (2, y2), (3, y3), (4, y4), (10, y10), (11, y11), (45, y45), (48, y48)] = [(0, y0), (1, y1), (2, y2), (3, y3), (4, y4), (10, y10), (11, y11), (45, z33), (48, y48)] := fun y0 y1 y2 y3 y4 y10 y11 y45 y48 z0 z1 z2 z3 z4 z5 z6 z7 z8 z9 z10 z11 z12 z13 z14 z15 z16 z17 z18 z19 z20 z21 z22 z23 z24 z25 z26 z27 z28 z29 z30 z31 z32 z33 => rfl
      refine R_nil (tr _ _ _ _ _ _ _ _ _ _ _ _ _ _ _ _ _ _ _ _ _ _ _ _ _ _ _ _ _ _ _ _ _ _ _ _ _ _ _ _ _ _ _) ?_; clear tr
      refine then_n ?_
      refine cdt ?_
      refine at_seq rfl ?_
      refine rg rfl ?_
      refine Rq ?_
      refine Rq ?_
      have tr : ∀ y0 y1 y2 y3 y4 y10 y11 y45 y48 z0 z1 : AV, trim [(11, z1), (10, z0), (0, y0), (1, y1), (2, y2), (3, y3), (4, y4), (10, y10), (11, y11), (45, y45), (48, y48)] [(0, y0), (1, y1), (2, y2), (3, y3), (4, y4), (10, y10), (11, y11), (45, y45), (48, y48)] = [(0, y0), (1, y1), (2, y2), (3, y3), (4, y4), (10, z0), (11, z1), (45, y45), (48, y48)] := fun y0 y1 y2 y3 y4 y10 y11 y45 y48 z0 z1 => rfl
      refine R_nil (tr _ _ _ _ _ _ _ _ _ _ _) ?_; clear tr
      refine then_n ?_
      refine at_ret rfl ?_
      refine then_r ?_
      refine fpure ?_
      refine ⟨?_, rfl⟩
      first | (rw [reviseS, if_pos (by unfold revBad; omega)]) | (rw [rev_ok0 hnb, revV, if_pos (by omega)]) | (rw [rev_ok0 hnb, revV, if_neg (by omega)])
    · try simp only [decide_eq_true_eq, decide_eq_false_iff_not, Bool.not_eq_true', Bool.not_eq_false', beq_iff_eq, beq_eq_false_iff_ne, ne_eq] at h2
      refine Ry ?_
      refine Rq ?_
      refine Ry ?_
      refine Rq ?_
      refine Rq ?_
      refine Rq ?_
      refine Rp_split (fun h3 => ?_) (fun h3 => ?_)
      · try simp only [decide_eq_true_eq, decide_eq_false_iff_not, Bool.not_eq_true', Bool.not_eq_false', beq_iff_eq, beq_eq_false_iff_ne, ne_eq] at h3
        refine Rn ?_
        refine Rn ?_
        refine Rq ?_
        refine Rq ?_
        refine Rn ?_
        refine Rn ?_
        refine Rq ?_
        refine Rq ?_
        refine Rn ?_
        refine Rn ?_
        refine Rn ?_
        refine Rq ?_
        refine Rq ?_
        refine Rn ?_
        refine Rn ?_
        refine Rq ?_
        refine Rq ?_
        refine Rn ?_
        refine Rn ?_
        refine Rn ?_
        refine Rq ?_
        have tr : ∀ y0 y1 y2 y3 y4 y10 y11 y45 y48 z0 z1 z2 z3 z4 z5 z6 z7 z8 z9 z10 z11 z12 z13 z14 z15 z16 z17 z18 z19 z20 z21 z22 z23 z24 z25 z26 z27 z28 z29 z30 z31 z32 z33 : AV, trim [(45, z33), (44, z32), (43, z31), (42, z30), (41, z29), (40, z28), (39, z27), (38, z26), (37, z25), (36, z24), (35, z23), (34, z22), (33, z21), (32, z20), (31, z19), (30, z18), (29, z17), (28, z16), (27, z15), (26, z14), (25, z13), (24, z12), (23, z11), (22, z10), (21, z9), (20, z8), (19, z7), (18, z6), (17, z5), (16, z4), (15, z3), (14, z2), (13, z1), (12, z0), (0, y0), (1, y1), (2, y2), (3, y3), (4, y4), (10, y10), (11, y11), (45, y45), (48, y48)] [(0, y0), (1, y1), (2, y2), (3, y3), (4, y4), (10, y10), (11, y11), (45, y45), (48, y48)] = [(0, y0), (1, y1), (2, y2), (3, y3), (4, y4), (10, y10), (11, y11), (45, z33), (48, y48)] := fun y0 y1 y2 y3 y4 y10 y11 y45 y48 z0 z1 z2 z3 z4 z5 z6 z7 z8 z9 z10 z11 z12 z13 z14 z15 z16 z17 z18 z19 z20 z21 z22 z23 z24 z25 z26 z27 z28 z29 z30 z31 z32 z33 => rfl
        refine R_nil (tr _ _ _ _ _ _ _ _ _ _ _ _ _ _ _ _ _ _ _ _ _ _ _ _ _ _ _ _ _ _ _ _ _ _ _ _ _ _ _ _ _ _ _) ?_; clear tr
        refine then_n ?_
        refine cdt ?_
        refine at_seq rfl ?_
        refine rg rfl ?_
        refine Rq ?_
        refine Rq ?_
        have tr : ∀ y0 y1 y2 y3 y4 y10 y11 y45 y48 z0 z1 : AV, trim [(11, z1), (10, z0), (0, y0), (1, y1), (2, y2), (3, y3), (4, y4), (10, y10), (11, y11), (45, y45), (48, y48)] [(0, y0), (1, y1), (2, y2), (3, y3), (4, y4), (10, y10), (11, y11), (45, y45), (48, y48)] = [(0, y0), (1, y1), (2, y2), (3, y3), (4, y4), (10, z0), (11, z1), (45, y45), (48, y48)] := fun y0 y1 y2 y3 y4 y10 y11 y45 y48 z0 z1 => rfl
        refine R_nil (tr _ _ _ _ _ _ _ _ _ _ _) ?_; clear tr
        refine then_n ?_
        refine at_ret rfl ?_
        refine then_r ?_
        refine fpure ?_
        refine ⟨?_, rfl⟩
        first | (rw [reviseS, if_pos (by unfold revBad; omega)]) | (rw [rev_ok0 hnb, revV, if_pos (by omega)]) | (rw [rev_ok0 hnb, revV, if_neg (by omega)])
      · try simp only [decide_eq_true_eq, decide_eq_false_iff_not, Bool.not_eq_true', Bool.not_eq_false', beq_iff_eq, beq_eq_false_iff_ne, ne_eq] at h3
        refine Ry ?_
        refine Rq ?_
        refine Ry ?_
        refine Rq ?_
        refine Rq ?_
        refine Rq ?_
        refine Rp_split (fun h4 => ?_) (fun h4 => ?_)
        · try simp only [decide_eq_true_eq, decide_eq_false_iff_not, Bool.not_eq_true', Bool.not_eq_false', beq_iff_eq, beq_eq_false_iff_ne, ne_eq] at h4
          refine Rn ?_
          refine Rn ?_
          refine Rq ?_
          refine Rq ?_
          refine Rn ?_
          refine Rn ?_
          refine Rn ?_
          refine Rq ?_
          refine Rq ?_
          refine Rn ?_
          refine Rn ?_
          refine Rq ?_
          refine Rq ?_
          refine Rn ?_
          refine Rn ?_
          refine Rn ?_
          refine Rq ?_
          have tr : ∀ y0 y1 y2 y3 y4 y10 y11 y45 y48 z0 z1 z2 z3 z4 z5 z6 z7 z8 z9 z10 z11 z12 z13 z14 z15 z16 z17 z18 z19 z20 z21 z22 z23 z24 z25 z26 z27 z28 z29 z30 z31 z32 z33 : AV, trim [(45, z33), (44, z32), (43, z31), (42, z30), (41, z29), (40, z28), (39, z27), (38, z26), (37, z25), (36, z24), (35, z23), (34, z22), (33, z21), (32, z20), (31, z19), (30, z18), (29, z17), (28, z16), (27, z15), (26, z14), (25, z13), (24, z12), (23, z11), (22, z10), (21, z9), (20, z8), (19, z7), (18, z6), (17, z5), (16, z4), (15, z3), (14, z2), (13, z1), (12, z0), (0, y0), (1, y1), (2, y2), (3, y3), (4, y4), (10, y10), (11, y11), (45, y45), (48, y48)] [(0, y0), (1, y1), (2, y2), (3, y3), (4, y4), (10, y10), (11, y11), (45, y45), (48, y48)] = [(0, y0), (1, y1), (2, y2), (3, y3), (4, y4), (10, y10), (11, y11), (45, z33), (48, y48)] := fun y0 y1 y2 y3 y4 y10 y11 y45 y48 z0 z1 z2 z3 z4 z5 z6 z7 z8 z9 z10 z11 z12 z13 z14 z15 z16 z17 z18 z19 z20 z21 z22 z23 z24 z25 z26 z27 z28 z29 z30 z31 z32 z33 => rfl
          refine R_nil (tr _ _ _ _ _ _ _ _ _ _ _ _ _ _ _ _ _ _ _ _ _ _ _ _ _ _ _ _ _ _ _ _ _ _ _ _ _ _ _ _ _ _ _) ?_; clear tr
          refine then_n ?_
          refine cdt ?_
          refine at_seq rfl ?_
          refine rg rfl ?_
          refine Rq ?_
          refine Rq ?_
          have tr : ∀ y0 y1 y2 y3 y4 y10 y11 y45 y48 z0 z1 : AV, trim [(11, z1), (10, z0), (0, y0), (1, y1), (2, y2), (3, y3), (4, y4), (10, y10), (11, y11), (45, y45), (48, y48)] [(0, y0), (1, y1), (2, y2), (3, y3), (4, y4), (10, y10), (11, y11), (45, y45), (48, y48)] = [(0, y0), (1, y1), (2, y2), (3, y3), (4, y4), (10, z0), (11, z1), (45, y45), (48, y48)] := fun y0 y1 y2 y3 y4 y10 y11 y45 y48 z0 z1 => rfl
          refine R_nil (tr _ _ _ _ _ _ _ _ _ _ _) ?_; clear tr
          refine then_n ?_
          refine at_ret rfl ?_
          refine then_r ?_
          refine fpure ?_
          refine ⟨?_, rfl⟩
          first | (rw [reviseS, if_pos (by unfold revBad; omega)]) | (rw [rev_ok0 hnb, revV, if_pos (by omega)]) | (rw [rev_ok0 hnb, revV, if_neg (by omega)])
        · try simp only [decide_eq_true_eq, decide_eq_false_iff_not, Bool.not_eq_true', Bool.not_eq_false', beq_iff_eq, beq_eq_false_iff_ne, ne_eq] at h4
          refine Ry ?_
          refine Rq ?_
          refine Ry ?_
          refine Rq ?_
          refine Rq ?_
          refine Rq ?_
          refine Rp_split (fun h5 => ?_) (fun h5 => ?_)
          · try simp only [decide_eq_true_eq, decide_eq_false_iff_not, Bool.not_eq_true', Bool.not_eq_false', beq_iff_eq, beq_eq_false_iff_ne, ne_eq] at h5
            refine Rn ?_
            refine Rn ?_
            refine Rn ?_
            refine Rq ?_
            refine Rq ?_
            refine Rn ?_
            refine Rn ?_
            refine Rq ?_
            refine Rq ?_
            refine Rn ?_
            refine Rn ?_
            refine Rn ?_
            refine Rq ?_
            have tr : ∀ y0 y1 y2 y3 y4 y10 y11 y45 y48 z0 z1 z2 z3 z4 z5 z6 z7 z8 z9 z10 z11 z12 z13 z14 z15 z16 z17 z18 z19 z20 z21 z22 z23 z24 z25 z26 z27 z28 z29 z30 z31 z32 z33 : AV, trim [(45, z33), (44, z32), (43, z31), (42, z30), (41, z29), (40, z28), (39, z27), (38, z26), (37, z25), (36, z24), (35, z23), (34, z22), (33, z21), (32, z20), (31, z19), (30, z18), (29, z17), (28, z16), (27, z15), (26, z14), (25, z13), (24, z12), (23, z11), (22, z10), (21, z9), (20, z8), (19, z7), (18, z6), (17, z5), (16, z4), (15, z3), (14, z2), (13, z1), (12, z0), (0, y0), (1, y1), (2, y2), (3, y3), (4, y4), (10, y10), (11, y11), (45, y45), (48, y48)] [(0, y0), (1, y1), (2, y2), (3, y3), (4, y4), (10, y10), (11, y11), (45, y45), (48, y48)] = [(0, y0), (1, y1), (2, y2), (3, y3), (4, y4), (10, y10), (11, y11), (45, z33), (48, y48)] := fun y0 y1 y2 y3 y4 y10 y11 y45 y48 z0 z1 z2 z3 z4 z5 z6 z7 z8 z9 z10 z11 z12 z13 z14 z15 z16 z17 z18 z19 z20 z21 z22 z23 z24 z25 z26 z27 z28 z29 z30 z31 z32 z33 => rfl
            refine R_nil (tr _ _ _ _ _ _ _ _ _ _ _ _ _ _ _ _ _ _ _ _ _ _ _ _ _ _ _ _ _ _ _ _ _ _ _ _ _ _ _ _ _ _ _) ?_; clear tr
            refine then_n ?_
            refine cdt ?_
            refine at_seq rfl ?_
            refine rg rfl ?_
            refine Rq ?_
            refine Rq ?_
            have tr : ∀ y0 y1 y2 y3 y4 y10 y11 y45 y48 z0 z1 : AV, trim [(11, z1), (10, z0), (0, y0), (1, y1), (2, y2), (3, y3), (4, y4), (10, y10), (11, y11), (45, y45), (48, y48)] [(0, y0), (1, y1), (2, y2), (3, y3), (4, y4), (10, y10), (11, y11), (45, y45), (48, y48)] = [(0, y0), (1, y1), (2, y2), (3, y3), (4, y4), (10, z0), (11, z1), (45, y45), (48, y48)] := fun y0 y1 y2 y3 y4 y10 y11 y45 y48 z0 z1 => rfl
            refine R_nil (tr _ _ _ _ _ _ _ _ _ _ _) ?_; clear tr
            refine then_n ?_
            refine at_ret rfl ?_
            refine then_r ?_
            refine fpure ?_
            refine ⟨?_, rfl⟩
            first | (rw [reviseS, if_pos (by unfold revBad; omega)]) | (rw [rev_ok0 hnb, revV, if_pos (by omega)]) | (rw [rev_ok0 hnb, revV, if_neg (by omega)])
          · try simp only [decide_eq_true_eq, decide_eq_false_iff_not, Bool.not_eq_true', Bool.not_eq_false', beq_iff_eq, beq_eq_false_iff_ne, ne_eq] at h5
            refine Ry ?_
            refine Rq ?_
            refine Ry ?_
            refine Rq ?_
            refine Ry ?_
            refine Rq ?_
            refine Rq ?_
            refine Rq ?_
            refine Rp_split (fun h6 => ?_) (fun h6 => ?_)
            · try simp only [decide_eq_true_eq, decide_eq_false_iff_not, Bool.not_eq_true', Bool.not_eq_false', beq_iff_eq, beq_eq_false_iff_ne, ne_eq] at h6
              refine Rn ?_
              refine Rn ?_
              refine Rq ?_
              refine Rq ?_
              refine Rn ?_
              refine Rn ?_
              refine Rn ?_
              refine Rq ?_
              have tr : ∀ y0 y1 y2 y3 y4 y10 y11 y45 y48 z0 z1 z2 z3 z4 z5 z6 z7 z8 z9 z10 z11 z12 z13 z14 z15 z16 z17 z18 z19 z20 z21 z22 z23 z24 z25 z26 z27 z28 z29 z30 z31 z32 z33 : AV, trim [(45, z33), (44, z32), (43, z31), (42, z30), (41, z29), (40, z28), (39, z27), (38, z26), (37, z25), (36, z24), (35, z23), (34, z22), (33, z21), (32, z20), (31, z19), (30, z18), (29, z17), (28, z16), (27, z15), (26, z14), (25, z13), (24, z12), (23, z11), (22, z10), (21, z9), (20, z8), (19, z7), (18, z6), (17, z5), (16, z4), (15, z3), (14, z2), (13, z1), (12, z0), (0, y0), (1, y1), (2, y2), (3, y3), (4, y4), (10, y10), (11, y11), (45, y45), (48, y48)] [(0, y0), (1, y1), (2, y2), (3, y3), (4, y4), (10, y10), (11, y11), (45, y45), (48, y48)] = [(0, y0), (1, y1), (2, y2), (3, y3), (4, y4), (10, y10), (11, y11), (45, z33), (48, y48)] := fun y0 y1 y2 y3 y4 y10 y11 y45 y48 z0 z1 z2 z3 z4 z5 z6 z7 z8 z9 z10 z11 z12 z13 z14 z15 z16 z17 z18 z19 z20 z21 z22 z23 z24 z25 z26 z27 z28 z29 z30 z31 z32 z33 => rfl
              refine R_nil (tr _ _ _ _ _ _ _ _ _ _ _ _ _ _ _ _ _ _ _ _ _ _ _ _ _ _ _ _ _ _ _ _ _ _ _ _ _ _ _ _ _ _ _) ?_; clear tr
              refine then_n ?_
              refine cdt ?_
              refine at_seq rfl ?_
              refine rg rfl ?_
              refine Rq ?_
              refine Rq ?_
              have tr : ∀ y0 y1 y2 y3 y4 y10 y11 y45 y48 z0 z1 : AV, trim [(11, z1), (10, z0), (0, y0), (1, y1), (2, y2), (3, y3), (4, y4), (10, y10), (11, y11), (45, y45), (48, y48)] [(0, y0), (1, y1), (2, y2), (3, y3), (4, y4), (10, y10), (11, y11), (45, y45), (48, y48)] = [(0, y0), (1, y1), (2, y2), (3, y3), (4, y4), (10, z0), (11, z1), (45, y45), (48, y48)] := fun y0 y1 y2 y3 y4 y10 y11 y45 y48 z0 z1 => rfl
              refine R_nil (tr _ _ _ _ _ _ _ _ _ _ _) ?_; clear tr
              refine then_n ?_
              refine at_ret rfl ?_
              refine then_r ?_
              refine fpure ?_
              refine ⟨?_, rfl⟩
              first | (rw [reviseS, if_pos (by unfold revBad; omega)]) | (rw [rev_ok0 hnb, revV, if_pos (by omega)]) | (rw [rev_ok0 hnb, revV, if_neg (by omega)])
            · try simp only [decide_eq_true_eq, decide_eq_false_iff_not, Bool.not_eq_true', Bool.not_eq_false', beq_iff_eq, beq_eq_false_iff_ne, ne_eq] at h6
              refine Ry ?_
              refine Rq ?_
              refine Ry ?_
              refine Rq ?_
              refine Rq ?_
              refine Rq ?_
              refine Rp_split (fun h7 => ?_) (fun h7 => ?_)
              · try simp only [decide_eq_true_eq, decide_eq_false_iff_not, Bool.not_eq_true', Bool.not_eq_false', beq_iff_eq, beq_eq_false_iff_ne, ne_eq] at h7
                refine Rn ?_
                refine Rn ?_
                refine Rn ?_
                refine Rq ?_
                have tr : ∀ y0 y1 y2 y3 y4 y10 y11 y45 y48 z0 z1 z2 z3 z4 z5 z6 z7 z8 z9 z10 z11 z12 z13 z14 z15 z16 z17 z18 z19 z20 z21 z22 z23 z24 z25 z26 z27 z28 z29 z30 z31 z32 z33 : AV, trim [(45, z33), (44, z32), (43, z31), (42, z30), (41, z29), (40, z28), (39, z27), (38, z26), (37, z25), (36, z24), (35, z23), (34, z22), (33, z21), (32, z20), (31, z19), (30, z18), (29, z17), (28, z16), (27, z15), (26, z14), (25, z13), (24, z12), (23, z11), (22, z10), (21, z9), (20, z8), (19, z7), (18, z6), (17, z5), (16, z4), (15, z3), (14, z2), (13, z1), (12, z0), (0, y0), (1, y1), (2, y2), (3, y3), (4, y4), (10, y10), (11, y11), (45, y45), (48, y48)] [(0, y0), (1, y1), (2, y2), (3, y3), (4, y4), (10, y10), (11, y11), (45, y45), (48, y48)] = [(0, y0), (1, y1), (2, y2), (3, y3), (4, y4), (10, y10), (11, y11), (45, z33), (48, y48)] := fun y0 y1 y2 y3 y4 y10 y11 y45 y48 z0 z1 z2 z3 z4 z5 z6 z7 z8 z9 z10 z11 z12 z13 z14 z15 z16 z17 z18 z19 z20 z21 z22 z23 z24 z25 z26 z27 z28 z29 z30 z31 z32 z33 => rfl
                refine R_nil (tr _ _ _ _ _ _ _ _ _ _ _ _ _ _ _ _ _ _ _ _ _ _ _ _ _ _ _ _ _ _ _ _ _ _ _ _ _ _ _ _ _ _ _) ?_; clear tr
                refine then_n ?_
                refine cdt ?_
                refine at_seq rfl ?_
                refine rg rfl ?_
                refine Rq ?_
                refine Rq ?_
                have tr : ∀ y0 y1 y2 y3 y4 y10 y11 y45 y48 z0 z1 : AV, trim [(11, z1), (10, z0), (0, y0), (1, y1), (2, y2), (3, y3), (4, y4), (10, y10), (11, y11), (45, y45), (48, y48)] [(0, y0), (1, y1), (2, y2), (3, y3), (4, y4), (10, y10), (11, y11), (45, y45), (48, y48)] = [(0, y0), (1, y1), (2, y2), (3, y3), (4, y4), (10, z0), (11, z1), (45, y45), (48, y48)] := fun y0 y1 y2 y3 y4 y10 y11 y45 y48 z0 z1 => rfl
                refine R_nil (tr _ _ _ _ _ _ _ _ _ _ _) ?_; clear tr
                refine then_n ?_
                refine at_ret rfl ?_
                refine then_r ?_
                refine fpure ?_
                refine ⟨?_, rfl⟩
                first | (rw [reviseS, if_pos (by unfold revBad; omega)]) | (rw [rev_ok0 hnb, revV, if_pos (by omega)]) | (rw [rev_ok0 hnb, revV, if_neg (by omega)])
              · try simp only [decide_eq_true_eq, decide_eq_false_iff_not, Bool.not_eq_true', Bool.not_eq_false', beq_iff_eq, beq_eq_false_iff_ne, ne_eq] at h7
                refine Ry ?_
                refine Rq ?_
                refine Ry ?_
                refine Rq ?_
                refine Ry ?_
                refine Rq ?_
                refine Rq ?_
                have tr : ∀ y0 y1 y2 y3 y4 y10 y11 y45 y48 z0 z1 z2 z3 z4 z5 z6 z7 z8 z9 z10 z11 z12 z13 z14 z15 z16 z17 z18 z19 z20 z21 z22 z23 z24 z25 z26 z27 z28 z29 z30 z31 z32 z33 : AV, trim [(45, z33), (44, z32), (43, z31), (42, z30), (41, z29), (40, z28), (39, z27), (38, z26), (37, z25), (36, z24), (35, z23), (34, z22), (33, z21), (32, z20), (31, z19), (30, z18), (29, z17), (28, z16), (27, z15), (26, z14), (25, z13), (24, z12), (23, z11), (22, z10), (21, z9), (20, z8), (19, z7), (18, z6), (17, z5), (16, z4), (15, z3), (14, z2), (13, z1), (12, z0), (0, y0), (1, y1), (2, y2), (3, y3), (4, y4), (10, y10), (11, y11), (45, y45), (48, y48)] [(0, y0), (1, y1), (2, y2), (3, y3), (4, y4), (10, y10), (11, y11), (45, y45), (48, y48)] = [(0, y0), (1, y1), (2, y2), (3, y3), (4, y4), (10, y10), (11, y11), (45, z33), (48, y48)] := fun y0 y1 y2 y3 y4 y10 y11 y45 y48 z0 z1 z2 z3 z4 z5 z6 z7 z8 z9 z10 z11 z12 z13 z14 z15 z16 z17 z18 z19 z20 z21 z22 z23 z24 z25 z26 z27 z28 z29 z30 z31 z32 z33 => rfl
                refine R_nil (tr _ _ _ _ _ _ _ _ _ _ _ _ _ _ _ _ _ _ _ _ _ _ _ _ _ _ _ _ _ _ _ _ _ _ _ _ _ _ _ _ _ _ _) ?_; clear tr
                refine then_n ?_
                refine cdd (fun h8 => ?_) (fun h8 => ?_)
                · try simp only [decide_eq_true_eq, decide_eq_false_iff_not, Bool.not_eq_true', Bool.not_eq_false', beq_iff_eq, beq_eq_false_iff_ne, ne_eq] at h8
                  refine at_seq rfl ?_
                  refine rg rfl ?_
                  refine Rq ?_
                  refine Rq ?_
                  have tr : ∀ y0 y1 y2 y3 y4 y10 y11 y45 y48 z0 z1 : AV, trim [(11, z1), (10, z0), (0, y0), (1, y1), (2, y2), (3, y3), (4, y4), (10, y10), (11, y11), (45, y45), (48, y48)] [(0, y0), (1, y1), (2, y2), (3, y3), (4, y4), (10, y10), (11, y11), (45, y45), (48, y48)] = [(0, y0), (1, y1), (2, y2), (3, y3), (4, y4), (10, z0), (11, z1), (45, y45), (48, y48)] := fun y0 y1 y2 y3 y4 y10 y11 y45 y48 z0 z1 => rfl
                  refine R_nil (tr _ _ _ _ _ _ _ _ _ _ _) ?_; clear tr
                  refine then_n ?_
                  refine at_ret rfl ?_
                  refine then_r ?_
                  refine fpure ?_
                  refine ⟨?_, rfl⟩
                  first | (rw [reviseS, if_pos (by unfold revBad; omega)]) | (rw [rev_ok0 hnb, revV, if_pos (by omega)]) | (rw [rev_ok0 hnb, revV, if_neg (by omega)])
                · try simp only [decide_eq_true_eq, decide_eq_false_iff_not, Bool.not_eq_true', Bool.not_eq_false', beq_iff_eq, beq_eq_false_iff_ne, ne_eq] at h8
                  refine at_skip rfl ?_
                  refine then_n ?_
                  refine at_seq rfl ?_
                  refine at_seq rfl ?_
                  refine rg rfl ?_
                  refine Rq ?_
                  refine Rq ?_
                  refine Rq ?_
                  have tr : ∀ y0 y1 y2 y3 y4 y10 y11 y45 y48 z0 z1 z2 : AV, trim [(48, z2), (47, z1), (46, z0), (0, y0), (1, y1), (2, y2), (3, y3), (4, y4), (10, y10), (11, y11), (45, y45), (48, y48)] [(0, y0), (1, y1), (2, y2), (3, y3), (4, y4), (10, y10), (11, y11), (45, y45), (48, y48)] = [(0, y0), (1, y1), (2, y2), (3, y3), (4, y4), (10, y10), (11, y11), (45, y45), (48, z2)] := fun y0 y1 y2 y3 y4 y10 y11 y45 y48 z0 z1 z2 => rfl
                  refine R_nil (tr _ _ _ _ _ _ _ _ _ _ _ _) ?_; clear tr
                  refine then_n ?_
                  refine cdd (fun h9 => ?_) (fun h9 => ?_)
                  · try simp only [decide_eq_true_eq, decide_eq_false_iff_not, Bool.not_eq_true', Bool.not_eq_false', beq_iff_eq, beq_eq_false_iff_ne, ne_eq] at h9
                    refine at_seq rfl ?_
                    refine rg rfl ?_
                    have hnb : ¬ revBad a b c e f := by unfold revBad; omega
                    have k := rev_box hnb
                    have k1 := quo_box (y := b) k.1 (by omega)
                    refine Rq ?_
                    refine Rq ?_
                    refine Rq ?_
                    refine Rq ?_
                    refine Rq ?_
                    refine Rq ?_
                    refine Rq ?_
                    refine Rq ?_
                    have tr : ∀ y0 y1 y2 y3 y4 y10 y11 y45 y48 z0 z1 z2 z3 z4 z5 z6 z7 : AV, trim [(11, z7), (10, z6), (54, z5), (53, z4), (52, z3), (51, z2), (50, z1), (49, z0), (0, y0), (1, y1), (2, y2), (3, y3), (4, y4), (10, y10), (11, y11), (45, y45), (48, y48)] [(0, y0), (1, y1), (2, y2), (3, y3), (4, y4), (10, y10), (11, y11), (45, y45), (48, y48)] = [(0, y0), (1, y1), (2, y2), (3, y3), (4, y4), (10, z6), (11, z7), (45, y45), (48, y48)] := fun y0 y1 y2 y3 y4 y10 y11 y45 y48 z0 z1 z2 z3 z4 z5 z6 z7 => rfl
                    refine R_nil (tr _ _ _ _ _ _ _ _ _ _ _ _ _ _ _ _ _) ?_; clear tr
                    refine then_n ?_
                    refine at_ret rfl ?_
                    refine then_r ?_
                    refine fpure ?_
                    refine ⟨?_, rfl⟩
                    first | (rw [reviseS, if_pos (by unfold revBad; omega)]) | (rw [rev_ok0 hnb, revV, if_pos (by omega)]) | (rw [rev_ok0 hnb, revV, if_neg (by omega)])
                  · try simp only [decide_eq_true_eq, decide_eq_false_iff_not, Bool.not_eq_true', Bool.not_eq_false', beq_iff_eq, beq_eq_false_iff_ne, ne_eq] at h9
                    refine at_skip rfl ?_
                    refine then_n ?_
                    refine at_seq rfl ?_
                    refine rg rfl ?_
                    have hnb : ¬ revBad a b c e f := by unfold revBad; omega
                    have k := rev_box hnb
                    have k2 := k.2.2 (by omega)
                    have k1 := quo_box (y := e) k2.1 (by omega)
                    refine Rq ?_
                    refine Rq ?_
                    refine Rq ?_
                    refine Rq ?_
                    refine Rq ?_
                    refine Rq ?_
                    refine Rq ?_
                    refine Rq ?_
                    refine Rq ?_
                    refine Rq ?_
                    refine Rq ?_
                    refine Rq ?_
                    have tr : ∀ y0 y1 y2 y3 y4 y10 y11 y45 y48 z0 z1 z2 z3 z4 z5 z6 z7 z8 z9 z10 z11 : AV, trim [(11, z11), (10, z10), (64, z9), (63, z8), (62, z7), (61, z6), (60, z5), (59, z4), (58, z3), (57, z2), (56, z1), (55, z0), (0, y0), (1, y1), (2, y2), (3, y3), (4, y4), (10, y10), (11, y11), (45, y45), (48, y48)] [(0, y0), (1, y1), (2, y2), (3, y3), (4, y4), (10, y10), (11, y11), (45, y45), (48, y48)] = [(0, y0), (1, y1), (2, y2), (3, y3), (4, y4), (10, z10), (11, z11), (45, y45), (48, y48)] := fun y0 y1 y2 y3 y4 y10 y11 y45 y48 z0 z1 z2 z3 z4 z5 z6 z7 z8 z9 z10 z11 => rfl
                    refine R_nil (tr _ _ _ _ _ _ _ _ _ _ _ _ _ _ _ _ _ _ _ _ _) ?_; clear tr
                    refine then_n ?_
                    refine at_ret rfl ?_
                    refine fpure ?_
                    refine ⟨?_, rfl⟩
                    first | (rw [reviseS, if_pos (by unfold revBad; omega)]) | (rw [rev_ok0 hnb, revV, if_pos (by omega)]) | (rw [rev_ok0 hnb, revV, if_neg (by omega)])

theorem rrev_ok (lim : Nat) (H : Heap) (a b c e f : Int) :
    ACall sig lim 26 [AV.i a, AV.i b, AV.i c, AV.i e, AV.i f] H fun r H' => r = .tup [AV.i (reviseS a b c e f).1, AV.i (reviseS a b c e f).2] ∧ H' = H := by
  refine ACall_pure (fa := fa26) rfl rfl rfl rfl ?_
  have tr : ∀ a0 a1 a2 a3 a4 : AV, env0 fa26.keep [a0, a1, a2, a3, a4] = [(0, a0), (1, a1), (2, a2), (3, a3), (4, a4), (10, .any), (11, .any), (36, .any), (39, .any)] := fun a0 a1 a2 a3 a4 => rfl
  refine W_to (tr _ _ _ _ _) ?_; clear tr
  refine at_seq rfl ?_
  refine rg rfl ?_
  refine Rq ?_
  refine Rq ?_
  have tr : ∀ y0 y1 y2 y3 y4 y10 y11 y36 y39 z0 z1 : AV, trim [(11, z1), (10, z0), (0, y0), (1, y1), (2, y2), (3, y3), (4, y4), (10, y10), (11, y11), (36, y36), (39, y39)] [(0, y0), (1, y1), (2, y2), (3, y3), (4, y4), (10, y10), (11, y11), (36, y36), (39, y39)] = [(0, y0), (1, y1), (2, y2), (3, y3), (4, y4), (10, z0), (11, z1), (36, y36), (39, y39)] := fun y0 y1 y2 y3 y4 y10 y11 y36 y39 z0 z1 => rfl
  refine R_nil (tr _ _ _ _ _ _ _ _ _ _ _) ?_; clear tr
  refine then_n ?_
  refine at_seq rfl ?_
  refine at_seq rfl ?_
  refine rg rfl ?_
  refine Rq ?_
  refine Rcall ?_
  refine ACall_eq (between_ok _ _ _ _ _) ?_
  refine Rq ?_
  refine Rq ?_
  refine Rp_split (fun h1 => ?_) (fun h1 => ?_)
  · try simp only [decide_eq_true_eq, decide_eq_false_iff_not, Bool.not_eq_true', Bool.not_eq_false', beq_iff_eq, beq_eq_false_iff_ne, ne_eq] at h1
    refine Rn ?_
    refine Rn ?_
    refine Rn ?_
    refine Rq ?_
    refine Rq ?_
    refine Rn ?_
    refine Rn ?_
    refine Rn ?_
    refine Rq ?_
    refine Rq ?_
    refine Rn ?_
    refine Rn ?_
    refine Rn ?_
    refine Rn ?_
    refine Rq ?_
    refine Rq ?_
    refine Rn ?_
    refine Rn ?_
    refine Rn ?_
    refine Rn ?_
    refine Rq ?_
    have tr : ∀ y0 y1 y2 y3 y4 y10 y11 y36 y39 z0 z1 z2 z3 z4 z5 z6 z7 z8 z9 z10 z11 z12 z13 z14 z15 z16 z17 z18 z19 z20 z21 z22 z23 z24 : AV, trim [(36, z24), (35, z23), (34, z22), (33, z21), (32, z20), (31, z19), (30, z18), (29, z17), (28, z16), (27, z15), (26, z14), (25, z13), (24, z12), (23, z11), (22, z10), (21, z9), (20, z8), (19, z7), (18, z6), (17, z5), (16, z4), (15, z3), (14, z2), (13, z1), (12, z0), (0, y0), (1, y1), (2, y2), (3, y3), (4, y4), (10, y10), (11, y11), (36, y36), (39, y39)] [(0, y0), (1, y1), (2, y2), (3, y3), (4, y4), (10, y10), (11, y11), (36, y36), (39, y39)] = [(0, y0), (1, y1), (2, y2), (3, y3), (4, y4), (10, y10), (11, y11), (36, z24), (39, y39)] := fun y0 y1 y2 y3 y4 y10 y11 y36 y39 z0 z1 z2 z3 z4 z5 z6 z7 z8 z9 z10 z11 z12 z13 z14 z15 z16 z17 z18 z19 z20 z21 z22 z23 z24 => rfl
    refine R_nil (tr _ _ _ _ _ _ _ _ _ _ _ _ _ _ _ _ _ _ _ _ _ _ _ _ _ _ _ _ _ _ _ _ _ _) ?_; clear tr
    refine then_n ?_
    refine cdt ?_
    refine at_seq rfl ?_
    refine rg rfl ?_
    refine Rq ?_
    refine Rq ?_
    have tr : ∀ y0 y1 y2 y3 y4 y10 y11 y36 y39 z0 z1 : AV, trim [(11, z1), (10, z0), (0, y0), (1, y1), (2, y2), (3, y3), (4, y4), (10, y10), (11, y11), (36, y36), (39, y39)] [(0, y0), (1, y1), (2, y2), (3, y3), (4, y4), (10, y10), (11, y11), (36, y36), (39, y39)] = [(0, y0), (1, y1), (2, y2), (3, y3), (4, y4), (10, z0), (11, z1), (36, y36), (39, y39)] := fun y0 y1 y2 y3 y4 y10 y11 y36 y39 z0 z1 => rfl
    refine R_nil (tr _ _ _ _ _ _ _ _ _ _ _) ?_; clear tr
    refine then_n ?_
    refine at_ret rfl ?_
    refine then_r ?_
    refine fpure ?_
    refine ⟨?_, rfl⟩
    first | (rw [reviseS, if_pos (by unfold revBad; omega)]) | (rw [rev_ok0 hnb, revV, if_pos (by omega)]) | (rw [rev_ok0 hnb, revV, if_neg (by omega)])
  · try simp only [decide_eq_true_eq, decide_eq_false_iff_not, Bool.not_eq_true', Bool.not_eq_false', beq_iff_eq, beq_eq_false_iff_ne, ne_eq] at h1
    refine Ry ?_
    refine Rq ?_
    refine Ry ?_
    refine Rcall ?_
    refine ACall_eq (between_ok _ _ _ _ _) ?_
    refine Ry ?_
    refine Rq ?_
    refine Rq ?_
    refine Rq ?_
    refine Rp_split (fun h2 => ?_) (fun h2 => ?_)
    · try simp only [decide_eq_true_eq, decide_eq_false_iff_not, Bool.not_eq_true', Bool.not_eq_false', beq_iff_eq, beq_eq_false_iff_ne, ne_eq] at h2
      refine Rn ?_
      refine Rn ?_
      refine Rn ?_
      refine Rq ?_
      refine Rq ?_
      refine Rn ?_
      refine Rn ?_
      refine Rn ?_
      refine Rn ?_
      refine Rq ?_
      refine Rq ?_
      refine Rn ?_
      refine Rn ?_
      refine Rn ?_
      refine Rn ?_
      refine Rq ?_
      have tr : ∀ y0 y1 y2 y3 y4 y10 y11 y36 y39 z0 z1 z2 z3 z4 z5 z6 z7 z8 z9 z10 z11 z12 z13 z14 z15 z16 z17 z18 z19 z20 z21 z22 z23 z24 : AV, trim [(36, z24), (35, z23), (34, z22), (33, z21), (32, z20), (31, z19), (30, z18), (29, z17), (28, z16), (27, z15), (26, z14), (25, z13), (24, z12), (23, z11), (22, z10), (21, z9), (20, z8), (19, z7), (18, z6), (17, z5), (16, z4), (15, z3), (14, z2), (13, z1), (12, z0), (0, y0), (1, y1), (2, y2), (3, y3), (4, y4), (10, y10), (11, y11), (36, y36), (39, y39)] [(0, y0), (1, y1), (2, y2), (3, y3), (4, y4), (10, y10), (11, y11), (36, y36), (39, y39)] = [(0, y0), (1, y1), (2, y2), (3, y3), (4, y4), (10, y10), (11, y11), (36, z24), (39, y39)] := fun y0 y1 y2 y3 y4 y10 y11 y36 y39 z0 z1 z2 z3 z4 z5 z6 z7 z8 z9 z10 z11 z12 z13 z14 z15 z16 z17 z18 z19 z20 z21 z22 z23 z24 => rfl
      refine R_nil (tr _ _ _ _ _ _ _ _ _ _ _ _ _ _ _ _ _ _ _ _ _ _ _ _ _ _ _ _ _ _ _ _ _ _) ?_; clear tr
      refine then_n ?_
      refine cdt ?_
      refine at_seq rfl ?_
      refine rg rfl ?_
      refine Rq ?_
      refine Rq ?_
      have tr : ∀ y0 y1 y2 y3 y4 y10 y11 y36 y39 z0 z1 : AV, trim [(11, z1), (10, z0), (0, y0), (1, y1), (2, y2), (3, y3), (4, y4), (10, y10), (11, y11), (36, y36), (39, y39)] [(0, y0), (1, y1), (2, y2), (3, y3), (4, y4), (10, y10), (11, y11), (36, y36), (39, y39)] = [(0, y0), (1, y1), (2, y2), (3, y3), (4, y4), (10, z0), (11, z1), (36, y36), (39, y39)] := fun y0 y1 y2 y3 y4 y10 y11 y36 y39 z0 z1 => rfl
      refine R_nil (tr _ _ _ _ _ _ _ _ _ _ _) ?_; clear tr
      refine then_n ?_
      refine at_ret rfl ?_
      refine then_r ?_
      refine fpure ?_
      refine ⟨?_, rfl⟩
      first | (rw [reviseS, if_pos (by unfold revBad; omega)]) | (rw [rev_ok0 hnb, revV, if_pos (by omega)]) | (rw [rev_ok0 hnb, revV, if_neg (by omega)])
    · try simp only [decide_eq_true_eq, decide_eq_false_iff_not, Bool.not_eq_true', Bool.not_eq_false', beq_iff_eq, beq_eq_false_iff_ne, ne_eq] at h2
      refine Ry ?_
      refine Rq ?_
      refine Ry ?_
      refine Rcall ?_
      refine ACall_eq (between_ok _ _ _ _ _) ?_
      refine Ry ?_
      refine Rq ?_
      refine Rq ?_
      refine Rq ?_
      refine Rp_split (fun h3 => ?_) (fun h3 => ?_)
      · try simp only [decide_eq_true_eq, decide_eq_false_iff_not, Bool.not_eq_true', Bool.not_eq_false', beq_iff_eq, beq_eq_false_iff_ne, ne_eq] at h3
        refine Rn ?_
        refine Rn ?_
        refine Rn ?_
        refine Rn ?_
        refine Rq ?_
        refine Rq ?_
        refine Rn ?_
        refine Rn ?_
        refine Rn ?_
        refine Rn ?_
        refine Rq ?_
        have tr : ∀ y0 y1 y2 y3 y4 y10 y11 y36 y39 z0 z1 z2 z3 z4 z5 z6 z7 z8 z9 z10 z11 z12 z13 z14 z15 z16 z17 z18 z19 z20 z21 z22 z23 z24 : AV, trim [(36, z24), (35, z23), (34, z22), (33, z21), (32, z20), (31, z19), (30, z18), (29, z17), (28, z16), (27, z15), (26, z14), (25, z13), (24, z12), (23, z11), (22, z10), (21, z9), (20, z8), (19, z7), (18, z6), (17, z5), (16, z4), (15, z3), (14, z2), (13, z1), (12, z0), (0, y0), (1, y1), (2, y2), (3, y3), (4, y4), (10, y10), (11, y11), (36, y36), (39, y39)] [(0, y0), (1, y1), (2, y2), (3, y3), (4, y4), (10, y10), (11, y11), (36, y36), (39, y39)] = [(0, y0), (1, y1), (2, y2), (3, y3), (4, y4), (10, y10), (11, y11), (36, z24), (39, y39)] := fun y0 y1 y2 y3 y4 y10 y11 y36 y39 z0 z1 z2 z3 z4 z5 z6 z7 z8 z9 z10 z11 z12 z13 z14 z15 z16 z17 z18 z19 z20 z21 z22 z23 z24 => rfl
        refine R_nil (tr _ _ _ _ _ _ _ _ _ _ _ _ _ _ _ _ _ _ _ _ _ _ _ _ _ _ _ _ _ _ _ _ _ _) ?_; clear tr
        refine then_n ?_
        refine cdt ?_
        refine at_seq rfl ?_
        refine rg rfl ?_
        refine Rq ?_
        refine Rq ?_
        have tr : ∀ y0 y1 y2 y3 y4 y10 y11 y36 y39 z0 z1 : AV, trim [(11, z1), (10, z0), (0, y0), (1, y1), (2, y2), (3, y3), (4, y4), (10, y10), (11, y11), (36, y36), (39, y39)] [(0, y0), (1, y1), (2, y2), (3, y3), (4, y4), (10, y10), (11, y11), (36, y36), (39, y39)] = [(0, y0), (1, y1), (2, y2), (3, y3), (4, y4), (10, z0), (11, z1), (36, y36), (39, y39)] := fun y0 y1 y2 y3 y4 y10 y11 y36 y39 z0 z1 => rfl
        refine R_nil (tr _ _ _ _ _ _ _ _ _ _ _) ?_; clear tr
        refine then_n ?_
        refine at_ret rfl ?_
        refine then_r ?_
        refine fpure ?_
        refine ⟨?_, rfl⟩
        first | (rw [reviseS, if_pos (by unfold revBad; omega)]) | (rw [rev_ok0 hnb, revV, if_pos (by omega)]) | (rw [rev_ok0 hnb, revV, if_neg (by omega)])
      · try simp only [decide_eq_true_eq, decide_eq_false_iff_not, Bool.not_eq_true', Bool.not_eq_false', beq_iff_eq, beq_eq_false_iff_ne, ne_eq] at h3
        refine Ry ?_
        refine Rq ?_
        refine Ry ?_
        refine Rq ?_
        refine Ry ?_
        refine Rcall ?_
        refine ACall_eq (between_ok _ _ _ _ _) ?_
        refine Ry ?_
        refine Rq ?_
        refine Rq ?_
        refine Rq ?_
        refine Rp_split (fun h4 => ?_) (fun h4 => ?_)
        · try simp only [decide_eq_true_eq, decide_eq_false_iff_not, Bool.not_eq_true', Bool.not_eq_false', beq_iff_eq, beq_eq_false_iff_ne, ne_eq] at h4
          refine Rn ?_
          refine Rn ?_
          refine Rn ?_
          refine Rn ?_
          refine Rq ?_
          have tr : ∀ y0 y1 y2 y3 y4 y10 y11 y36 y39 z0 z1 z2 z3 z4 z5 z6 z7 z8 z9 z10 z11 z12 z13 z14 z15 z16 z17 z18 z19 z20 z21 z22 z23 z24 : AV, trim [(36, z24), (35, z23), (34, z22), (33, z21), (32, z20), (31, z19), (30, z18), (29, z17), (28, z16), (27, z15), (26, z14), (25, z13), (24, z12), (23, z11), (22, z10), (21, z9), (20, z8), (19, z7), (18, z6), (17, z5), (16, z4), (15, z3), (14, z2), (13, z1), (12, z0), (0, y0), (1, y1), (2, y2), (3, y3), (4, y4), (10, y10), (11, y11), (36, y36), (39, y39)] [(0, y0), (1, y1), (2, y2), (3, y3), (4, y4), (10, y10), (11, y11), (36, y36), (39, y39)] = [(0, y0), (1, y1), (2, y2), (3, y3), (4, y4), (10, y10), (11, y11), (36, z24), (39, y39)] := fun y0 y1 y2 y3 y4 y10 y11 y36 y39 z0 z1 z2 z3 z4 z5 z6 z7 z8 z9 z10 z11 z12 z13 z14 z15 z16 z17 z18 z19 z20 z21 z22 z23 z24 => rfl
          refine R_nil (tr _ _ _ _ _ _ _ _ _ _ _ _ _ _ _ _ _ _ _ _ _ _ _ _ _ _ _ _ _ _ _ _ _ _) ?_; clear tr
          refine then_n ?_
          refine cdt ?_
          refine at_seq rfl ?_
          refine rg rfl ?_
          refine Rq ?_
          refine Rq ?_
          have tr : ∀ y0 y1 y2 y3 y4 y10 y11 y36 y39 z0 z1 : AV, trim [(11, z1), (10, z0), (0, y0), (1, y1), (2, y2), (3, y3), (4, y4), (10, y10), (11, y11), (36, y36), (39, y39)] [(0, y0), (1, y1), (2, y2), (3, y3), (4, y4), (10, y10), (11, y11), (36, y36), (39, y39)] = [(0, y0), (1, y1), (2, y2), (3, y3), (4, y4), (10, z0), (11, z1), (36, y36), (39, y39)] := fun y0 y1 y2 y3 y4 y10 y11 y36 y39 z0 z1 => rfl
          refine R_nil (tr _ _ _ _ _ _ _ _ _ _ _) ?_; clear tr
          refine then_n ?_
          refine at_ret rfl ?_
          refine then_r ?_
          refine fpure ?_
          refine ⟨?_, rfl⟩
          first | (rw [reviseS, if_pos (by unfold revBad; omega)]) | (rw [rev_ok0 hnb, revV, if_pos (by omega)]) | (rw [rev_ok0 hnb, revV, if_neg (by omega)])
        · try simp only [decide_eq_true_eq, decide_eq_false_iff_not, Bool.not_eq_true', Bool.not_eq_false', beq_iff_eq, beq_eq_false_iff_ne, ne_eq] at h4
          refine Ry ?_
          refine Rq ?_
          refine Ry ?_
          refine Rq ?_
          refine Ry ?_
          refine Rcall ?_
          refine ACall_eq (between_ok _ _ _ _ _) ?_
          refine Ry ?_
          refine Rq ?_
          refine Rq ?_
          have tr : ∀ y0 y1 y2 y3 y4 y10 y11 y36 y39 z0 z1 z2 z3 z4 z5 z6 z7 z8 z9 z10 z11 z12 z13 z14 z15 z16 z17 z18 z19 z20 z21 z22 z23 z24 : AV, trim [(36, z24), (35, z23), (34, z22), (33, z21), (32, z20), (31, z19), (30, z18), (29, z17), (28, z16), (27, z15), (26, z14), (25, z13), (24, z12), (23, z11), (22, z10), (21, z9), (20, z8), (19, z7), (18, z6), (17, z5), (16, z4), (15, z3), (14, z2), (13, z1), (12, z0), (0, y0), (1, y1), (2, y2), (3, y3), (4, y4), (10, y10), (11, y11), (36, y36), (39, y39)] [(0, y0), (1, y1), (2, y2), (3, y3), (4, y4), (10, y10), (11, y11), (36, y36), (39, y39)] = [(0, y0), (1, y1), (2, y2), (3, y3), (4, y4), (10, y10), (11, y11), (36, z24), (39, y39)] := fun y0 y1 y2 y3 y4 y10 y11 y36 y39 z0 z1 z2 z3 z4 z5 z6 z7 z8 z9 z10 z11 z12 z13 z14 z15 z16 z17 z18 z19 z20 z21 z22 z23 z24 => rfl
          refine R_nil (tr _ _ _ _ _ _ _ _ _ _ _ _ _ _ _ _ _ _ _ _ _ _ _ _ _ _ _ _ _ _ _ _ _ _) ?_; clear tr
          refine then_n ?_
          refine cdd (fun h5 => ?_) (fun h5 => ?_)
          · try simp only [decide_eq_true_eq, decide_eq_false_iff_not, Bool.not_eq_true', Bool.not_eq_false', beq_iff_eq, beq_eq_false_iff_ne, ne_eq] at h5
            refine at_seq rfl ?_
            refine rg rfl ?_
            refine Rq ?_
            refine Rq ?_
            have tr : ∀ y0 y1 y2 y3 y4 y10 y11 y36 y39 z0 z1 : AV, trim [(11, z1), (10, z0), (0, y0), (1, y1), (2, y2), (3, y3), (4, y4), (10, y10), (11, y11), (36, y36), (39, y39)] [(0, y0), (1, y1), (2, y2), (3, y3), (4, y4), (10, y10), (11, y11), (36, y36), (39, y39)] = [(0, y0), (1, y1), (2, y2), (3, y3), (4, y4), (10, z0), (11, z1), (36, y36), (39, y39)] := fun y0 y1 y2 y3 y4 y10 y11 y36 y39 z0 z1 => rfl
            refine R_nil (tr _ _ _ _ _ _ _ _ _ _ _) ?_; clear tr
            refine then_n ?_
            refine at_ret rfl ?_
            refine then_r ?_
            refine fpure ?_
            refine ⟨?_, rfl⟩
            first | (rw [reviseS, if_pos (by unfold revBad; omega)]) | (rw [rev_ok0 hnb, revV, if_pos (by omega)]) | (rw [rev_ok0 hnb, revV, if_neg (by omega)])
          · try simp only [decide_eq_true_eq, decide_eq_false_iff_not, Bool.not_eq_true', Bool.not_eq_false', beq_iff_eq, beq_eq_false_iff_ne, ne_eq] at h5
            refine at_skip rfl ?_
            refine then_n ?_
            refine at_seq rfl ?_
            refine at_seq rfl ?_
            refine rg rfl ?_
            refine Rq ?_
            refine Rq ?_
            refine Rq ?_
            have tr : ∀ y0 y1 y2 y3 y4 y10 y11 y36 y39 z0 z1 z2 : AV, trim [(39, z2), (38, z1), (37, z0), (0, y0), (1, y1), (2, y2), (3, y3), (4, y4), (10, y10), (11, y11), (36, y36), (39, y39)] [(0, y0), (1, y1), (2, y2), (3, y3), (4, y4), (10, y10), (11, y11), (36, y36), (39, y39)] = [(0, y0), (1, y1), (2, y2), (3, y3), (4, y4), (10, y10), (11, y11), (36, y36), (39, z2)] := fun y0 y1 y2 y3 y4 y10 y11 y36 y39 z0 z1 z2 => rfl
            refine R_nil (tr _ _ _ _ _ _ _ _ _ _ _ _) ?_; clear tr
            refine then_n ?_
            refine cdd (fun h6 => ?_) (fun h6 => ?_)
            · try simp only [decide_eq_true_eq, decide_eq_false_iff_not, Bool.not_eq_true', Bool.not_eq_false', beq_iff_eq, beq_eq_false_iff_ne, ne_eq] at h6
              refine at_seq rfl ?_
              refine rg rfl ?_
              have hnb : ¬ revBad a b c e f := by unfold revBad; omega
              have k := rev_box hnb
              have k1 := quo_box (y := b) k.1 (by omega)
              refine Rq ?_
              refine Rq ?_
              refine Rq ?_
              refine Rq ?_
              refine Rq ?_
              refine Rq ?_
              refine Rq ?_
              refine Rq ?_
              have tr : ∀ y0 y1 y2 y3 y4 y10 y11 y36 y39 z0 z1 z2 z3 z4 z5 z6 z7 : AV, trim [(11, z7), (10, z6), (45, z5), (44, z4), (43, z3), (42, z2), (41, z1), (40, z0), (0, y0), (1, y1), (2, y2), (3, y3), (4, y4), (10, y10), (11, y11), (36, y36), (39, y39)] [(0, y0), (1, y1), (2, y2), (3, y3), (4, y4), (10, y10), (11, y11), (36, y36), (39, y39)] = [(0, y0), (1, y1), (2, y2), (3, y3), (4, y4), (10, z6), (11, z7), (36, y36), (39, y39)] := fun y0 y1 y2 y3 y4 y10 y11 y36 y39 z0 z1 z2 z3 z4 z5 z6 z7 => rfl
              refine R_nil (tr _ _ _ _ _ _ _ _ _ _ _ _ _ _ _ _ _) ?_; clear tr
              refine then_n ?_
              refine at_ret rfl ?_
              refine then_r ?_
              refine fpure ?_
              refine ⟨?_, rfl⟩
              first | (rw [reviseS, if_pos (by unfold revBad; omega)]) | (rw [rev_ok0 hnb, revV, if_pos (by omega)]) | (rw [rev_ok0 hnb, revV, if_neg (by omega)])
            · try simp only [decide_eq_true_eq, decide_eq_false_iff_not, Bool.not_eq_true', Bool.not_eq_false', beq_iff_eq, beq_eq_false_iff_ne, ne_eq] at h6
              refine at_skip rfl ?_
              refine then_n ?_
              refine at_seq rfl ?_
              refine rg rfl ?_
              have hnb : ¬ revBad a b c e f := by unfold revBad; omega
              have k := rev_box hnb
              have k2 := k.2.2 (by omega)
              have k1 := quo_box (y := e) k2.1 (by omega)
              refine Rq ?_
              refine Rq ?_
              refine Rq ?_
              refine Rq ?_
              refine Rq ?_
              refine Rq ?_
              refine Rq ?_
              refine Rq ?_
              refine Rq ?_
              refine Rq ?_
              refine Rq ?_
              refine Rq ?_
              have tr : ∀ y0 y1 y2 y3 y4 y10 y11 y36 y39 z0 z1 z2 z3 z4 z5 z6 z7 z8 z9 z10 z11 : AV, trim [(11, z11), (10, z10), (55, z9), (54, z8), (53, z7), (52, z6), (51, z5), (50, z4), (49, z3), (48, z2), (47, z1), (46, z0), (0, y0), (1, y1), (2, y2), (3, y3), (4, y4), (10, y10), (11, y11), (36, y36), (39, y39)] [(0, y0), (1, y1), (2, y2), (3, y3), (4, y4), (10, y10), (11, y11), (36, y36), (39, y39)] = [(0, y0), (1, y1), (2, y2), (3, y3), (4, y4), (10, z10), (11, z11), (36, y36), (39, y39)] := fun y0 y1 y2 y3 y4 y10 y11 y36 y39 z0 z1 z2 z3 z4 z5 z6 z7 z8 z9 z10 z11 => rfl
              refine R_nil (tr _ _ _ _ _ _ _ _ _ _ _ _ _ _ _ _ _ _ _ _ _) ?_; clear tr
              refine then_n ?_
              refine at_ret rfl ?_
              refine fpure ?_
              refine ⟨?_, rfl⟩
              first | (rw [reviseS, if_pos (by unfold revBad; omega)]) | (rw [rev_ok0 hnb, revV, if_pos (by omega)]) | (rw [rev_ok0 hnb, revV, if_neg (by omega)])

theorem par_ok (lim : Nat) (H : Heap) (a b c lf e f : Int) :
    ACall sig lim 27 [AV.i a, AV.i b, AV.i c, AV.i lf, AV.i e, AV.i f] H fun r H' => r = .tup [AV.i (parS a b c lf e f).1, AV.i (parS a b c lf e f).2] ∧ H' = H := by
  refine ACall_pure (fa := fa27) rfl rfl rfl rfl ?_
  have tr : ∀ a0 a1 a2 a3 a4 a5 : AV, env0 fa27.keep [a0, a1, a2, a3, a4, a5] = [(0, a0), (1, a1), (2, a2), (3, a3), (4, a4), (5, a5), (12, .any), (13, .any), (15, .any), (16, .any), (17, .any), (28, .any), (36, .any), (49, .any)] := fun a0 a1 a2 a3 a4 a5 => rfl
  refine W_to (tr _ _ _ _ _ _) ?_; clear tr
  refine at_seq rfl ?_
  refine rg rfl ?_
  refine Rq ?_
  refine Rq ?_
  have tr : ∀ y0 y1 y2 y3 y4 y5 y12 y13 y15 y16 y17 y28 y36 y49 z0 z1 : AV, trim [(13, z1), (12, z0), (0, y0), (1, y1), (2, y2), (3, y3), (4, y4), (5, y5), (12, y12), (13, y13), (15, y15), (16, y16), (17, y17), (28, y28), (36, y36), (49, y49)] [(0, y0), (1, y1), (2, y2), (3, y3), (4, y4), (5, y5), (12, y12), (13, y13), (15, y15), (16, y16), (17, y17), (28, y28), (36, y36), (49, y49)] = [(0, y0), (1, y1), (2, y2), (3, y3), (4, y4), (5, y5), (12, z0), (13, z1), (15, y15), (16, y16), (17, y17), (28, y28), (36, y36), (49, y49)] := fun y0 y1 y2 y3 y4 y5 y12 y13 y15 y16 y17 y28 y36 y49 z0 z1 => rfl
  refine R_nil (tr _ _ _ _ _ _ _ _ _ _ _ _ _ _ _ _) ?_; clear tr
  refine then_n ?_
  refine at_seq rfl ?_
  refine at_seq rfl ?_
  refine rg rfl ?_
  refine Rq ?_
  refine Rq ?_
  refine Rq ?_
  refine Rq ?_
  refine Rq ?_
  refine Rcall ?_
  refine ACall_eq (rev_ok _ _ a b c e f) ?_
  refine Rq ?_
  refine Rq ?_
  refine Rq ?_
  refine Rq ?_
  refine Rq ?_
  have tr : ∀ y0 y1 y2 y3 y4 y5 y12 y13 y15 y16 y17 y28 y36 y49 z0 z1 z2 z3 z4 z5 z6 z7 z8 z9 z10 : AV, trim [(15, z10), (14, z9), (26, z8), (25, z7), (18, z6), (24, z5), (23, z4), (22, z3), (21, z2), (20, z1), (19, z0), (0, y0), (1, y1), (2, y2), (3, y3), (4, y4), (5, y5), (12, y12), (13, y13), (15, y15), (16, y16), (17, y17), (28, y28), (36, y36), (49, y49)] [(0, y0), (1, y1), (2, y2), (3, y3), (4, y4), (5, y5), (12, y12), (13, y13), (15, y15), (16, y16), (17, y17), (28, y28), (36, y36), (49, y49)] = [(0, y0), (1, y1), (2, y2), (3, y3), (4, y4), (5, y5), (12, y12), (13, y13), (15, z10), (16, y16), (17, y17), (28, y28), (36, y36), (49, y49)] := fun y0 y1 y2 y3 y4 y5 y12 y13 y15 y16 y17 y28 y36 y49 z0 z1 z2 z3 z4 z5 z6 z7 z8 z9 z10 => rfl
  refine R_nil (tr _ _ _ _ _ _ _ _ _ _ _ _ _ _ _ _ _ _ _ _ _ _ _ _ _) ?_; clear tr
  refine then_n ?_
  refine at_seq rfl ?_
  refine rg rfl ?_
  refine Rq ?_
  refine Rq ?_
  have tr : ∀ y0 y1 y2 y3 y4 y5 y12 y13 y15 y16 y17 y28 y36 y49 z0 z1 : AV, trim [(28, z1), (27, z0), (0, y0), (1, y1), (2, y2), (3, y3), (4, y4), (5, y5), (12, y12), (13, y13), (15, y15), (16, y16), (17, y17), (28, y28), (36, y36), (49, y49)] [(0, y0), (1, y1), (2, y2), (3, y3), (4, y4), (5, y5), (12, y12), (13, y13), (15, y15), (16, y16), (17, y17), (28, y28), (36, y36), (49, y49)] = [(0, y0), (1, y1), (2, y2), (3, y3), (4, y4), (5, y5), (12, y12), (13, y13), (15, y15), (16, y16), (17, y17), (28, z1), (36, y36), (49, y49)] := fun y0 y1 y2 y3 y4 y5 y12 y13 y15 y16 y17 y28 y36 y49 z0 z1 => rfl
  refine R_nil (tr _ _ _ _ _ _ _ _ _ _ _ _ _ _ _ _) ?_; clear tr
  refine then_n ?_
  refine cdd (fun h1 => ?_) (fun h1 => ?_)
  · try simp only [decide_eq_true_eq, decide_eq_false_iff_not, Bool.not_eq_true', Bool.not_eq_false', beq_iff_eq, beq_eq_false_iff_ne, ne_eq] at h1
    refine at_seq rfl ?_
    refine rg rfl ?_
    refine Rq ?_
    refine Rq ?_
    refine Rq ?_
    have tr : ∀ y0 y1 y2 y3 y4 y5 y12 y13 y15 y16 y17 y28 y36 y49 z0 z1 z2 : AV, trim [(13, z2), (12, z1), (29, z0), (0, y0), (1, y1), (2, y2), (3, y3), (4, y4), (5, y5), (12, y12), (13, y13), (15, y15), (16, y16), (17, y17), (28, y28), (36, y36), (49, y49)] [(0, y0), (1, y1), (2, y2), (3, y3), (4, y4), (5, y5), (12, y12), (13, y13), (15, y15), (16, y16), (17, y17), (28, y28), (36, y36), (49, y49)] = [(0, y0), (1, y1), (2, y2), (3, y3), (4, y4), (5, y5), (12, z1), (13, z2), (15, y15), (16, y16), (17, y17), (28, y28), (36, y36), (49, y49)] := fun y0 y1 y2 y3 y4 y5 y12 y13 y15 y16 y17 y28 y36 y49 z0 z1 z2 => rfl
    refine R_nil (tr _ _ _ _ _ _ _ _ _ _ _ _ _ _ _ _ _) ?_; clear tr
    refine then_n ?_
    refine at_ret rfl ?_
    refine then_r ?_
    first | (exfalso; omega) | (refine fpure ?_; refine ⟨?_, rfl⟩; first | (rw [parS, if_pos (by assumption)]; done) | (rw [parS, if_neg (by omega), if_pos (by omega)]; done) | (rw [h2, parS, if_neg (by omega), if_neg (by omega)]; done) | (rw [parS, if_neg (by omega), if_neg (by omega)]; done))
  · try simp only [decide_eq_true_eq, decide_eq_false_iff_not, Bool.not_eq_true', Bool.not_eq_false', beq_iff_eq, beq_eq_false_iff_ne, ne_eq] at h1
    refine at_skip rfl ?_
    refine then_n ?_
    refine at_seq rfl ?_
    refine at_seq rfl ?_
    refine rg rfl ?_
    refine Rq ?_
    refine Rq ?_
    refine Rq ?_
    refine Rp_split (fun h2 => ?_) (fun h2 => ?_)
    · try simp only [decide_eq_true_eq, decide_eq_false_iff_not, Bool.not_eq_true', Bool.not_eq_false', beq_iff_eq, beq_eq_false_iff_ne, ne_eq] at h2
      refine Rn ?_
      refine Rn ?_
      refine Rn ?_
      refine Rq ?_
      have tr : ∀ y0 y1 y2 y3 y4 y5 y12 y13 y15 y16 y17 y28 y36 y49 z0 z1 z2 z3 z4 z5 z6 : AV, trim [(36, z6), (35, z5), (34, z4), (33, z3), (32, z2), (31, z1), (30, z0), (0, y0), (1, y1), (2, y2), (3, y3), (4, y4), (5, y5), (12, y12), (13, y13), (15, y15), (16, y16), (17, y17), (28, y28), (36, y36), (49, y49)] [(0, y0), (1, y1), (2, y2), (3, y3), (4, y4), (5, y5), (12, y12), (13, y13), (15, y15), (16, y16), (17, y17), (28, y28), (36, y36), (49, y49)] = [(0, y0), (1, y1), (2, y2), (3, y3), (4, y4), (5, y5), (12, y12), (13, y13), (15, y15), (16, y16), (17, y17), (28, y28), (36, z6), (49, y49)] := fun y0 y1 y2 y3 y4 y5 y12 y13 y15 y16 y17 y28 y36 y49 z0 z1 z2 z3 z4 z5 z6 => rfl
      refine R_nil (tr _ _ _ _ _ _ _ _ _ _ _ _ _ _ _ _ _ _ _ _ _) ?_; clear tr
      refine then_n ?_
      refine cdt ?_
      refine at_seq rfl ?_
      refine rg rfl ?_
      refine Rq ?_
      refine Rq ?_
      have tr : ∀ y0 y1 y2 y3 y4 y5 y12 y13 y15 y16 y17 y28 y36 y49 z0 z1 : AV, trim [(13, z1), (12, z0), (0, y0), (1, y1), (2, y2), (3, y3), (4, y4), (5, y5), (12, y12), (13, y13), (15, y15), (16, y16), (17, y17), (28, y28), (36, y36), (49, y49)] [(0, y0), (1, y1), (2, y2), (3, y3), (4, y4), (5, y5), (12, y12), (13, y13), (15, y15), (16, y16), (17, y17), (28, y28), (36, y36), (49, y49)] = [(0, y0), (1, y1), (2, y2), (3, y3), (4, y4), (5, y5), (12, z0), (13, z1), (15, y15), (16, y16), (17, y17), (28, y28), (36, y36), (49, y49)] := fun y0 y1 y2 y3 y4 y5 y12 y13 y15 y16 y17 y28 y36 y49 z0 z1 => rfl
      refine R_nil (tr _ _ _ _ _ _ _ _ _ _ _ _ _ _ _ _) ?_; clear tr
      refine then_n ?_
      refine at_ret rfl ?_
      refine then_r ?_
      first | (exfalso; omega) | (refine fpure ?_; refine ⟨?_, rfl⟩; first | (rw [parS, if_pos (by assumption)]; done) | (rw [parS, if_neg (by omega), if_pos (by omega)]; done) | (rw [h2, parS, if_neg (by omega), if_neg (by omega)]; done) | (rw [parS, if_neg (by omega), if_neg (by omega)]; done))
    · try simp only [decide_eq_true_eq, decide_eq_false_iff_not, Bool.not_eq_true', Bool.not_eq_false', beq_iff_eq, beq_eq_false_iff_ne, ne_eq] at h2
      refine Ry ?_
      refine Rq ?_
      refine Ry ?_
      refine Rq ?_
      refine Ry ?_
      refine Rq ?_
      refine Rq ?_
      have tr : ∀ y0 y1 y2 y3 y4 y5 y12 y13 y15 y16 y17 y28 y36 y49 z0 z1 z2 z3 z4 z5 z6 : AV, trim [(36, z6), (35, z5), (34, z4), (33, z3), (32, z2), (31, z1), (30, z0), (0, y0), (1, y1), (2, y2), (3, y3), (4, y4), (5, y5), (12, y12), (13, y13), (15, y15), (16, y16), (17, y17), (28, y28), (36, y36), (49, y49)] [(0, y0), (1, y1), (2, y2), (3, y3), (4, y4), (5, y5), (12, y12), (13, y13), (15, y15), (16, y16), (17, y17), (28, y28), (36, y36), (49, y49)] = [(0, y0), (1, y1), (2, y2), (3, y3), (4, y4), (5, y5), (12, y12), (13, y13), (15, y15), (16, y16), (17, y17), (28, y28), (36, z6), (49, y49)] := fun y0 y1 y2 y3 y4 y5 y12 y13 y15 y16 y17 y28 y36 y49 z0 z1 z2 z3 z4 z5 z6 => rfl
      refine R_nil (tr _ _ _ _ _ _ _ _ _ _ _ _ _ _ _ _ _ _ _ _ _) ?_; clear tr
      refine then_n ?_
      refine cdd (fun h3 => ?_) (fun h3 => ?_)
      · try simp only [decide_eq_true_eq, decide_eq_false_iff_not, Bool.not_eq_true', Bool.not_eq_false', beq_iff_eq, beq_eq_false_iff_ne, ne_eq] at h3
        refine at_seq rfl ?_
        refine rg rfl ?_
        refine Rq ?_
        refine Rq ?_
        have tr : ∀ y0 y1 y2 y3 y4 y5 y12 y13 y15 y16 y17 y28 y36 y49 z0 z1 : AV, trim [(13, z1), (12, z0), (0, y0), (1, y1), (2, y2), (3, y3), (4, y4), (5, y5), (12, y12), (13, y13), (15, y15), (16, y16), (17, y17), (28, y28), (36, y36), (49, y49)] [(0, y0), (1, y1), (2, y2), (3, y3), (4, y4), (5, y5), (12, y12), (13, y13), (15, y15), (16, y16), (17, y17), (28, y28), (36, y36), (49, y49)] = [(0, y0), (1, y1), (2, y2), (3, y3), (4, y4), (5, y5), (12, z0), (13, z1), (15, y15), (16, y16), (17, y17), (28, y28), (36, y36), (49, y49)] := fun y0 y1 y2 y3 y4 y5 y12 y13 y15 y16 y17 y28 y36 y49 z0 z1 => rfl
        refine R_nil (tr _ _ _ _ _ _ _ _ _ _ _ _ _ _ _ _) ?_; clear tr
        refine then_n ?_
        refine at_ret rfl ?_
        refine then_r ?_
        first | (exfalso; omega) | (refine fpure ?_; refine ⟨?_, rfl⟩; first | (rw [parS, if_pos (by assumption)]; done) | (rw [parS, if_neg (by omega), if_pos (by omega)]; done) | (rw [h2, parS, if_neg (by omega), if_neg (by omega)]; done) | (rw [parS, if_neg (by omega), if_neg (by omega)]; done))
      · try simp only [decide_eq_true_eq, decide_eq_false_iff_not, Bool.not_eq_true', Bool.not_eq_false', beq_iff_eq, beq_eq_false_iff_ne, ne_eq] at h3
        refine at_skip rfl ?_
        refine then_n ?_
        refine at_seq rfl ?_
        refine rg rfl ?_
        have h0 : (reviseS a b c e f).2 = 0 := by assumption
        have hb := rev_of0 h0
        unfold revBad at hb
        have h2 := rev_less (lf := lf) h0 (by omega) (by omega)
        have hr := rev_range (a := a) (b := b) (c := c - lf) (e := e) (f := f)
        refine Rq ?_
        refine Rq ?_
        refine Rq ?_
        refine Rq ?_
        refine Rq ?_
        refine Rq ?_
        refine Rq ?_
        refine Rcall ?_
        refine ACall_eq (rev_ok _ _ a b (c - lf) e f) ?_
        refine Rq ?_
        refine Rq ?_
        refine Rq ?_
        refine Rq ?_
        refine Rq ?_
        have tr : ∀ y0 y1 y2 y3 y4 y5 y12 y13 y15 y16 y17 y28 y36 y49 z0 z1 z2 z3 z4 z5 z6 z7 z8 z9 z10 z11 z12 : AV, trim [(17, z12), (16, z11), (47, z10), (46, z9), (37, z8), (45, z7), (44, z6), (43, z5), (42, z4), (41, z3), (40, z2), (39, z1), (38, z0), (0, y0), (1, y1), (2, y2), (3, y3), (4, y4), (5, y5), (12, y12), (13, y13), (15, y15), (16, y16), (17, y17), (28, y28), (36, y36), (49, y49)] [(0, y0), (1, y1), (2, y2), (3, y3), (4, y4), (5, y5), (12, y12), (13, y13), (15, y15), (16, y16), (17, y17), (28, y28), (36, y36), (49, y49)] = [(0, y0), (1, y1), (2, y2), (3, y3), (4, y4), (5, y5), (12, y12), (13, y13), (15, y15), (16, z11), (17, z12), (28, y28), (36, y36), (49, y49)] := fun y0 y1 y2 y3 y4 y5 y12 y13 y15 y16 y17 y28 y36 y49 z0 z1 z2 z3 z4 z5 z6 z7 z8 z9 z10 z11 z12 => rfl
        refine R_nil (tr _ _ _ _ _ _ _ _ _ _ _ _ _ _ _ _ _ _ _ _ _ _ _ _ _ _ _) ?_; clear tr
        refine then_n ?_
        refine at_seq rfl ?_
        refine at_seq rfl ?_
        refine rg rfl ?_
        refine Rq ?_
        refine Rq ?_
        have tr : ∀ y0 y1 y2 y3 y4 y5 y12 y13 y15 y16 y17 y28 y36 y49 z0 z1 : AV, trim [(49, z1), (48, z0), (0, y0), (1, y1), (2, y2), (3, y3), (4, y4), (5, y5), (12, y12), (13, y13), (15, y15), (16, y16), (17, y17), (28, y28), (36, y36), (49, y49)] [(0, y0), (1, y1), (2, y2), (3, y3), (4, y4), (5, y5), (12, y12), (13, y13), (15, y15), (16, y16), (17, y17), (28, y28), (36, y36), (49, y49)] = [(0, y0), (1, y1), (2, y2), (3, y3), (4, y4), (5, y5), (12, y12), (13, y13), (15, y15), (16, y16), (17, y17), (28, y28), (36, y36), (49, z1)] := fun y0 y1 y2 y3 y4 y5 y12 y13 y15 y16 y17 y28 y36 y49 z0 z1 => rfl
        refine R_nil (tr _ _ _ _ _ _ _ _ _ _ _ _ _ _ _ _) ?_; clear tr
        refine then_n ?_
        refine cdd (fun h4 => ?_) (fun h4 => ?_)
        · try simp only [decide_eq_true_eq, decide_eq_false_iff_not, Bool.not_eq_true', Bool.not_eq_false', beq_iff_eq, beq_eq_false_iff_ne, ne_eq] at h4
          refine at_seq rfl ?_
          refine rg rfl ?_
          refine Rq ?_
          refine Rq ?_
          refine Rq ?_
          have tr : ∀ y0 y1 y2 y3 y4 y5 y12 y13 y15 y16 y17 y28 y36 y49 z0 z1 z2 : AV, trim [(13, z2), (12, z1), (50, z0), (0, y0), (1, y1), (2, y2), (3, y3), (4, y4), (5, y5), (12, y12), (13, y13), (15, y15), (16, y16), (17, y17), (28, y28), (36, y36), (49, y49)] [(0, y0), (1, y1), (2, y2), (3, y3), (4, y4), (5, y5), (12, y12), (13, y13), (15, y15), (16, y16), (17, y17), (28, y28), (36, y36), (49, y49)] = [(0, y0), (1, y1), (2, y2), (3, y3), (4, y4), (5, y5), (12, z1), (13, z2), (15, y15), (16, y16), (17, y17), (28, y28), (36, y36), (49, y49)] := fun y0 y1 y2 y3 y4 y5 y12 y13 y15 y16 y17 y28 y36 y49 z0 z1 z2 => rfl
          refine R_nil (tr _ _ _ _ _ _ _ _ _ _ _ _ _ _ _ _ _) ?_; clear tr
          refine then_n ?_
          refine at_ret rfl ?_
          refine then_r ?_
          first | (exfalso; omega) | (refine fpure ?_; refine ⟨?_, rfl⟩; first | (rw [parS, if_pos (by assumption)]; done) | (rw [parS, if_neg (by omega), if_pos (by omega)]; done) | (rw [h2, parS, if_neg (by omega), if_neg (by omega)]; done) | (rw [parS, if_neg (by omega), if_neg (by omega)]; done))
        · try simp only [decide_eq_true_eq, decide_eq_false_iff_not, Bool.not_eq_true', Bool.not_eq_false', beq_iff_eq, beq_eq_false_iff_ne, ne_eq] at h4
          refine at_skip rfl ?_
          refine then_n ?_
          refine at_seq rfl ?_
          refine rg rfl ?_
          refine Rq ?_
          refine Rq ?_
          refine Rq ?_
          refine Rq ?_
          have tr : ∀ y0 y1 y2 y3 y4 y5 y12 y13 y15 y16 y17 y28 y36 y49 z0 z1 z2 z3 : AV, trim [(13, z3), (12, z2), (52, z1), (51, z0), (0, y0), (1, y1), (2, y2), (3, y3), (4, y4), (5, y5), (12, y12), (13, y13), (15, y15), (16, y16), (17, y17), (28, y28), (36, y36), (49, y49)] [(0, y0), (1, y1), (2, y2), (3, y3), (4, y4), (5, y5), (12, y12), (13, y13), (15, y15), (16, y16), (17, y17), (28, y28), (36, y36), (49, y49)] = [(0, y0), (1, y1), (2, y2), (3, y3), (4, y4), (5, y5), (12, z2), (13, z3), (15, y15), (16, y16), (17, y17), (28, y28), (36, y36), (49, y49)] := fun y0 y1 y2 y3 y4 y5 y12 y13 y15 y16 y17 y28 y36 y49 z0 z1 z2 z3 => rfl
          refine R_nil (tr _ _ _ _ _ _ _ _ _ _ _ _ _ _ _ _ _ _) ?_; clear tr
          refine then_n ?_
          refine at_ret rfl ?_
          first | (exfalso; omega) | (refine fpure ?_; refine ⟨?_, rfl⟩; first | (rw [parS, if_pos (by assumption)]; done) | (rw [parS, if_neg (by omega), if_pos (by omega)]; done) | (rw [h2, parS, if_neg (by omega), if_neg (by omega)]; done) | (rw [parS, if_neg (by omega), if_neg (by omega)]; done))

theorem rpar_ok (lim : Nat) (H : Heap) (a b c lf e f : Int) :
    ACall sig lim 28 [AV.i a, AV.i b, AV.i c, AV.i lf, AV.i e, AV.i f] H fun r H' => r = .tup [AV.i (parS a b c lf e f).1, AV.i (parS a b c lf e f).2] ∧ H' = H := by
  refine ACall_pure (fa := fa28) rfl rfl rfl rfl ?_
  have tr : ∀ a0 a1 a2 a3 a4 a5 : AV, env0 fa28.keep [a0, a1, a2, a3, a4, a5] = [(0, a0), (1, a1), (2, a2), (3, a3), (4, a4), (5, a5), (12, .any), (13, .any), (15, .any), (16, .any), (17, .any), (28, .any), (33, .any)] := fun a0 a1 a2 a3 a4 a5 => rfl
  refine W_to (tr _ _ _ _ _ _) ?_; clear tr
  refine at_seq rfl ?_
  refine rg rfl ?_
  refine Rq ?_
  refine Rq ?_
  have tr : ∀ y0 y1 y2 y3 y4 y5 y12 y13 y15 y16 y17 y28 y33 z0 z1 : AV, trim [(13, z1), (12, z0), (0, y0), (1, y1), (2, y2), (3, y3), (4, y4), (5, y5), (12, y12), (13, y13), (15, y15), (16, y16), (17, y17), (28, y28), (33, y33)] [(0, y0), (1, y1), (2, y2), (3, y3), (4, y4), (5, y5), (12, y12), (13, y13), (15, y15), (16, y16), (17, y17), (28, y28), (33, y33)] = [(0, y0), (1, y1), (2, y2), (3, y3), (4, y4), (5, y5), (12, z0), (13, z1), (15, y15), (16, y16), (17, y17), (28, y28), (33, y33)] := fun y0 y1 y2 y3 y4 y5 y12 y13 y15 y16 y17 y28 y33 z0 z1 => rfl
  refine R_nil (tr _ _ _ _ _ _ _ _ _ _ _ _ _ _ _) ?_; clear tr
  refine then_n ?_
  refine at_seq rfl ?_
  refine at_seq rfl ?_
  refine rg rfl ?_
  refine Rq ?_
  refine Rq ?_
  refine Rq ?_
  refine Rq ?_
  refine Rq ?_
  refine Rcall ?_
  refine ACall_eq (rrev_ok _ _ a b c e f) ?_
  refine Rq ?_
  refine Rq ?_
  refine Rq ?_
  refine Rq ?_
  refine Rq ?_
  have tr : ∀ y0 y1 y2 y3 y4 y5 y12 y13 y15 y16 y17 y28 y33 z0 z1 z2 z3 z4 z5 z6 z7 z8 z9 z10 : AV, trim [(15, z10), (14, z9), (26, z8), (25, z7), (18, z6), (24, z5), (23, z4), (22, z3), (21, z2), (20, z1), (19, z0), (0, y0), (1, y1), (2, y2), (3, y3), (4, y4), (5, y5), (12, y12), (13, y13), (15, y15), (16, y16), (17, y17), (28, y28), (33, y33)] [(0, y0), (1, y1), (2, y2), (3, y3), (4, y4), (5, y5), (12, y12), (13, y13), (15, y15), (16, y16), (17, y17), (28, y28), (33, y33)] = [(0, y0), (1, y1), (2, y2), (3, y3), (4, y4), (5, y5), (12, y12), (13, y13), (15, z10), (16, y16), (17, y17), (28, y28), (33, y33)] := fun y0 y1 y2 y3 y4 y5 y12 y13 y15 y16 y17 y28 y33 z0 z1 z2 z3 z4 z5 z6 z7 z8 z9 z10 => rfl
  refine R_nil (tr _ _ _ _ _ _ _ _ _ _ _ _ _ _ _ _ _ _ _ _ _ _ _ _) ?_; clear tr
  refine then_n ?_
  refine at_seq rfl ?_
  refine rg rfl ?_
  refine Rq ?_
  refine Rq ?_
  have tr : ∀ y0 y1 y2 y3 y4 y5 y12 y13 y15 y16 y17 y28 y33 z0 z1 : AV, trim [(28, z1), (27, z0), (0, y0), (1, y1), (2, y2), (3, y3), (4, y4), (5, y5), (12, y12), (13, y13), (15, y15), (16, y16), (17, y17), (28, y28), (33, y33)] [(0, y0), (1, y1), (2, y2), (3, y3), (4, y4), (5, y5), (12, y12), (13, y13), (15, y15), (16, y16), (17, y17), (28, y28), (33, y33)] = [(0, y0), (1, y1), (2, y2), (3, y3), (4, y4), (5, y5), (12, y12), (13, y13), (15, y15), (16, y16), (17, y17), (28, z1), (33, y33)] := fun y0 y1 y2 y3 y4 y5 y12 y13 y15 y16 y17 y28 y33 z0 z1 => rfl
  refine R_nil (tr _ _ _ _ _ _ _ _ _ _ _ _ _ _ _) ?_; clear tr
  refine then_n ?_
  refine cdd (fun h1 => ?_) (fun h1 => ?_)
  · try simp only [decide_eq_true_eq, decide_eq_false_iff_not, Bool.not_eq_true', Bool.not_eq_false', beq_iff_eq, beq_eq_false_iff_ne, ne_eq] at h1
    refine at_seq rfl ?_
    refine rg rfl ?_
    refine Rq ?_
    refine Rq ?_
    refine Rq ?_
    have tr : ∀ y0 y1 y2 y3 y4 y5 y12 y13 y15 y16 y17 y28 y33 z0 z1 z2 : AV, trim [(13, z2), (12, z1), (29, z0), (0, y0), (1, y1), (2, y2), (3, y3), (4, y4), (5, y5), (12, y12), (13, y13), (15, y15), (16, y16), (17, y17), (28, y28), (33, y33)] [(0, y0), (1, y1), (2, y2), (3, y3), (4, y4), (5, y5), (12, y12), (13, y13), (15, y15), (16, y16), (17, y17), (28, y28), (33, y33)] = [(0, y0), (1, y1), (2, y2), (3, y3), (4, y4), (5, y5), (12, z1), (13, z2), (15, y15), (16, y16), (17, y17), (28, y28), (33, y33)] := fun y0 y1 y2 y3 y4 y5 y12 y13 y15 y16 y17 y28 y33 z0 z1 z2 => rfl
    refine R_nil (tr _ _ _ _ _ _ _ _ _ _ _ _ _ _ _ _) ?_; clear tr
    refine then_n ?_
    refine at_ret rfl ?_
    refine then_r ?_
    first | (exfalso; omega) | (refine fpure ?_; refine ⟨?_, rfl⟩; first | (rw [parS, if_pos (by assumption)]; done) | (rw [parS, if_neg (by omega), if_pos (by omega)]; done) | (rw [h2, parS, if_neg (by omega), if_neg (by omega)]; done) | (rw [parS, if_neg (by omega), if_neg (by omega)]; done))
  · try simp only [decide_eq_true_eq, decide_eq_false_iff_not, Bool.not_eq_true', Bool.not_eq_false', beq_iff_eq, beq_eq_false_iff_ne, ne_eq] at h1
    refine at_skip rfl ?_
    refine then_n ?_
    refine at_seq rfl ?_
    refine at_seq rfl ?_
    refine rg rfl ?_
    refine Rq ?_
    refine Rq ?_
    refine Rcall ?_
    refine ACall_eq (between_ok _ _ _ _ _) ?_
    refine Rq ?_
    have tr : ∀ y0 y1 y2 y3 y4 y5 y12 y13 y15 y16 y17 y28 y33 z0 z1 z2 z3 : AV, trim [(33, z3), (32, z2), (31, z1), (30, z0), (0, y0), (1, y1), (2, y2), (3, y3), (4, y4), (5, y5), (12, y12), (13, y13), (15, y15), (16, y16), (17, y17), (28, y28), (33, y33)] [(0, y0), (1, y1), (2, y2), (3, y3), (4, y4), (5, y5), (12, y12), (13, y13), (15, y15), (16, y16), (17, y17), (28, y28), (33, y33)] = [(0, y0), (1, y1), (2, y2), (3, y3), (4, y4), (5, y5), (12, y12), (13, y13), (15, y15), (16, y16), (17, y17), (28, y28), (33, z3)] := fun y0 y1 y2 y3 y4 y5 y12 y13 y15 y16 y17 y28 y33 z0 z1 z2 z3 => rfl
    refine R_nil (tr _ _ _ _ _ _ _ _ _ _ _ _ _ _ _ _ _) ?_; clear tr
    refine then_n ?_
    refine cdd (fun h2 => ?_) (fun h2 => ?_)
    · try simp only [decide_eq_true_eq, decide_eq_false_iff_not, Bool.not_eq_true', Bool.not_eq_false', beq_iff_eq, beq_eq_false_iff_ne, ne_eq] at h2
      refine at_seq rfl ?_
      refine rg rfl ?_
      refine Rq ?_
      refine Rq ?_
      have tr : ∀ y0 y1 y2 y3 y4 y5 y12 y13 y15 y16 y17 y28 y33 z0 z1 : AV, trim [(13, z1), (12, z0), (0, y0), (1, y1), (2, y2), (3, y3), (4, y4), (5, y5), (12, y12), (13, y13), (15, y15), (16, y16), (17, y17), (28, y28), (33, y33)] [(0, y0), (1, y1), (2, y2), (3, y3), (4, y4), (5, y5), (12, y12), (13, y13), (15, y15), (16, y16), (17, y17), (28, y28), (33, y33)] = [(0, y0), (1, y1), (2, y2), (3, y3), (4, y4), (5, y5), (12, z0), (13, z1), (15, y15), (16, y16), (17, y17), (28, y28), (33, y33)] := fun y0 y1 y2 y3 y4 y5 y12 y13 y15 y16 y17 y28 y33 z0 z1 => rfl
      refine R_nil (tr _ _ _ _ _ _ _ _ _ _ _ _ _ _ _) ?_; clear tr
      refine then_n ?_
      refine at_ret rfl ?_
      refine then_r ?_
      first | (exfalso; omega) | (refine fpure ?_; refine ⟨?_, rfl⟩; first | (rw [parS, if_pos (by assumption)]; done) | (rw [parS, if_neg (by omega), if_pos (by omega)]; done) | (rw [h2, parS, if_neg (by omega), if_neg (by omega)]; done) | (rw [parS, if_neg (by omega), if_neg (by omega)]; done))
    · try simp only [decide_eq_true_eq, decide_eq_false_iff_not, Bool.not_eq_true', Bool.not_eq_false', beq_iff_eq, beq_eq_false_iff_ne, ne_eq] at h2
      refine at_skip rfl ?_
      refine then_n ?_
      refine at_seq rfl ?_
      refine rg rfl ?_
      have h0 : (reviseS a b c e f).2 = 0 := by assumption
      have hb := rev_of0 h0
      unfold revBad at hb
      have h2 := rev_less (lf := lf) h0 (by omega) (by omega)
      have hr := rev_range (a := a) (b := b) (c := c - lf) (e := e) (f := f)
      refine Rq ?_
      refine Rq ?_
      refine Rq ?_
      refine Rq ?_
      refine Rq ?_
      refine Rq ?_
      refine Rq ?_
      refine Rcall ?_
      refine ACall_eq (rrev_ok _ _ a b (c - lf) e f) ?_
      refine Rq ?_
      refine Rq ?_
      refine Rq ?_
      refine Rq ?_
      refine Rq ?_
      have tr : ∀ y0 y1 y2 y3 y4 y5 y12 y13 y15 y16 y17 y28 y33 z0 z1 z2 z3 z4 z5 z6 z7 z8 z9 z10 z11 z12 : AV, trim [(17, z12), (16, z11), (44, z10), (43, z9), (34, z8), (42, z7), (41, z6), (40, z5), (39, z4), (38, z3), (37, z2), (36, z1), (35, z0), (0, y0), (1, y1), (2, y2), (3, y3), (4, y4), (5, y5), (12, y12), (13, y13), (15, y15), (16, y16), (17, y17), (28, y28), (33, y33)] [(0, y0), (1, y1), (2, y2), (3, y3), (4, y4), (5, y5), (12, y12), (13, y13), (15, y15), (16, y16), (17, y17), (28, y28), (33, y33)] = [(0, y0), (1, y1), (2, y2), (3, y3), (4, y4), (5, y5), (12, y12), (13, y13), (15, y15), (16, z11), (17, z12), (28, y28), (33, y33)] := fun y0 y1 y2 y3 y4 y5 y12 y13 y15 y16 y17 y28 y33 z0 z1 z2 z3 z4 z5 z6 z7 z8 z9 z10 z11 z12 => rfl
      refine R_nil (tr _ _ _ _ _ _ _ _ _ _ _ _ _ _ _ _ _ _ _ _ _ _ _ _ _ _) ?_; clear tr
      refine then_n ?_
      refine at_seq rfl ?_
      refine rg rfl ?_
      refine Rq ?_
      refine Rq ?_
      refine Rq ?_
      refine Rq ?_
      refine Rq ?_
      have tr : ∀ y0 y1 y2 y3 y4 y5 y12 y13 y15 y16 y17 y28 y33 z0 z1 z2 z3 z4 : AV, trim [(13, z4), (12, z3), (47, z2), (46, z1), (45, z0), (0, y0), (1, y1), (2, y2), (3, y3), (4, y4), (5, y5), (12, y12), (13, y13), (15, y15), (16, y16), (17, y17), (28, y28), (33, y33)] [(0, y0), (1, y1), (2, y2), (3, y3), (4, y4), (5, y5), (12, y12), (13, y13), (15, y15), (16, y16), (17, y17), (28, y28), (33, y33)] = [(0, y0), (1, y1), (2, y2), (3, y3), (4, y4), (5, y5), (12, z3), (13, z4), (15, y15), (16, y16), (17, y17), (28, y28), (33, y33)] := fun y0 y1 y2 y3 y4 y5 y12 y13 y15 y16 y17 y28 y33 z0 z1 z2 z3 z4 => rfl
      refine R_nil (tr _ _ _ _ _ _ _ _ _ _ _ _ _ _ _ _ _ _) ?_; clear tr
      refine then_n ?_
      refine at_ret rfl ?_
      first | (exfalso; omega) | (refine fpure ?_; refine ⟨?_, rfl⟩; first | (rw [parS, if_pos (by assumption)]; done) | (rw [parS, if_neg (by omega), if_pos (by omega)]; done) | (rw [h2, parS, if_neg (by omega), if_neg (by omega)]; done) | (rw [parS, if_neg (by omega), if_neg (by omega)]; done))

end Go.Proofs.Ytaoondlakhocnaa
