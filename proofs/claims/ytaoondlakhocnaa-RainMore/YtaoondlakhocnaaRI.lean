/-
  Walks of chapters 37, 39 and 40. The steps are written by program (walk.py).
-/
import Derived.Test.YtaoondlakhocnaaRH
set_option linter.unusedSimpArgs false
set_option linter.unusedVariables false
set_option maxHeartbeats 40000000
set_option maxRecDepth 4000
namespace Go.Proofs.Ytaoondlakhocnaa
open Go Go.Am

theorem rat_ok (lim : Nat) (H : Heap) (rows : Tb) (per balls w : Int) :
    ACall sig lim 54 [.agg [rowsAV rows], AV.i per, AV.i balls, AV.i w] H fun r H' => r = .tup [AV.i (atS rows per balls w).1, AV.i (atS rows per balls w).2] ∧ H' = H := by
  refine ACall_pure (fa := fa54) rfl rfl rfl rfl ?_
  have tr : ∀ a0 a1 a2 a3 : AV, env0 fa54.keep [a0, a1, a2, a3] = [(0, a0), (1, a1), (2, a2), (3, a3), (4, .any), (8, .any), (9, .any), (10, .any), (11, .any), (12, .any), (13, .any), (14, .any), (18, .any), (48, .any), (52, .any), (72, .any)] := fun a0 a1 a2 a3 => rfl
  refine W_to (tr _ _ _ _) ?_; clear tr
  refine at_seq rfl ?_
  refine rg rfl ?_
  refine R_box rfl (by simp (disch := first | omega | (simp only [List.length_map, List.length_append, List.length_set, List.length_cons, List.length_nil, List.length_take, List.length_drop]; omega)) only [go_sem, ↓reduceIte, Nat.reduceEqDiff, reduceCtorEq]; rfl) rfl rfl ?_
  refine Rq ?_
  refine Rq ?_
  have tr : ∀ y0 y1 y2 y3 y4 y8 y9 y10 y11 y12 y13 y14 y18 y48 y52 y72 z0 z1 z2 : AV, trim [(9, z2), (8, z1), (4, z0), (0, y0), (1, y1), (2, y2), (3, y3), (4, y4), (8, y8), (9, y9), (10, y10), (11, y11), (12, y12), (13, y13), (14, y14), (18, y18), (48, y48), (52, y52), (72, y72)] [(0, y0), (1, y1), (2, y2), (3, y3), (4, y4), (8, y8), (9, y9), (10, y10), (11, y11), (12, y12), (13, y13), (14, y14), (18, y18), (48, y48), (52, y52), (72, y72)] = [(0, y0), (1, y1), (2, y2), (3, y3), (4, z0), (8, z1), (9, z2), (10, y10), (11, y11), (12, y12), (13, y13), (14, y14), (18, y18), (48, y48), (52, y52), (72, y72)] := fun y0 y1 y2 y3 y4 y8 y9 y10 y11 y12 y13 y14 y18 y48 y52 y72 z0 z1 z2 => rfl
  refine R_nil (tr _ _ _ _ _ _ _ _ _ _ _ _ _ _ _ _ _ _ _) ?_; clear tr
  refine then_n ?_
  refine at_seq rfl ?_
  refine at_seq rfl ?_
  refine rg rfl ?_
  refine Rq ?_
  refine Rcall ?_
  refine ACall_eq (rcheck_ok _ _ _) ?_
  refine Rq ?_
  have tr : ∀ y0 y1 y2 y3 y4 y8 y9 y10 y11 y12 y13 y14 y18 y48 y52 y72 z0 z1 z2 : AV, trim [(10, z2), (16, z1), (15, z0), (0, y0), (1, y1), (2, y2), (3, y3), (4, y4), (8, y8), (9, y9), (10, y10), (11, y11), (12, y12), (13, y13), (14, y14), (18, y18), (48, y48), (52, y52), (72, y72)] [(0, y0), (1, y1), (2, y2), (3, y3), (4, y4), (8, y8), (9, y9), (10, y10), (11, y11), (12, y12), (13, y13), (14, y14), (18, y18), (48, y48), (52, y52), (72, y72)] = [(0, y0), (1, y1), (2, y2), (3, y3), (4, y4), (8, y8), (9, y9), (10, z2), (11, y11), (12, y12), (13, y13), (14, y14), (18, y18), (48, y48), (52, y52), (72, y72)] := fun y0 y1 y2 y3 y4 y8 y9 y10 y11 y12 y13 y14 y18 y48 y52 y72 z0 z1 z2 => rfl
  refine R_nil (tr _ _ _ _ _ _ _ _ _ _ _ _ _ _ _ _ _ _ _) ?_; clear tr
  refine then_n ?_
  refine at_seq rfl ?_
  refine rg rfl ?_
  refine Rq ?_
  refine Rq ?_
  have tr : ∀ y0 y1 y2 y3 y4 y8 y9 y10 y11 y12 y13 y14 y18 y48 y52 y72 z0 z1 : AV, trim [(18, z1), (17, z0), (0, y0), (1, y1), (2, y2), (3, y3), (4, y4), (8, y8), (9, y9), (10, y10), (11, y11), (12, y12), (13, y13), (14, y14), (18, y18), (48, y48), (52, y52), (72, y72)] [(0, y0), (1, y1), (2, y2), (3, y3), (4, y4), (8, y8), (9, y9), (10, y10), (11, y11), (12, y12), (13, y13), (14, y14), (18, y18), (48, y48), (52, y52), (72, y72)] = [(0, y0), (1, y1), (2, y2), (3, y3), (4, y4), (8, y8), (9, y9), (10, y10), (11, y11), (12, y12), (13, y13), (14, y14), (18, z1), (48, y48), (52, y52), (72, y72)] := fun y0 y1 y2 y3 y4 y8 y9 y10 y11 y12 y13 y14 y18 y48 y52 y72 z0 z1 => rfl
  refine R_nil (tr _ _ _ _ _ _ _ _ _ _ _ _ _ _ _ _ _ _) ?_; clear tr
  refine then_n ?_
  refine cdd (fun h1 => ?_) (fun h1 => ?_)
  · try simp only [decide_eq_true_eq, decide_eq_false_iff_not, Bool.not_eq_true', Bool.not_eq_false', beq_iff_eq, beq_eq_false_iff_ne, ne_eq] at h1
    refine at_seq rfl ?_
    refine rg rfl ?_
    refine Rq ?_
    refine Rq ?_
    refine Rq ?_
    have tr : ∀ y0 y1 y2 y3 y4 y8 y9 y10 y11 y12 y13 y14 y18 y48 y52 y72 z0 z1 z2 : AV, trim [(9, z2), (8, z1), (19, z0), (0, y0), (1, y1), (2, y2), (3, y3), (4, y4), (8, y8), (9, y9), (10, y10), (11, y11), (12, y12), (13, y13), (14, y14), (18, y18), (48, y48), (52, y52), (72, y72)] [(0, y0), (1, y1), (2, y2), (3, y3), (4, y4), (8, y8), (9, y9), (10, y10), (11, y11), (12, y12), (13, y13), (14, y14), (18, y18), (48, y48), (52, y52), (72, y72)] = [(0, y0), (1, y1), (2, y2), (3, y3), (4, y4), (8, z1), (9, z2), (10, y10), (11, y11), (12, y12), (13, y13), (14, y14), (18, y18), (48, y48), (52, y52), (72, y72)] := fun y0 y1 y2 y3 y4 y8 y9 y10 y11 y12 y13 y14 y18 y48 y52 y72 z0 z1 z2 => rfl
    refine R_nil (tr _ _ _ _ _ _ _ _ _ _ _ _ _ _ _ _ _ _ _) ?_; clear tr
    refine then_n ?_
    refine at_ret rfl ?_
    refine then_r ?_
    refine fpure ?_
    refine ⟨?_, rfl⟩
    rw [atS, if_pos (by assumption)]
  · try simp only [decide_eq_true_eq, decide_eq_false_iff_not, Bool.not_eq_true', Bool.not_eq_false', beq_iff_eq, beq_eq_false_iff_ne, ne_eq] at h1
    refine at_skip rfl ?_
    refine then_n ?_
    refine at_seq rfl ?_
    refine rg rfl ?_
    refine Rq ?_
    refine Rq ?_
    have tr : ∀ y0 y1 y2 y3 y4 y8 y9 y10 y11 y12 y13 y14 y18 y48 y52 y72 z0 z1 : AV, trim [(11, z1), (20, z0), (0, y0), (1, y1), (2, y2), (3, y3), (4, y4), (8, y8), (9, y9), (10, y10), (11, y11), (12, y12), (13, y13), (14, y14), (18, y18), (48, y48), (52, y52), (72, y72)] [(0, y0), (1, y1), (2, y2), (3, y3), (4, y4), (8, y8), (9, y9), (10, y10), (11, y11), (12, y12), (13, y13), (14, y14), (18, y18), (48, y48), (52, y52), (72, y72)] = [(0, y0), (1, y1), (2, y2), (3, y3), (4, y4), (8, y8), (9, y9), (10, y10), (11, z1), (12, y12), (13, y13), (14, y14), (18, y18), (48, y48), (52, y52), (72, y72)] := fun y0 y1 y2 y3 y4 y8 y9 y10 y11 y12 y13 y14 y18 y48 y52 y72 z0 z1 => rfl
    refine R_nil (tr _ _ _ _ _ _ _ _ _ _ _ _ _ _ _ _ _ _) ?_; clear tr
    refine then_n ?_
    refine at_seq rfl ?_
    refine at_seq rfl ?_
    refine rg rfl ?_
    refine Rq ?_
    refine Rq ?_
    refine Rq ?_
    refine Rp_split (fun h2 => ?_) (fun h2 => ?_)
    · try simp only [decide_eq_true_eq, decide_eq_false_iff_not, Bool.not_eq_true', Bool.not_eq_false', beq_iff_eq, beq_eq_false_iff_ne, ne_eq] at h2
      refine Rn ?_
      refine Rn ?_
      refine Rq ?_
      refine Rq ?_
      refine Rn ?_
      refine Rn ?_
      refine Rq ?_
      refine Rq ?_
      refine Rn ?_
      refine Rn ?_
      refine Rn ?_
      refine Rn ?_
      refine Rn ?_
      refine Rn ?_
      refine Rq ?_
      refine Rq ?_
      refine Rn ?_
      refine Rn ?_
      refine Rq ?_
      refine Rq ?_
      refine Rn ?_
      refine Rn ?_
      refine Rn ?_
      refine Rn ?_
      refine Rq ?_
      have tr : ∀ y0 y1 y2 y3 y4 y8 y9 y10 y11 y12 y13 y14 y18 y48 y52 y72 z0 z1 z2 z3 z4 z5 z6 z7 z8 z9 z10 z11 z12 z13 z14 z15 z16 z17 z18 z19 z20 z21 z22 z23 z24 z25 z26 z27 : AV, trim [(48, z27), (47, z26), (46, z25), (45, z24), (44, z23), (43, z22), (42, z21), (41, z20), (40, z19), (39, z18), (38, z17), (37, z16), (36, z15), (35, z14), (34, z13), (33, z12), (32, z11), (31, z10), (30, z9), (29, z8), (28, z7), (27, z6), (26, z5), (25, z4), (24, z3), (23, z2), (22, z1), (21, z0), (0, y0), (1, y1), (2, y2), (3, y3), (4, y4), (8, y8), (9, y9), (10, y10), (11, y11), (12, y12), (13, y13), (14, y14), (18, y18), (48, y48), (52, y52), (72, y72)] [(0, y0), (1, y1), (2, y2), (3, y3), (4, y4), (8, y8), (9, y9), (10, y10), (11, y11), (12, y12), (13, y13), (14, y14), (18, y18), (48, y48), (52, y52), (72, y72)] = [(0, y0), (1, y1), (2, y2), (3, y3), (4, y4), (8, y8), (9, y9), (10, y10), (11, y11), (12, y12), (13, y13), (14, y14), (18, y18), (48, z27), (52, y52), (72, y72)] := fun y0 y1 y2 y3 y4 y8 y9 y10 y11 y12 y13 y14 y18 y48 y52 y72 z0 z1 z2 z3 z4 z5 z6 z7 z8 z9 z10 z11 z12 z13 z14 z15 z16 z17 z18 z19 z20 z21 z22 z23 z24 z25 z26 z27 => rfl
      refine R_nil (tr _ _ _ _ _ _ _ _ _ _ _ _ _ _ _ _ _ _ _ _ _ _ _ _ _ _ _ _ _ _ _ _ _ _ _ _ _ _ _ _ _ _ _ _) ?_; clear tr
      refine then_n ?_
      refine cdt ?_
      refine at_seq rfl ?_
      refine rg rfl ?_
      refine Rq ?_
      refine Rq ?_
      have tr : ∀ y0 y1 y2 y3 y4 y8 y9 y10 y11 y12 y13 y14 y18 y48 y52 y72 z0 z1 : AV, trim [(9, z1), (8, z0), (0, y0), (1, y1), (2, y2), (3, y3), (4, y4), (8, y8), (9, y9), (10, y10), (11, y11), (12, y12), (13, y13), (14, y14), (18, y18), (48, y48), (52, y52), (72, y72)] [(0, y0), (1, y1), (2, y2), (3, y3), (4, y4), (8, y8), (9, y9), (10, y10), (11, y11), (12, y12), (13, y13), (14, y14), (18, y18), (48, y48), (52, y52), (72, y72)] = [(0, y0), (1, y1), (2, y2), (3, y3), (4, y4), (8, z0), (9, z1), (10, y10), (11, y11), (12, y12), (13, y13), (14, y14), (18, y18), (48, y48), (52, y52), (72, y72)] := fun y0 y1 y2 y3 y4 y8 y9 y10 y11 y12 y13 y14 y18 y48 y52 y72 z0 z1 => rfl
      refine R_nil (tr _ _ _ _ _ _ _ _ _ _ _ _ _ _ _ _ _ _) ?_; clear tr
      refine then_n ?_
      refine at_ret rfl ?_
      refine then_r ?_
      refine fpure ?_
      refine ⟨?_, rfl⟩
      rw [atS, if_neg (by omega), if_pos (by unfold atBad; omega)]
    · try simp only [decide_eq_true_eq, decide_eq_false_iff_not, Bool.not_eq_true', Bool.not_eq_false', beq_iff_eq, beq_eq_false_iff_ne, ne_eq] at h2
      refine Ry ?_
      refine Rq ?_
      refine Ry ?_
      refine Rq ?_
      refine Rq ?_
      refine Rq ?_
      refine Rp_split (fun h3 => ?_) (fun h3 => ?_)
      · try simp only [decide_eq_true_eq, decide_eq_false_iff_not, Bool.not_eq_true', Bool.not_eq_false', beq_iff_eq, beq_eq_false_iff_ne, ne_eq] at h3
        refine Rn ?_
        refine Rn ?_
        refine Rq ?_
        refine Rq ?_
        refine Rn ?_
        refine Rn ?_
        refine Rn ?_
        refine Rn ?_
        refine Rn ?_
        refine Rn ?_
        refine Rq ?_
        refine Rq ?_
        refine Rn ?_
        refine Rn ?_
        refine Rq ?_
        refine Rq ?_
        refine Rn ?_
        refine Rn ?_
        refine Rn ?_
        refine Rn ?_
        refine Rq ?_
        have tr : ∀ y0 y1 y2 y3 y4 y8 y9 y10 y11 y12 y13 y14 y18 y48 y52 y72 z0 z1 z2 z3 z4 z5 z6 z7 z8 z9 z10 z11 z12 z13 z14 z15 z16 z17 z18 z19 z20 z21 z22 z23 z24 z25 z26 z27 : AV, trim [(48, z27), (47, z26), (46, z25), (45, z24), (44, z23), (43, z22), (42, z21), (41, z20), (40, z19), (39, z18), (38, z17), (37, z16), (36, z15), (35, z14), (34, z13), (33, z12), (32, z11), (31, z10), (30, z9), (29, z8), (28, z7), (27, z6), (26, z5), (25, z4), (24, z3), (23, z2), (22, z1), (21, z0), (0, y0), (1, y1), (2, y2), (3, y3), (4, y4), (8, y8), (9, y9), (10, y10), (11, y11), (12, y12), (13, y13), (14, y14), (18, y18), (48, y48), (52, y52), (72, y72)] [(0, y0), (1, y1), (2, y2), (3, y3), (4, y4), (8, y8), (9, y9), (10, y10), (11, y11), (12, y12), (13, y13), (14, y14), (18, y18), (48, y48), (52, y52), (72, y72)] = [(0, y0), (1, y1), (2, y2), (3, y3), (4, y4), (8, y8), (9, y9), (10, y10), (11, y11), (12, y12), (13, y13), (14, y14), (18, y18), (48, z27), (52, y52), (72, y72)] := fun y0 y1 y2 y3 y4 y8 y9 y10 y11 y12 y13 y14 y18 y48 y52 y72 z0 z1 z2 z3 z4 z5 z6 z7 z8 z9 z10 z11 z12 z13 z14 z15 z16 z17 z18 z19 z20 z21 z22 z23 z24 z25 z26 z27 => rfl
        refine R_nil (tr _ _ _ _ _ _ _ _ _ _ _ _ _ _ _ _ _ _ _ _ _ _ _ _ _ _ _ _ _ _ _ _ _ _ _ _ _ _ _ _ _ _ _ _) ?_; clear tr
        refine then_n ?_
        refine cdt ?_
        refine at_seq rfl ?_
        refine rg rfl ?_
        refine Rq ?_
        refine Rq ?_
        have tr : ∀ y0 y1 y2 y3 y4 y8 y9 y10 y11 y12 y13 y14 y18 y48 y52 y72 z0 z1 : AV, trim [(9, z1), (8, z0), (0, y0), (1, y1), (2, y2), (3, y3), (4, y4), (8, y8), (9, y9), (10, y10), (11, y11), (12, y12), (13, y13), (14, y14), (18, y18), (48, y48), (52, y52), (72, y72)] [(0, y0), (1, y1), (2, y2), (3, y3), (4, y4), (8, y8), (9, y9), (10, y10), (11, y11), (12, y12), (13, y13), (14, y14), (18, y18), (48, y48), (52, y52), (72, y72)] = [(0, y0), (1, y1), (2, y2), (3, y3), (4, y4), (8, z0), (9, z1), (10, y10), (11, y11), (12, y12), (13, y13), (14, y14), (18, y18), (48, y48), (52, y52), (72, y72)] := fun y0 y1 y2 y3 y4 y8 y9 y10 y11 y12 y13 y14 y18 y48 y52 y72 z0 z1 => rfl
        refine R_nil (tr _ _ _ _ _ _ _ _ _ _ _ _ _ _ _ _ _ _) ?_; clear tr
        refine then_n ?_
        refine at_ret rfl ?_
        refine then_r ?_
        refine fpure ?_
        refine ⟨?_, rfl⟩
        rw [atS, if_neg (by omega), if_pos (by unfold atBad; omega)]
      · try simp only [decide_eq_true_eq, decide_eq_false_iff_not, Bool.not_eq_true', Bool.not_eq_false', beq_iff_eq, beq_eq_false_iff_ne, ne_eq] at h3
        refine Ry ?_
        refine Rq ?_
        refine Ry ?_
        refine Rq ?_
        refine Rq ?_
        refine Rq ?_
        refine Rp_split (fun h4 => ?_) (fun h4 => ?_)
        · try simp only [decide_eq_true_eq, decide_eq_false_iff_not, Bool.not_eq_true', Bool.not_eq_false', beq_iff_eq, beq_eq_false_iff_ne, ne_eq] at h4
          refine Rn ?_
          refine Rn ?_
          refine Rn ?_
          refine Rn ?_
          refine Rn ?_
          refine Rn ?_
          refine Rq ?_
          refine Rq ?_
          refine Rn ?_
          refine Rn ?_
          refine Rq ?_
          refine Rq ?_
          refine Rn ?_
          refine Rn ?_
          refine Rn ?_
          refine Rn ?_
          refine Rq ?_
          have tr : ∀ y0 y1 y2 y3 y4 y8 y9 y10 y11 y12 y13 y14 y18 y48 y52 y72 z0 z1 z2 z3 z4 z5 z6 z7 z8 z9 z10 z11 z12 z13 z14 z15 z16 z17 z18 z19 z20 z21 z22 z23 z24 z25 z26 z27 : AV, trim [(48, z27), (47, z26), (46, z25), (45, z24), (44, z23), (43, z22), (42, z21), (41, z20), (40, z19), (39, z18), (38, z17), (37, z16), (36, z15), (35, z14), (34, z13), (33, z12), (32, z11), (31, z10), (30, z9), (29, z8), (28, z7), (27, z6), (26, z5), (25, z4), (24, z3), (23, z2), (22, z1), (21, z0), (0, y0), (1, y1), (2, y2), (3, y3), (4, y4), (8, y8), (9, y9), (10, y10), (11, y11), (12, y12), (13, y13), (14, y14), (18, y18), (48, y48), (52, y52), (72, y72)] [(0, y0), (1, y1), (2, y2), (3, y3), (4, y4), (8, y8), (9, y9), (10, y10), (11, y11), (12, y12), (13, y13), (14, y14), (18, y18), (48, y48), (52, y52), (72, y72)] = [(0, y0), (1, y1), (2, y2), (3, y3), (4, y4), (8, y8), (9, y9), (10, y10), (11, y11), (12, y12), (13, y13), (14, y14), (18, y18), (48, z27), (52, y52), (72, y72)] := fun y0 y1 y2 y3 y4 y8 y9 y10 y11 y12 y13 y14 y18 y48 y52 y72 z0 z1 z2 z3 z4 z5 z6 z7 z8 z9 z10 z11 z12 z13 z14 z15 z16 z17 z18 z19 z20 z21 z22 z23 z24 z25 z26 z27 => rfl
          refine R_nil (tr _ _ _ _ _ _ _ _ _ _ _ _ _ _ _ _ _ _ _ _ _ _ _ _ _ _ _ _ _ _ _ _ _ _ _ _ _ _ _ _ _ _ _ _) ?_; clear tr
          refine then_n ?_
          refine cdt ?_
          refine at_seq rfl ?_
          refine rg rfl ?_
          refine Rq ?_
          refine Rq ?_
          have tr : ∀ y0 y1 y2 y3 y4 y8 y9 y10 y11 y12 y13 y14 y18 y48 y52 y72 z0 z1 : AV, trim [(9, z1), (8, z0), (0, y0), (1, y1), (2, y2), (3, y3), (4, y4), (8, y8), (9, y9), (10, y10), (11, y11), (12, y12), (13, y13), (14, y14), (18, y18), (48, y48), (52, y52), (72, y72)] [(0, y0), (1, y1), (2, y2), (3, y3), (4, y4), (8, y8), (9, y9), (10, y10), (11, y11), (12, y12), (13, y13), (14, y14), (18, y18), (48, y48), (52, y52), (72, y72)] = [(0, y0), (1, y1), (2, y2), (3, y3), (4, y4), (8, z0), (9, z1), (10, y10), (11, y11), (12, y12), (13, y13), (14, y14), (18, y18), (48, y48), (52, y52), (72, y72)] := fun y0 y1 y2 y3 y4 y8 y9 y10 y11 y12 y13 y14 y18 y48 y52 y72 z0 z1 => rfl
          refine R_nil (tr _ _ _ _ _ _ _ _ _ _ _ _ _ _ _ _ _ _) ?_; clear tr
          refine then_n ?_
          refine at_ret rfl ?_
          refine then_r ?_
          refine fpure ?_
          refine ⟨?_, rfl⟩
          rw [atS, if_neg (by omega), if_pos (by unfold atBad; omega)]
        · try simp only [decide_eq_true_eq, decide_eq_false_iff_not, Bool.not_eq_true', Bool.not_eq_false', beq_iff_eq, beq_eq_false_iff_ne, ne_eq] at h4
          refine Ry ?_
          refine Rq ?_
          refine Ry ?_
          refine Rq ?_
          refine Ry ?_
          refine Rcall ?_
          have s := check_shaped (by assumption : checkS rows = 0)
          have g2 := s.two
          have g91 := s.most
          refine ACall_eq (rovers_ok _ _ rows g91 g2) ?_
          have hpm := mul_box (a := (rows.length : Int) - 1) (b := per) (A := 90) (B := 8) (by omega) (by omega) (by omega) (by omega)
          refine Ry ?_
          refine Rq ?_
          refine Ry ?_
          refine Rq ?_
          refine Ry ?_
          refine Rq ?_
          refine Rq ?_
          refine Rq ?_
          refine Rp_split (fun h5 => ?_) (fun h5 => ?_)
          · try simp only [decide_eq_true_eq, decide_eq_false_iff_not, Bool.not_eq_true', Bool.not_eq_false', beq_iff_eq, beq_eq_false_iff_ne, ne_eq] at h5
            refine Rn ?_
            refine Rn ?_
            refine Rq ?_
            refine Rq ?_
            refine Rn ?_
            refine Rn ?_
            refine Rn ?_
            refine Rn ?_
            refine Rq ?_
            have tr : ∀ y0 y1 y2 y3 y4 y8 y9 y10 y11 y12 y13 y14 y18 y48 y52 y72 z0 z1 z2 z3 z4 z5 z6 z7 z8 z9 z10 z11 z12 z13 z14 z15 z16 z17 z18 z19 z20 z21 z22 z23 z24 z25 z26 z27 : AV, trim [(48, z27), (47, z26), (46, z25), (45, z24), (44, z23), (43, z22), (42, z21), (41, z20), (40, z19), (39, z18), (38, z17), (37, z16), (36, z15), (35, z14), (34, z13), (33, z12), (32, z11), (31, z10), (30, z9), (29, z8), (28, z7), (27, z6), (26, z5), (25, z4), (24, z3), (23, z2), (22, z1), (21, z0), (0, y0), (1, y1), (2, y2), (3, y3), (4, y4), (8, y8), (9, y9), (10, y10), (11, y11), (12, y12), (13, y13), (14, y14), (18, y18), (48, y48), (52, y52), (72, y72)] [(0, y0), (1, y1), (2, y2), (3, y3), (4, y4), (8, y8), (9, y9), (10, y10), (11, y11), (12, y12), (13, y13), (14, y14), (18, y18), (48, y48), (52, y52), (72, y72)] = [(0, y0), (1, y1), (2, y2), (3, y3), (4, y4), (8, y8), (9, y9), (10, y10), (11, y11), (12, y12), (13, y13), (14, y14), (18, y18), (48, z27), (52, y52), (72, y72)] := fun y0 y1 y2 y3 y4 y8 y9 y10 y11 y12 y13 y14 y18 y48 y52 y72 z0 z1 z2 z3 z4 z5 z6 z7 z8 z9 z10 z11 z12 z13 z14 z15 z16 z17 z18 z19 z20 z21 z22 z23 z24 z25 z26 z27 => rfl
            refine R_nil (tr _ _ _ _ _ _ _ _ _ _ _ _ _ _ _ _ _ _ _ _ _ _ _ _ _ _ _ _ _ _ _ _ _ _ _ _ _ _ _ _ _ _ _ _) ?_; clear tr
            refine then_n ?_
            refine cdt ?_
            refine at_seq rfl ?_
            refine rg rfl ?_
            refine Rq ?_
            refine Rq ?_
            have tr : ∀ y0 y1 y2 y3 y4 y8 y9 y10 y11 y12 y13 y14 y18 y48 y52 y72 z0 z1 : AV, trim [(9, z1), (8, z0), (0, y0), (1, y1), (2, y2), (3, y3), (4, y4), (8, y8), (9, y9), (10, y10), (11, y11), (12, y12), (13, y13), (14, y14), (18, y18), (48, y48), (52, y52), (72, y72)] [(0, y0), (1, y1), (2, y2), (3, y3), (4, y4), (8, y8), (9, y9), (10, y10), (11, y11), (12, y12), (13, y13), (14, y14), (18, y18), (48, y48), (52, y52), (72, y72)] = [(0, y0), (1, y1), (2, y2), (3, y3), (4, y4), (8, z0), (9, z1), (10, y10), (11, y11), (12, y12), (13, y13), (14, y14), (18, y18), (48, y48), (52, y52), (72, y72)] := fun y0 y1 y2 y3 y4 y8 y9 y10 y11 y12 y13 y14 y18 y48 y52 y72 z0 z1 => rfl
            refine R_nil (tr _ _ _ _ _ _ _ _ _ _ _ _ _ _ _ _ _ _) ?_; clear tr
            refine then_n ?_
            refine at_ret rfl ?_
            refine then_r ?_
            refine fpure ?_
            refine ⟨?_, rfl⟩
            rw [atS, if_neg (by omega), if_pos (by unfold atBad; omega)]
          · try simp only [decide_eq_true_eq, decide_eq_false_iff_not, Bool.not_eq_true', Bool.not_eq_false', beq_iff_eq, beq_eq_false_iff_ne, ne_eq] at h5
            refine Ry ?_
            refine Rq ?_
            refine Ry ?_
            refine Rq ?_
            refine Rq ?_
            refine Rq ?_
            refine Rp_split (fun h6 => ?_) (fun h6 => ?_)
            · try simp only [decide_eq_true_eq, decide_eq_false_iff_not, Bool.not_eq_true', Bool.not_eq_false', beq_iff_eq, beq_eq_false_iff_ne, ne_eq] at h6
              refine Rn ?_
              refine Rn ?_
              refine Rn ?_
              refine Rn ?_
              refine Rq ?_
              have tr : ∀ y0 y1 y2 y3 y4 y8 y9 y10 y11 y12 y13 y14 y18 y48 y52 y72 z0 z1 z2 z3 z4 z5 z6 z7 z8 z9 z10 z11 z12 z13 z14 z15 z16 z17 z18 z19 z20 z21 z22 z23 z24 z25 z26 z27 : AV, trim [(48, z27), (47, z26), (46, z25), (45, z24), (44, z23), (43, z22), (42, z21), (41, z20), (40, z19), (39, z18), (38, z17), (37, z16), (36, z15), (35, z14), (34, z13), (33, z12), (32, z11), (31, z10), (30, z9), (29, z8), (28, z7), (27, z6), (26, z5), (25, z4), (24, z3), (23, z2), (22, z1), (21, z0), (0, y0), (1, y1), (2, y2), (3, y3), (4, y4), (8, y8), (9, y9), (10, y10), (11, y11), (12, y12), (13, y13), (14, y14), (18, y18), (48, y48), (52, y52), (72, y72)] [(0, y0), (1, y1), (2, y2), (3, y3), (4, y4), (8, y8), (9, y9), (10, y10), (11, y11), (12, y12), (13, y13), (14, y14), (18, y18), (48, y48), (52, y52), (72, y72)] = [(0, y0), (1, y1), (2, y2), (3, y3), (4, y4), (8, y8), (9, y9), (10, y10), (11, y11), (12, y12), (13, y13), (14, y14), (18, y18), (48, z27), (52, y52), (72, y72)] := fun y0 y1 y2 y3 y4 y8 y9 y10 y11 y12 y13 y14 y18 y48 y52 y72 z0 z1 z2 z3 z4 z5 z6 z7 z8 z9 z10 z11 z12 z13 z14 z15 z16 z17 z18 z19 z20 z21 z22 z23 z24 z25 z26 z27 => rfl
              refine R_nil (tr _ _ _ _ _ _ _ _ _ _ _ _ _ _ _ _ _ _ _ _ _ _ _ _ _ _ _ _ _ _ _ _ _ _ _ _ _ _ _ _ _ _ _ _) ?_; clear tr
              refine then_n ?_
              refine cdt ?_
              refine at_seq rfl ?_
              refine rg rfl ?_
              refine Rq ?_
              refine Rq ?_
              have tr : ∀ y0 y1 y2 y3 y4 y8 y9 y10 y11 y12 y13 y14 y18 y48 y52 y72 z0 z1 : AV, trim [(9, z1), (8, z0), (0, y0), (1, y1), (2, y2), (3, y3), (4, y4), (8, y8), (9, y9), (10, y10), (11, y11), (12, y12), (13, y13), (14, y14), (18, y18), (48, y48), (52, y52), (72, y72)] [(0, y0), (1, y1), (2, y2), (3, y3), (4, y4), (8, y8), (9, y9), (10, y10), (11, y11), (12, y12), (13, y13), (14, y14), (18, y18), (48, y48), (52, y52), (72, y72)] = [(0, y0), (1, y1), (2, y2), (3, y3), (4, y4), (8, z0), (9, z1), (10, y10), (11, y11), (12, y12), (13, y13), (14, y14), (18, y18), (48, y48), (52, y52), (72, y72)] := fun y0 y1 y2 y3 y4 y8 y9 y10 y11 y12 y13 y14 y18 y48 y52 y72 z0 z1 => rfl
              refine R_nil (tr _ _ _ _ _ _ _ _ _ _ _ _ _ _ _ _ _ _) ?_; clear tr
              refine then_n ?_
              refine at_ret rfl ?_
              refine then_r ?_
              refine fpure ?_
              refine ⟨?_, rfl⟩
              rw [atS, if_neg (by omega), if_pos (by unfold atBad; omega)]
            · try simp only [decide_eq_true_eq, decide_eq_false_iff_not, Bool.not_eq_true', Bool.not_eq_false', beq_iff_eq, beq_eq_false_iff_ne, ne_eq] at h6
              refine Ry ?_
              refine Rq ?_
              refine Ry ?_
              refine Rq ?_
              refine Ry ?_
              refine Rcall ?_
              refine ACall_eq (rwickets_ok _ _ rows g2) ?_
              refine Ry ?_
              refine Rq ?_
              refine Rq ?_
              have tr : ∀ y0 y1 y2 y3 y4 y8 y9 y10 y11 y12 y13 y14 y18 y48 y52 y72 z0 z1 z2 z3 z4 z5 z6 z7 z8 z9 z10 z11 z12 z13 z14 z15 z16 z17 z18 z19 z20 z21 z22 z23 z24 z25 z26 z27 : AV, trim [(48, z27), (47, z26), (46, z25), (45, z24), (44, z23), (43, z22), (42, z21), (41, z20), (40, z19), (39, z18), (38, z17), (37, z16), (36, z15), (35, z14), (34, z13), (33, z12), (32, z11), (31, z10), (30, z9), (29, z8), (28, z7), (27, z6), (26, z5), (25, z4), (24, z3), (23, z2), (22, z1), (21, z0), (0, y0), (1, y1), (2, y2), (3, y3), (4, y4), (8, y8), (9, y9), (10, y10), (11, y11), (12, y12), (13, y13), (14, y14), (18, y18), (48, y48), (52, y52), (72, y72)] [(0, y0), (1, y1), (2, y2), (3, y3), (4, y4), (8, y8), (9, y9), (10, y10), (11, y11), (12, y12), (13, y13), (14, y14), (18, y18), (48, y48), (52, y52), (72, y72)] = [(0, y0), (1, y1), (2, y2), (3, y3), (4, y4), (8, y8), (9, y9), (10, y10), (11, y11), (12, y12), (13, y13), (14, y14), (18, y18), (48, z27), (52, y52), (72, y72)] := fun y0 y1 y2 y3 y4 y8 y9 y10 y11 y12 y13 y14 y18 y48 y52 y72 z0 z1 z2 z3 z4 z5 z6 z7 z8 z9 z10 z11 z12 z13 z14 z15 z16 z17 z18 z19 z20 z21 z22 z23 z24 z25 z26 z27 => rfl
              refine R_nil (tr _ _ _ _ _ _ _ _ _ _ _ _ _ _ _ _ _ _ _ _ _ _ _ _ _ _ _ _ _ _ _ _ _ _ _ _ _ _ _ _ _ _ _ _) ?_; clear tr
              refine then_n ?_
              refine cdd (fun h7 => ?_) (fun h7 => ?_)
              · try simp only [decide_eq_true_eq, decide_eq_false_iff_not, Bool.not_eq_true', Bool.not_eq_false', beq_iff_eq, beq_eq_false_iff_ne, ne_eq] at h7
                refine at_seq rfl ?_
                refine rg rfl ?_
                refine Rq ?_
                refine Rq ?_
                have tr : ∀ y0 y1 y2 y3 y4 y8 y9 y10 y11 y12 y13 y14 y18 y48 y52 y72 z0 z1 : AV, trim [(9, z1), (8, z0), (0, y0), (1, y1), (2, y2), (3, y3), (4, y4), (8, y8), (9, y9), (10, y10), (11, y11), (12, y12), (13, y13), (14, y14), (18, y18), (48, y48), (52, y52), (72, y72)] [(0, y0), (1, y1), (2, y2), (3, y3), (4, y4), (8, y8), (9, y9), (10, y10), (11, y11), (12, y12), (13, y13), (14, y14), (18, y18), (48, y48), (52, y52), (72, y72)] = [(0, y0), (1, y1), (2, y2), (3, y3), (4, y4), (8, z0), (9, z1), (10, y10), (11, y11), (12, y12), (13, y13), (14, y14), (18, y18), (48, y48), (52, y52), (72, y72)] := fun y0 y1 y2 y3 y4 y8 y9 y10 y11 y12 y13 y14 y18 y48 y52 y72 z0 z1 => rfl
                refine R_nil (tr _ _ _ _ _ _ _ _ _ _ _ _ _ _ _ _ _ _) ?_; clear tr
                refine then_n ?_
                refine at_ret rfl ?_
                refine then_r ?_
                refine fpure ?_
                refine ⟨?_, rfl⟩
                rw [atS, if_neg (by omega), if_pos (by unfold atBad; omega)]
              · try simp only [decide_eq_true_eq, decide_eq_false_iff_not, Bool.not_eq_true', Bool.not_eq_false', beq_iff_eq, beq_eq_false_iff_ne, ne_eq] at h7
                refine at_skip rfl ?_
                refine then_n ?_
                refine at_seq rfl ?_
                refine at_seq rfl ?_
                refine rg rfl ?_
                refine Rq ?_
                refine Rq ?_
                refine Rcall ?_
                refine ACall_eq (rwickets_ok _ _ rows g2) ?_
                refine Rq ?_
                have tr : ∀ y0 y1 y2 y3 y4 y8 y9 y10 y11 y12 y13 y14 y18 y48 y52 y72 z0 z1 z2 z3 : AV, trim [(52, z3), (51, z2), (50, z1), (49, z0), (0, y0), (1, y1), (2, y2), (3, y3), (4, y4), (8, y8), (9, y9), (10, y10), (11, y11), (12, y12), (13, y13), (14, y14), (18, y18), (48, y48), (52, y52), (72, y72)] [(0, y0), (1, y1), (2, y2), (3, y3), (4, y4), (8, y8), (9, y9), (10, y10), (11, y11), (12, y12), (13, y13), (14, y14), (18, y18), (48, y48), (52, y52), (72, y72)] = [(0, y0), (1, y1), (2, y2), (3, y3), (4, y4), (8, y8), (9, y9), (10, y10), (11, y11), (12, y12), (13, y13), (14, y14), (18, y18), (48, y48), (52, z3), (72, y72)] := fun y0 y1 y2 y3 y4 y8 y9 y10 y11 y12 y13 y14 y18 y48 y52 y72 z0 z1 z2 z3 => rfl
                refine R_nil (tr _ _ _ _ _ _ _ _ _ _ _ _ _ _ _ _ _ _ _ _) ?_; clear tr
                refine then_n ?_
                refine cdd (fun h8 => ?_) (fun h8 => ?_)
                · try simp only [decide_eq_true_eq, decide_eq_false_iff_not, Bool.not_eq_true', Bool.not_eq_false', beq_iff_eq, beq_eq_false_iff_ne, ne_eq] at h8
                  refine at_seq rfl ?_
                  refine rg rfl ?_
                  refine Rq ?_
                  refine Rq ?_
                  have tr : ∀ y0 y1 y2 y3 y4 y8 y9 y10 y11 y12 y13 y14 y18 y48 y52 y72 z0 z1 : AV, trim [(9, z1), (8, z0), (0, y0), (1, y1), (2, y2), (3, y3), (4, y4), (8, y8), (9, y9), (10, y10), (11, y11), (12, y12), (13, y13), (14, y14), (18, y18), (48, y48), (52, y52), (72, y72)] [(0, y0), (1, y1), (2, y2), (3, y3), (4, y4), (8, y8), (9, y9), (10, y10), (11, y11), (12, y12), (13, y13), (14, y14), (18, y18), (48, y48), (52, y52), (72, y72)] = [(0, y0), (1, y1), (2, y2), (3, y3), (4, y4), (8, z0), (9, z1), (10, y10), (11, y11), (12, y12), (13, y13), (14, y14), (18, y18), (48, y48), (52, y52), (72, y72)] := fun y0 y1 y2 y3 y4 y8 y9 y10 y11 y12 y13 y14 y18 y48 y52 y72 z0 z1 => rfl
                  refine R_nil (tr _ _ _ _ _ _ _ _ _ _ _ _ _ _ _ _ _ _) ?_; clear tr
                  refine then_n ?_
                  refine at_ret rfl ?_
                  refine then_r ?_
                  refine fpure ?_
                  refine ⟨?_, rfl⟩
                  rw [atS, if_neg (by omega), if_neg (by unfold atBad; omega), if_pos (by omega)]
                · try simp only [decide_eq_true_eq, decide_eq_false_iff_not, Bool.not_eq_true', Bool.not_eq_false', beq_iff_eq, beq_eq_false_iff_ne, ne_eq] at h8
                  refine at_skip rfl ?_
                  refine then_n ?_
                  refine at_seq rfl ?_
                  refine rd rfl rfl ?_
                  have hat := at_place (n := (rows.length : Int) - 1) (per := per) (balls := balls) (by omega) (by omega) (by omega)
                  obtain ⟨q0, q1, r0, r1, q2⟩ := hat
                  have gl := s.len
                  have gr := s.rng
                  have hl1 := gl (balls / per).toNat (by omega)
                  have k1 : 0 ≤ gt (gt rows (balls / per).toNat) w.toNat ∧ gt (gt rows (balls / per).toNat) w.toNat ≤ 10000 := gr _ (by omega) _ (by omega)
                  have k2 := mul_box (b := per - balls % per) (B := 8) k1.1 k1.2 (by omega) (by omega)
                  refine Qq ?_
                  refine Qq ?_
                  refine Qq ?_
                  refine Qq ?_
                  refine Qq ?_
                  refine Qq ?_
                  refine Qq ?_
                  refine Qq ?_
                  refine Q_nil ?_
                  have tr : ∀ y0 y1 y2 y3 y4 y8 y9 y10 y11 y12 y13 y14 y18 y48 y52 y72 z0 z1 z2 z3 z4 z5 z6 z7 : AV, trim [(13, z7), (12, z6), (58, z5), (57, z4), (56, z3), (55, z2), (54, z1), (53, z0), (0, y0), (1, y1), (2, y2), (3, y3), (4, y4), (8, y8), (9, y9), (10, y10), (11, y11), (12, y12), (13, y13), (14, y14), (18, y18), (48, y48), (52, y52), (72, y72)] [(0, y0), (1, y1), (2, y2), (3, y3), (4, y4), (8, y8), (9, y9), (10, y10), (11, y11), (12, y12), (13, y13), (14, y14), (18, y18), (48, y48), (52, y52), (72, y72)] = [(0, y0), (1, y1), (2, y2), (3, y3), (4, y4), (8, y8), (9, y9), (10, y10), (11, y11), (12, z6), (13, z7), (14, y14), (18, y18), (48, y48), (52, y52), (72, y72)] := fun y0 y1 y2 y3 y4 y8 y9 y10 y11 y12 y13 y14 y18 y48 y52 y72 z0 z1 z2 z3 z4 z5 z6 z7 => rfl
                  refine R_nil (tr _ _ _ _ _ _ _ _ _ _ _ _ _ _ _ _ _ _ _ _ _ _ _ _) ?_; clear tr
                  refine then_n ?_
                  refine at_seq rfl ?_
                  refine rg rfl ?_
                  refine Rq ?_
                  refine Rq ?_
                  refine Rq ?_
                  refine Rq ?_
                  refine Rq ?_
                  refine Rq ?_
                  refine Rq ?_
                  refine Rq ?_
                  refine Rq ?_
                  refine Rq ?_
                  refine Rq ?_
                  refine Rq ?_
                  refine Rq ?_
                  have tr : ∀ y0 y1 y2 y3 y4 y8 y9 y10 y11 y12 y13 y14 y18 y48 y52 y72 z0 z1 z2 z3 z4 z5 z6 z7 z8 z9 z10 z11 z12 : AV, trim [(14, z12), (70, z11), (69, z10), (68, z9), (67, z8), (66, z7), (65, z6), (64, z5), (63, z4), (62, z3), (61, z2), (60, z1), (59, z0), (0, y0), (1, y1), (2, y2), (3, y3), (4, y4), (8, y8), (9, y9), (10, y10), (11, y11), (12, y12), (13, y13), (14, y14), (18, y18), (48, y48), (52, y52), (72, y72)] [(0, y0), (1, y1), (2, y2), (3, y3), (4, y4), (8, y8), (9, y9), (10, y10), (11, y11), (12, y12), (13, y13), (14, y14), (18, y18), (48, y48), (52, y52), (72, y72)] = [(0, y0), (1, y1), (2, y2), (3, y3), (4, y4), (8, y8), (9, y9), (10, y10), (11, y11), (12, y12), (13, y13), (14, z12), (18, y18), (48, y48), (52, y52), (72, y72)] := fun y0 y1 y2 y3 y4 y8 y9 y10 y11 y12 y13 y14 y18 y48 y52 y72 z0 z1 z2 z3 z4 z5 z6 z7 z8 z9 z10 z11 z12 => rfl
                  refine R_nil (tr _ _ _ _ _ _ _ _ _ _ _ _ _ _ _ _ _ _ _ _ _ _ _ _ _ _ _ _ _) ?_; clear tr
                  refine then_n ?_
                  refine at_seq rfl ?_
                  refine at_seq rfl ?_
                  refine rg rfl ?_
                  refine Rq ?_
                  refine Rq ?_
                  have tr : ∀ y0 y1 y2 y3 y4 y8 y9 y10 y11 y12 y13 y14 y18 y48 y52 y72 z0 z1 : AV, trim [(72, z1), (71, z0), (0, y0), (1, y1), (2, y2), (3, y3), (4, y4), (8, y8), (9, y9), (10, y10), (11, y11), (12, y12), (13, y13), (14, y14), (18, y18), (48, y48), (52, y52), (72, y72)] [(0, y0), (1, y1), (2, y2), (3, y3), (4, y4), (8, y8), (9, y9), (10, y10), (11, y11), (12, y12), (13, y13), (14, y14), (18, y18), (48, y48), (52, y52), (72, y72)] = [(0, y0), (1, y1), (2, y2), (3, y3), (4, y4), (8, y8), (9, y9), (10, y10), (11, y11), (12, y12), (13, y13), (14, y14), (18, y18), (48, y48), (52, y52), (72, z1)] := fun y0 y1 y2 y3 y4 y8 y9 y10 y11 y12 y13 y14 y18 y48 y52 y72 z0 z1 => rfl
                  refine R_nil (tr _ _ _ _ _ _ _ _ _ _ _ _ _ _ _ _ _ _) ?_; clear tr
                  refine then_n ?_
                  refine cdd (fun h9 => ?_) (fun h9 => ?_)
                  · try simp only [decide_eq_true_eq, decide_eq_false_iff_not, Bool.not_eq_true', Bool.not_eq_false', beq_iff_eq, beq_eq_false_iff_ne, ne_eq] at h9
                    refine rg rfl ?_
                    have q3 := q2 (by assumption)
                    have hl2 := gl (balls / per + 1).toNat (by omega)
                    have k3 : 0 ≤ gt (gt rows (balls / per + 1).toNat) w.toNat ∧ gt (gt rows (balls / per + 1).toNat) w.toNat ≤ 10000 := gr _ (by omega) _ (by omega)
                    have k4 := mul_box (b := balls % per) (B := 8) k3.1 k3.2 (by omega) (by omega)
                    refine Rq ?_
                    refine Rq ?_
                    refine Rq ?_
                    refine Rq ?_
                    refine Rq ?_
                    refine Rq ?_
                    refine Rq ?_
                    refine Rq ?_
                    refine Rq ?_
                    refine Rq ?_
                    refine Rq ?_
                    refine Rq ?_
                    refine Rq ?_
                    refine Rq ?_
                    have tr : ∀ y0 y1 y2 y3 y4 y8 y9 y10 y11 y12 y13 y14 y18 y48 y52 y72 z0 z1 z2 z3 z4 z5 z6 z7 z8 z9 z10 z11 z12 z13 : AV, trim [(14, z13), (85, z12), (84, z11), (83, z10), (82, z9), (81, z8), (80, z7), (79, z6), (78, z5), (77, z4), (76, z3), (75, z2), (74, z1), (73, z0), (0, y0), (1, y1), (2, y2), (3, y3), (4, y4), (8, y8), (9, y9), (10, y10), (11, y11), (12, y12), (13, y13), (14, y14), (18, y18), (48, y48), (52, y52), (72, y72)] [(0, y0), (1, y1), (2, y2), (3, y3), (4, y4), (8, y8), (9, y9), (10, y10), (11, y11), (12, y12), (13, y13), (14, y14), (18, y18), (48, y48), (52, y52), (72, y72)] = [(0, y0), (1, y1), (2, y2), (3, y3), (4, y4), (8, y8), (9, y9), (10, y10), (11, y11), (12, y12), (13, y13), (14, z13), (18, y18), (48, y48), (52, y52), (72, y72)] := fun y0 y1 y2 y3 y4 y8 y9 y10 y11 y12 y13 y14 y18 y48 y52 y72 z0 z1 z2 z3 z4 z5 z6 z7 z8 z9 z10 z11 z12 z13 => rfl
                    refine R_nil (tr _ _ _ _ _ _ _ _ _ _ _ _ _ _ _ _ _ _ _ _ _ _ _ _ _ _ _ _ _ _) ?_; clear tr
                    refine then_n ?_
                    refine at_seq rfl ?_
                    refine rg rfl ?_
                    refine Rq ?_
                    refine Rq ?_
                    refine Rq ?_
                    have tr : ∀ y0 y1 y2 y3 y4 y8 y9 y10 y11 y12 y13 y14 y18 y48 y52 y72 z0 z1 z2 : AV, trim [(9, z2), (8, z1), (86, z0), (0, y0), (1, y1), (2, y2), (3, y3), (4, y4), (8, y8), (9, y9), (10, y10), (11, y11), (12, y12), (13, y13), (14, y14), (18, y18), (48, y48), (52, y52), (72, y72)] [(0, y0), (1, y1), (2, y2), (3, y3), (4, y4), (8, y8), (9, y9), (10, y10), (11, y11), (12, y12), (13, y13), (14, y14), (18, y18), (48, y48), (52, y52), (72, y72)] = [(0, y0), (1, y1), (2, y2), (3, y3), (4, y4), (8, z1), (9, z2), (10, y10), (11, y11), (12, y12), (13, y13), (14, y14), (18, y18), (48, y48), (52, y52), (72, y72)] := fun y0 y1 y2 y3 y4 y8 y9 y10 y11 y12 y13 y14 y18 y48 y52 y72 z0 z1 z2 => rfl
                    refine R_nil (tr _ _ _ _ _ _ _ _ _ _ _ _ _ _ _ _ _ _ _) ?_; clear tr
                    refine then_n ?_
                    refine at_ret rfl ?_
                    refine fpure ?_
                    refine ⟨?_, rfl⟩
                    rw [atS, if_neg (by omega), if_neg (by unfold atBad; omega), if_neg (by omega), atV, cellI, cellI, if_pos (by omega)]
                  · try simp only [decide_eq_true_eq, decide_eq_false_iff_not, Bool.not_eq_true', Bool.not_eq_false', beq_iff_eq, beq_eq_false_iff_ne, ne_eq] at h9
                    refine at_skip rfl ?_
                    refine then_n ?_
                    refine at_seq rfl ?_
                    refine rg rfl ?_
                    refine Rq ?_
                    refine Rq ?_
                    refine Rq ?_
                    have tr : ∀ y0 y1 y2 y3 y4 y8 y9 y10 y11 y12 y13 y14 y18 y48 y52 y72 z0 z1 z2 : AV, trim [(9, z2), (8, z1), (86, z0), (0, y0), (1, y1), (2, y2), (3, y3), (4, y4), (8, y8), (9, y9), (10, y10), (11, y11), (12, y12), (13, y13), (14, y14), (18, y18), (48, y48), (52, y52), (72, y72)] [(0, y0), (1, y1), (2, y2), (3, y3), (4, y4), (8, y8), (9, y9), (10, y10), (11, y11), (12, y12), (13, y13), (14, y14), (18, y18), (48, y48), (52, y52), (72, y72)] = [(0, y0), (1, y1), (2, y2), (3, y3), (4, y4), (8, z1), (9, z2), (10, y10), (11, y11), (12, y12), (13, y13), (14, y14), (18, y18), (48, y48), (52, y52), (72, y72)] := fun y0 y1 y2 y3 y4 y8 y9 y10 y11 y12 y13 y14 y18 y48 y52 y72 z0 z1 z2 => rfl
                    refine R_nil (tr _ _ _ _ _ _ _ _ _ _ _ _ _ _ _ _ _ _ _) ?_; clear tr
                    refine then_n ?_
                    refine at_ret rfl ?_
                    refine fpure ?_
                    refine ⟨?_, rfl⟩
                    rw [atS, if_neg (by omega), if_neg (by unfold atBad; omega), if_neg (by omega), atV, cellI, cellI, if_neg (by omega), Int.add_zero]

end Go.Proofs.Ytaoondlakhocnaa
