/-
  Walks of chapters 37, 39 and 40. The steps are written by program (walk.py).
-/
import Derived.Test.YtaoondlakhocnaaRJ
set_option linter.unusedSimpArgs false
set_option linter.unusedVariables false
set_option maxHeartbeats 40000000
set_option maxRecDepth 4000
namespace Go.Proofs.Ytaoondlakhocnaa
open Go Go.Am

theorem rchk_ok (lim : Nat) (H : Heap) (rows : Tb) (per balls : Int) (l : List Stp) :
    ACall sig lim 39 [.agg [rowsAV rows], AV.i per, AV.i balls, stopsAV l] H fun r H' => r = AV.i (chkS rows per balls l) ∧ H' = H := by
  refine ACall_pure (fa := fa39) rfl rfl rfl rfl ?_
  have tr : ∀ a0 a1 a2 a3 : AV, env0 fa39.keep [a0, a1, a2, a3] = [(0, a0), (1, a1), (2, a2), (3, a3), (4, .any), (8, .any), (9, .any), (10, .any), (11, .any), (15, .any), (34, .any), (37, .any), (38, .any), (39, .any), (40, .any), (41, .any), (65, .any), (70, .any), (94, .any)] := fun a0 a1 a2 a3 => rfl
  refine W_to (tr _ _ _ _) ?_; clear tr
  refine at_seq rfl ?_
  refine rg rfl ?_
  refine R_box rfl (by simp (disch := first | omega | (simp only [List.length_map, List.length_append, List.length_set, List.length_cons, List.length_nil, List.length_take, List.length_drop]; omega)) only [go_sem, ↓reduceIte, Nat.reduceEqDiff, reduceCtorEq]; rfl) rfl rfl ?_
  refine Rq ?_
  have tr : ∀ y0 y1 y2 y3 y4 y8 y9 y10 y11 y15 y34 y37 y38 y39 y40 y41 y65 y70 y94 z0 z1 : AV, trim [(8, z1), (4, z0), (0, y0), (1, y1), (2, y2), (3, y3), (4, y4), (8, y8), (9, y9), (10, y10), (11, y11), (15, y15), (34, y34), (37, y37), (38, y38), (39, y39), (40, y40), (41, y41), (65, y65), (70, y70), (94, y94)] [(0, y0), (1, y1), (2, y2), (3, y3), (4, y4), (8, y8), (9, y9), (10, y10), (11, y11), (15, y15), (34, y34), (37, y37), (38, y38), (39, y39), (40, y40), (41, y41), (65, y65), (70, y70), (94, y94)] = [(0, y0), (1, y1), (2, y2), (3, y3), (4, z0), (8, z1), (9, y9), (10, y10), (11, y11), (15, y15), (34, y34), (37, y37), (38, y38), (39, y39), (40, y40), (41, y41), (65, y65), (70, y70), (94, y94)] := fun y0 y1 y2 y3 y4 y8 y9 y10 y11 y15 y34 y37 y38 y39 y40 y41 y65 y70 y94 z0 z1 => rfl
  refine R_nil (tr _ _ _ _ _ _ _ _ _ _ _ _ _ _ _ _ _ _ _ _ _) ?_; clear tr
  refine then_n ?_
  refine at_seq rfl ?_
  refine at_seq rfl ?_
  refine rg rfl ?_
  refine Rq ?_
  refine Rcall ?_
  refine ACall_eq (rcheck_ok _ _ _) ?_
  refine Rq ?_
  have tr : ∀ y0 y1 y2 y3 y4 y8 y9 y10 y11 y15 y34 y37 y38 y39 y40 y41 y65 y70 y94 z0 z1 z2 : AV, trim [(9, z2), (13, z1), (12, z0), (0, y0), (1, y1), (2, y2), (3, y3), (4, y4), (8, y8), (9, y9), (10, y10), (11, y11), (15, y15), (34, y34), (37, y37), (38, y38), (39, y39), (40, y40), (41, y41), (65, y65), (70, y70), (94, y94)] [(0, y0), (1, y1), (2, y2), (3, y3), (4, y4), (8, y8), (9, y9), (10, y10), (11, y11), (15, y15), (34, y34), (37, y37), (38, y38), (39, y39), (40, y40), (41, y41), (65, y65), (70, y70), (94, y94)] = [(0, y0), (1, y1), (2, y2), (3, y3), (4, y4), (8, y8), (9, z2), (10, y10), (11, y11), (15, y15), (34, y34), (37, y37), (38, y38), (39, y39), (40, y40), (41, y41), (65, y65), (70, y70), (94, y94)] := fun y0 y1 y2 y3 y4 y8 y9 y10 y11 y15 y34 y37 y38 y39 y40 y41 y65 y70 y94 z0 z1 z2 => rfl
  refine R_nil (tr _ _ _ _ _ _ _ _ _ _ _ _ _ _ _ _ _ _ _ _ _ _) ?_; clear tr
  refine then_n ?_
  refine at_seq rfl ?_
  refine rg rfl ?_
  refine Rq ?_
  refine Rq ?_
  have tr : ∀ y0 y1 y2 y3 y4 y8 y9 y10 y11 y15 y34 y37 y38 y39 y40 y41 y65 y70 y94 z0 z1 : AV, trim [(15, z1), (14, z0), (0, y0), (1, y1), (2, y2), (3, y3), (4, y4), (8, y8), (9, y9), (10, y10), (11, y11), (15, y15), (34, y34), (37, y37), (38, y38), (39, y39), (40, y40), (41, y41), (65, y65), (70, y70), (94, y94)] [(0, y0), (1, y1), (2, y2), (3, y3), (4, y4), (8, y8), (9, y9), (10, y10), (11, y11), (15, y15), (34, y34), (37, y37), (38, y38), (39, y39), (40, y40), (41, y41), (65, y65), (70, y70), (94, y94)] = [(0, y0), (1, y1), (2, y2), (3, y3), (4, y4), (8, y8), (9, y9), (10, y10), (11, y11), (15, z1), (34, y34), (37, y37), (38, y38), (39, y39), (40, y40), (41, y41), (65, y65), (70, y70), (94, y94)] := fun y0 y1 y2 y3 y4 y8 y9 y10 y11 y15 y34 y37 y38 y39 y40 y41 y65 y70 y94 z0 z1 => rfl
  refine R_nil (tr _ _ _ _ _ _ _ _ _ _ _ _ _ _ _ _ _ _ _ _ _) ?_; clear tr
  refine then_n ?_
  refine cdd (fun h1 => ?_) (fun h1 => ?_)
  · try simp only [decide_eq_true_eq, decide_eq_false_iff_not, Bool.not_eq_true', Bool.not_eq_false', beq_iff_eq, beq_eq_false_iff_ne, ne_eq] at h1
    refine at_seq rfl ?_
    refine rg rfl ?_
    refine Rq ?_
    refine Rq ?_
    have tr : ∀ y0 y1 y2 y3 y4 y8 y9 y10 y11 y15 y34 y37 y38 y39 y40 y41 y65 y70 y94 z0 z1 : AV, trim [(8, z1), (16, z0), (0, y0), (1, y1), (2, y2), (3, y3), (4, y4), (8, y8), (9, y9), (10, y10), (11, y11), (15, y15), (34, y34), (37, y37), (38, y38), (39, y39), (40, y40), (41, y41), (65, y65), (70, y70), (94, y94)] [(0, y0), (1, y1), (2, y2), (3, y3), (4, y4), (8, y8), (9, y9), (10, y10), (11, y11), (15, y15), (34, y34), (37, y37), (38, y38), (39, y39), (40, y40), (41, y41), (65, y65), (70, y70), (94, y94)] = [(0, y0), (1, y1), (2, y2), (3, y3), (4, y4), (8, z1), (9, y9), (10, y10), (11, y11), (15, y15), (34, y34), (37, y37), (38, y38), (39, y39), (40, y40), (41, y41), (65, y65), (70, y70), (94, y94)] := fun y0 y1 y2 y3 y4 y8 y9 y10 y11 y15 y34 y37 y38 y39 y40 y41 y65 y70 y94 z0 z1 => rfl
    refine R_nil (tr _ _ _ _ _ _ _ _ _ _ _ _ _ _ _ _ _ _ _ _ _) ?_; clear tr
    refine then_n ?_
    refine at_ret rfl ?_
    refine then_r ?_
    refine fpure ?_
    refine ⟨?_, rfl⟩
    rw [chkS, if_pos (by assumption)]
  · try simp only [decide_eq_true_eq, decide_eq_false_iff_not, Bool.not_eq_true', Bool.not_eq_false', beq_iff_eq, beq_eq_false_iff_ne, ne_eq] at h1
    refine at_skip rfl ?_
    refine then_n ?_
    refine at_seq rfl ?_
    refine at_seq rfl ?_
    refine rg rfl ?_
    refine Rq ?_
    refine Rq ?_
    refine Rq ?_
    refine Rp_split (fun h2 => ?_) (fun h2 => ?_)
    · try simp only [decide_eq_true_eq, decide_eq_false_iff_not, Bool.not_eq_true', Bool.not_eq_false', beq_iff_eq, beq_eq_false_iff_ne, ne_eq] at h2
      refine Rn ?_
      refine Rn ?_
      refine Rq ?_
      refine Rq ?_
      refine Rn ?_
      refine Rn ?_
      refine Rq ?_
      refine Rq ?_
      refine Rn ?_
      refine Rn ?_
      refine Rn ?_
      refine Rn ?_
      refine Rn ?_
      refine Rn ?_
      refine Rq ?_
      have tr : ∀ y0 y1 y2 y3 y4 y8 y9 y10 y11 y15 y34 y37 y38 y39 y40 y41 y65 y70 y94 z0 z1 z2 z3 z4 z5 z6 z7 z8 z9 z10 z11 z12 z13 z14 z15 z16 z17 : AV, trim [(34, z17), (33, z16), (32, z15), (31, z14), (30, z13), (29, z12), (28, z11), (27, z10), (26, z9), (25, z8), (24, z7), (23, z6), (22, z5), (21, z4), (20, z3), (19, z2), (18, z1), (17, z0), (0, y0), (1, y1), (2, y2), (3, y3), (4, y4), (8, y8), (9, y9), (10, y10), (11, y11), (15, y15), (34, y34), (37, y37), (38, y38), (39, y39), (40, y40), (41, y41), (65, y65), (70, y70), (94, y94)] [(0, y0), (1, y1), (2, y2), (3, y3), (4, y4), (8, y8), (9, y9), (10, y10), (11, y11), (15, y15), (34, y34), (37, y37), (38, y38), (39, y39), (40, y40), (41, y41), (65, y65), (70, y70), (94, y94)] = [(0, y0), (1, y1), (2, y2), (3, y3), (4, y4), (8, y8), (9, y9), (10, y10), (11, y11), (15, y15), (34, z17), (37, y37), (38, y38), (39, y39), (40, y40), (41, y41), (65, y65), (70, y70), (94, y94)] := fun y0 y1 y2 y3 y4 y8 y9 y10 y11 y15 y34 y37 y38 y39 y40 y41 y65 y70 y94 z0 z1 z2 z3 z4 z5 z6 z7 z8 z9 z10 z11 z12 z13 z14 z15 z16 z17 => rfl
      refine R_nil (tr _ _ _ _ _ _ _ _ _ _ _ _ _ _ _ _ _ _ _ _ _ _ _ _ _ _ _ _ _ _ _ _ _ _ _ _ _) ?_; clear tr
      refine then_n ?_
      refine cdt ?_
      refine at_seq rfl ?_
      refine rg rfl ?_
      refine Rq ?_
      have tr : ∀ y0 y1 y2 y3 y4 y8 y9 y10 y11 y15 y34 y37 y38 y39 y40 y41 y65 y70 y94 z0 : AV, trim [(8, z0), (0, y0), (1, y1), (2, y2), (3, y3), (4, y4), (8, y8), (9, y9), (10, y10), (11, y11), (15, y15), (34, y34), (37, y37), (38, y38), (39, y39), (40, y40), (41, y41), (65, y65), (70, y70), (94, y94)] [(0, y0), (1, y1), (2, y2), (3, y3), (4, y4), (8, y8), (9, y9), (10, y10), (11, y11), (15, y15), (34, y34), (37, y37), (38, y38), (39, y39), (40, y40), (41, y41), (65, y65), (70, y70), (94, y94)] = [(0, y0), (1, y1), (2, y2), (3, y3), (4, y4), (8, z0), (9, y9), (10, y10), (11, y11), (15, y15), (34, y34), (37, y37), (38, y38), (39, y39), (40, y40), (41, y41), (65, y65), (70, y70), (94, y94)] := fun y0 y1 y2 y3 y4 y8 y9 y10 y11 y15 y34 y37 y38 y39 y40 y41 y65 y70 y94 z0 => rfl
      refine R_nil (tr _ _ _ _ _ _ _ _ _ _ _ _ _ _ _ _ _ _ _ _) ?_; clear tr
      refine then_n ?_
      refine at_ret rfl ?_
      refine then_r ?_
      refine fpure ?_
      refine ⟨?_, rfl⟩
      rw [chkS, if_neg (by omega), if_pos (by unfold chkBad; omega)]
    · try simp only [decide_eq_true_eq, decide_eq_false_iff_not, Bool.not_eq_true', Bool.not_eq_false', beq_iff_eq, beq_eq_false_iff_ne, ne_eq] at h2
      refine Ry ?_
      refine Rq ?_
      refine Ry ?_
      refine Rq ?_
      refine Rq ?_
      refine Rq ?_
      refine Rp_split (fun h3 => ?_) (fun h3 => ?_)
      · try simp only [decide_eq_true_eq, decide_eq_false_iff_not, Bool.not_eq_true', Bool.not_eq_false', beq_iff_eq, beq_eq_false_iff_ne, ne_eq] at h3
        refine Rn ?_
        refine Rn ?_
        refine Rq ?_
        refine Rq ?_
        refine Rn ?_
        refine Rn ?_
        refine Rn ?_
        refine Rn ?_
        refine Rn ?_
        refine Rn ?_
        refine Rq ?_
        have tr : ∀ y0 y1 y2 y3 y4 y8 y9 y10 y11 y15 y34 y37 y38 y39 y40 y41 y65 y70 y94 z0 z1 z2 z3 z4 z5 z6 z7 z8 z9 z10 z11 z12 z13 z14 z15 z16 z17 : AV, trim [(34, z17), (33, z16), (32, z15), (31, z14), (30, z13), (29, z12), (28, z11), (27, z10), (26, z9), (25, z8), (24, z7), (23, z6), (22, z5), (21, z4), (20, z3), (19, z2), (18, z1), (17, z0), (0, y0), (1, y1), (2, y2), (3, y3), (4, y4), (8, y8), (9, y9), (10, y10), (11, y11), (15, y15), (34, y34), (37, y37), (38, y38), (39, y39), (40, y40), (41, y41), (65, y65), (70, y70), (94, y94)] [(0, y0), (1, y1), (2, y2), (3, y3), (4, y4), (8, y8), (9, y9), (10, y10), (11, y11), (15, y15), (34, y34), (37, y37), (38, y38), (39, y39), (40, y40), (41, y41), (65, y65), (70, y70), (94, y94)] = [(0, y0), (1, y1), (2, y2), (3, y3), (4, y4), (8, y8), (9, y9), (10, y10), (11, y11), (15, y15), (34, z17), (37, y37), (38, y38), (39, y39), (40, y40), (41, y41), (65, y65), (70, y70), (94, y94)] := fun y0 y1 y2 y3 y4 y8 y9 y10 y11 y15 y34 y37 y38 y39 y40 y41 y65 y70 y94 z0 z1 z2 z3 z4 z5 z6 z7 z8 z9 z10 z11 z12 z13 z14 z15 z16 z17 => rfl
        refine R_nil (tr _ _ _ _ _ _ _ _ _ _ _ _ _ _ _ _ _ _ _ _ _ _ _ _ _ _ _ _ _ _ _ _ _ _ _ _ _) ?_; clear tr
        refine then_n ?_
        refine cdt ?_
        refine at_seq rfl ?_
        refine rg rfl ?_
        refine Rq ?_
        have tr : ∀ y0 y1 y2 y3 y4 y8 y9 y10 y11 y15 y34 y37 y38 y39 y40 y41 y65 y70 y94 z0 : AV, trim [(8, z0), (0, y0), (1, y1), (2, y2), (3, y3), (4, y4), (8, y8), (9, y9), (10, y10), (11, y11), (15, y15), (34, y34), (37, y37), (38, y38), (39, y39), (40, y40), (41, y41), (65, y65), (70, y70), (94, y94)] [(0, y0), (1, y1), (2, y2), (3, y3), (4, y4), (8, y8), (9, y9), (10, y10), (11, y11), (15, y15), (34, y34), (37, y37), (38, y38), (39, y39), (40, y40), (41, y41), (65, y65), (70, y70), (94, y94)] = [(0, y0), (1, y1), (2, y2), (3, y3), (4, y4), (8, z0), (9, y9), (10, y10), (11, y11), (15, y15), (34, y34), (37, y37), (38, y38), (39, y39), (40, y40), (41, y41), (65, y65), (70, y70), (94, y94)] := fun y0 y1 y2 y3 y4 y8 y9 y10 y11 y15 y34 y37 y38 y39 y40 y41 y65 y70 y94 z0 => rfl
        refine R_nil (tr _ _ _ _ _ _ _ _ _ _ _ _ _ _ _ _ _ _ _ _) ?_; clear tr
        refine then_n ?_
        refine at_ret rfl ?_
        refine then_r ?_
        refine fpure ?_
        refine ⟨?_, rfl⟩
        rw [chkS, if_neg (by omega), if_pos (by unfold chkBad; omega)]
      · try simp only [decide_eq_true_eq, decide_eq_false_iff_not, Bool.not_eq_true', Bool.not_eq_false', beq_iff_eq, beq_eq_false_iff_ne, ne_eq] at h3
        refine Ry ?_
        refine Rq ?_
        refine Ry ?_
        refine Rq ?_
        refine Rq ?_
        refine Rq ?_
        refine Rp_split (fun h4 => ?_) (fun h4 => ?_)
        · try simp only [decide_eq_true_eq, decide_eq_false_iff_not, Bool.not_eq_true', Bool.not_eq_false', beq_iff_eq, beq_eq_false_iff_ne, ne_eq] at h4
          refine Rn ?_
          refine Rn ?_
          refine Rn ?_
          refine Rn ?_
          refine Rn ?_
          refine Rn ?_
          refine Rq ?_
          have tr : ∀ y0 y1 y2 y3 y4 y8 y9 y10 y11 y15 y34 y37 y38 y39 y40 y41 y65 y70 y94 z0 z1 z2 z3 z4 z5 z6 z7 z8 z9 z10 z11 z12 z13 z14 z15 z16 z17 : AV, trim [(34, z17), (33, z16), (32, z15), (31, z14), (30, z13), (29, z12), (28, z11), (27, z10), (26, z9), (25, z8), (24, z7), (23, z6), (22, z5), (21, z4), (20, z3), (19, z2), (18, z1), (17, z0), (0, y0), (1, y1), (2, y2), (3, y3), (4, y4), (8, y8), (9, y9), (10, y10), (11, y11), (15, y15), (34, y34), (37, y37), (38, y38), (39, y39), (40, y40), (41, y41), (65, y65), (70, y70), (94, y94)] [(0, y0), (1, y1), (2, y2), (3, y3), (4, y4), (8, y8), (9, y9), (10, y10), (11, y11), (15, y15), (34, y34), (37, y37), (38, y38), (39, y39), (40, y40), (41, y41), (65, y65), (70, y70), (94, y94)] = [(0, y0), (1, y1), (2, y2), (3, y3), (4, y4), (8, y8), (9, y9), (10, y10), (11, y11), (15, y15), (34, z17), (37, y37), (38, y38), (39, y39), (40, y40), (41, y41), (65, y65), (70, y70), (94, y94)] := fun y0 y1 y2 y3 y4 y8 y9 y10 y11 y15 y34 y37 y38 y39 y40 y41 y65 y70 y94 z0 z1 z2 z3 z4 z5 z6 z7 z8 z9 z10 z11 z12 z13 z14 z15 z16 z17 => rfl
          refine R_nil (tr _ _ _ _ _ _ _ _ _ _ _ _ _ _ _ _ _ _ _ _ _ _ _ _ _ _ _ _ _ _ _ _ _ _ _ _ _) ?_; clear tr
          refine then_n ?_
          refine cdt ?_
          refine at_seq rfl ?_
          refine rg rfl ?_
          refine Rq ?_
          have tr : ∀ y0 y1 y2 y3 y4 y8 y9 y10 y11 y15 y34 y37 y38 y39 y40 y41 y65 y70 y94 z0 : AV, trim [(8, z0), (0, y0), (1, y1), (2, y2), (3, y3), (4, y4), (8, y8), (9, y9), (10, y10), (11, y11), (15, y15), (34, y34), (37, y37), (38, y38), (39, y39), (40, y40), (41, y41), (65, y65), (70, y70), (94, y94)] [(0, y0), (1, y1), (2, y2), (3, y3), (4, y4), (8, y8), (9, y9), (10, y10), (11, y11), (15, y15), (34, y34), (37, y37), (38, y38), (39, y39), (40, y40), (41, y41), (65, y65), (70, y70), (94, y94)] = [(0, y0), (1, y1), (2, y2), (3, y3), (4, y4), (8, z0), (9, y9), (10, y10), (11, y11), (15, y15), (34, y34), (37, y37), (38, y38), (39, y39), (40, y40), (41, y41), (65, y65), (70, y70), (94, y94)] := fun y0 y1 y2 y3 y4 y8 y9 y10 y11 y15 y34 y37 y38 y39 y40 y41 y65 y70 y94 z0 => rfl
          refine R_nil (tr _ _ _ _ _ _ _ _ _ _ _ _ _ _ _ _ _ _ _ _) ?_; clear tr
          refine then_n ?_
          refine at_ret rfl ?_
          refine then_r ?_
          refine fpure ?_
          refine ⟨?_, rfl⟩
          rw [chkS, if_neg (by omega), if_pos (by unfold chkBad; omega)]
        · try simp only [decide_eq_true_eq, decide_eq_false_iff_not, Bool.not_eq_true', Bool.not_eq_false', beq_iff_eq, beq_eq_false_iff_ne, ne_eq] at h4
          refine Ry ?_
          refine Rq ?_
          refine Ry ?_
          refine Rq ?_
          refine Ry ?_
          refine Rcall ?_
          have s := check_shaped (by assumption : checkS rows = 0)
          have g2 := s.two
          have g91 := s.most
          refine ACall_eq (rovers_ok _ _ rows g91 g2) ?_
          have hpm := mul_box (a := (rows.length : Int) - 1) (b := per) (A := 90) (B := 8) (by omega) (by omega) (by omega) (by omega)
          refine Ry ?_
          refine Rq ?_
          refine Ry ?_
          refine Rq ?_
          refine Ry ?_
          refine Rq ?_
          refine Rq ?_
          have tr : ∀ y0 y1 y2 y3 y4 y8 y9 y10 y11 y15 y34 y37 y38 y39 y40 y41 y65 y70 y94 z0 z1 z2 z3 z4 z5 z6 z7 z8 z9 z10 z11 z12 z13 z14 z15 z16 z17 : AV, trim [(34, z17), (33, z16), (32, z15), (31, z14), (30, z13), (29, z12), (28, z11), (27, z10), (26, z9), (25, z8), (24, z7), (23, z6), (22, z5), (21, z4), (20, z3), (19, z2), (18, z1), (17, z0), (0, y0), (1, y1), (2, y2), (3, y3), (4, y4), (8, y8), (9, y9), (10, y10), (11, y11), (15, y15), (34, y34), (37, y37), (38, y38), (39, y39), (40, y40), (41, y41), (65, y65), (70, y70), (94, y94)] [(0, y0), (1, y1), (2, y2), (3, y3), (4, y4), (8, y8), (9, y9), (10, y10), (11, y11), (15, y15), (34, y34), (37, y37), (38, y38), (39, y39), (40, y40), (41, y41), (65, y65), (70, y70), (94, y94)] = [(0, y0), (1, y1), (2, y2), (3, y3), (4, y4), (8, y8), (9, y9), (10, y10), (11, y11), (15, y15), (34, z17), (37, y37), (38, y38), (39, y39), (40, y40), (41, y41), (65, y65), (70, y70), (94, y94)] := fun y0 y1 y2 y3 y4 y8 y9 y10 y11 y15 y34 y37 y38 y39 y40 y41 y65 y70 y94 z0 z1 z2 z3 z4 z5 z6 z7 z8 z9 z10 z11 z12 z13 z14 z15 z16 z17 => rfl
          refine R_nil (tr _ _ _ _ _ _ _ _ _ _ _ _ _ _ _ _ _ _ _ _ _ _ _ _ _ _ _ _ _ _ _ _ _ _ _ _ _) ?_; clear tr
          refine then_n ?_
          refine cdd (fun h5 => ?_) (fun h5 => ?_)
          · try simp only [decide_eq_true_eq, decide_eq_false_iff_not, Bool.not_eq_true', Bool.not_eq_false', beq_iff_eq, beq_eq_false_iff_ne, ne_eq] at h5
            refine at_seq rfl ?_
            refine rg rfl ?_
            refine Rq ?_
            have tr : ∀ y0 y1 y2 y3 y4 y8 y9 y10 y11 y15 y34 y37 y38 y39 y40 y41 y65 y70 y94 z0 : AV, trim [(8, z0), (0, y0), (1, y1), (2, y2), (3, y3), (4, y4), (8, y8), (9, y9), (10, y10), (11, y11), (15, y15), (34, y34), (37, y37), (38, y38), (39, y39), (40, y40), (41, y41), (65, y65), (70, y70), (94, y94)] [(0, y0), (1, y1), (2, y2), (3, y3), (4, y4), (8, y8), (9, y9), (10, y10), (11, y11), (15, y15), (34, y34), (37, y37), (38, y38), (39, y39), (40, y40), (41, y41), (65, y65), (70, y70), (94, y94)] = [(0, y0), (1, y1), (2, y2), (3, y3), (4, y4), (8, z0), (9, y9), (10, y10), (11, y11), (15, y15), (34, y34), (37, y37), (38, y38), (39, y39), (40, y40), (41, y41), (65, y65), (70, y70), (94, y94)] := fun y0 y1 y2 y3 y4 y8 y9 y10 y11 y15 y34 y37 y38 y39 y40 y41 y65 y70 y94 z0 => rfl
            refine R_nil (tr _ _ _ _ _ _ _ _ _ _ _ _ _ _ _ _ _ _ _ _) ?_; clear tr
            refine then_n ?_
            refine at_ret rfl ?_
            refine then_r ?_
            refine fpure ?_
            refine ⟨?_, rfl⟩
            rw [chkS, if_neg (by omega), if_pos (by unfold chkBad; omega)]
          · try simp only [decide_eq_true_eq, decide_eq_false_iff_not, Bool.not_eq_true', Bool.not_eq_false', beq_iff_eq, beq_eq_false_iff_ne, ne_eq] at h5
            refine at_skip rfl ?_
            refine then_n ?_
            refine at_seq rfl ?_
            refine at_seq rfl ?_
            refine rg rfl ?_
            refine Rq ?_
            refine Rq ?_
            refine Rq ?_
            have tr : ∀ y0 y1 y2 y3 y4 y8 y9 y10 y11 y15 y34 y37 y38 y39 y40 y41 y65 y70 y94 z0 z1 z2 : AV, trim [(37, z2), (36, z1), (35, z0), (0, y0), (1, y1), (2, y2), (3, y3), (4, y4), (8, y8), (9, y9), (10, y10), (11, y11), (15, y15), (34, y34), (37, y37), (38, y38), (39, y39), (40, y40), (41, y41), (65, y65), (70, y70), (94, y94)] [(0, y0), (1, y1), (2, y2), (3, y3), (4, y4), (8, y8), (9, y9), (10, y10), (11, y11), (15, y15), (34, y34), (37, y37), (38, y38), (39, y39), (40, y40), (41, y41), (65, y65), (70, y70), (94, y94)] = [(0, y0), (1, y1), (2, y2), (3, y3), (4, y4), (8, y8), (9, y9), (10, y10), (11, y11), (15, y15), (34, y34), (37, z2), (38, y38), (39, y39), (40, y40), (41, y41), (65, y65), (70, y70), (94, y94)] := fun y0 y1 y2 y3 y4 y8 y9 y10 y11 y15 y34 y37 y38 y39 y40 y41 y65 y70 y94 z0 z1 z2 => rfl
            refine R_nil (tr _ _ _ _ _ _ _ _ _ _ _ _ _ _ _ _ _ _ _ _ _ _) ?_; clear tr
            refine then_n ?_
            refine cdd (fun h6 => ?_) (fun h6 => ?_)
            · try simp only [decide_eq_true_eq, decide_eq_false_iff_not, Bool.not_eq_true', Bool.not_eq_false', beq_iff_eq, beq_eq_false_iff_ne, ne_eq] at h6
              refine at_seq rfl ?_
              refine rg rfl ?_
              refine Rq ?_
              have tr : ∀ y0 y1 y2 y3 y4 y8 y9 y10 y11 y15 y34 y37 y38 y39 y40 y41 y65 y70 y94 z0 : AV, trim [(8, z0), (0, y0), (1, y1), (2, y2), (3, y3), (4, y4), (8, y8), (9, y9), (10, y10), (11, y11), (15, y15), (34, y34), (37, y37), (38, y38), (39, y39), (40, y40), (41, y41), (65, y65), (70, y70), (94, y94)] [(0, y0), (1, y1), (2, y2), (3, y3), (4, y4), (8, y8), (9, y9), (10, y10), (11, y11), (15, y15), (34, y34), (37, y37), (38, y38), (39, y39), (40, y40), (41, y41), (65, y65), (70, y70), (94, y94)] = [(0, y0), (1, y1), (2, y2), (3, y3), (4, y4), (8, z0), (9, y9), (10, y10), (11, y11), (15, y15), (34, y34), (37, y37), (38, y38), (39, y39), (40, y40), (41, y41), (65, y65), (70, y70), (94, y94)] := fun y0 y1 y2 y3 y4 y8 y9 y10 y11 y15 y34 y37 y38 y39 y40 y41 y65 y70 y94 z0 => rfl
              refine R_nil (tr _ _ _ _ _ _ _ _ _ _ _ _ _ _ _ _ _ _ _ _) ?_; clear tr
              refine then_n ?_
              refine at_ret rfl ?_
              refine then_r ?_
              refine fpure ?_
              refine ⟨?_, rfl⟩
              rw [chkS, if_neg (by omega), if_neg (by unfold chkBad; omega), if_pos (by omega)]
            · try simp only [decide_eq_true_eq, decide_eq_false_iff_not, Bool.not_eq_true', Bool.not_eq_false', beq_iff_eq, beq_eq_false_iff_ne, ne_eq] at h6
              refine at_skip rfl ?_
              refine then_n ?_
              refine at_seq rfl ?_
              refine at_seq rfl ?_
              refine rg rfl ?_
              refine Rq ?_
              refine Rq ?_
              refine Rq ?_
              have tr : ∀ y0 y1 y2 y3 y4 y8 y9 y10 y11 y15 y34 y37 y38 y39 y40 y41 y65 y70 y94 z0 z1 z2 : AV, trim [(40, z2), (39, z1), (38, z0), (0, y0), (1, y1), (2, y2), (3, y3), (4, y4), (8, y8), (9, y9), (10, y10), (11, y11), (15, y15), (34, y34), (37, y37), (38, y38), (39, y39), (40, y40), (41, y41), (65, y65), (70, y70), (94, y94)] [(0, y0), (1, y1), (2, y2), (3, y3), (4, y4), (8, y8), (9, y9), (10, y10), (11, y11), (15, y15), (34, y34), (37, y37), (38, y38), (39, y39), (40, y40), (41, y41), (65, y65), (70, y70), (94, y94)] = [(0, y0), (1, y1), (2, y2), (3, y3), (4, y4), (8, y8), (9, y9), (10, y10), (11, y11), (15, y15), (34, y34), (37, y37), (38, z0), (39, z1), (40, z2), (41, y41), (65, y65), (70, y70), (94, y94)] := fun y0 y1 y2 y3 y4 y8 y9 y10 y11 y15 y34 y37 y38 y39 y40 y41 y65 y70 y94 z0 z1 z2 => rfl
              refine R_nil (tr _ _ _ _ _ _ _ _ _ _ _ _ _ _ _ _ _ _ _ _ _ _) ?_; clear tr
              refine then_n ?_
              refine at_block rfl ?_
              refine loop_n rfl (fun mm kv H' => ∃ u : Nat, ∃ X : Heap, ∃ x8 x10 x11 x41 x65 x70 x94 : AV, (kv = [(8, x8), (10, x10), (11, x11), (40, AV.i u), (41, x41), (65, x65), (70, x70), (94, x94)]) ∧ (mm = l.length - u) ∧ (H' = H ++ [some [rowsAV rows]] ++ X) ∧ (u ≤ l.length) ∧ (ferr (stopErr rows balls l) u = 0)) ⟨0, [], _, _, _, _, _, _, _, rfl, rfl, by simp, by omega, by rfl⟩ (by rfl) ?_
              rintro mm kv H1 ⟨u, X, x8, x10, x11, x41, x65, x70, x94, rfl, rfl, hX, hu, hz⟩
              have tr : ∀ y0 y1 y2 y3 y4 y8 y9 y10 y11 y15 y34 y37 y38 y39 y40 y41 y65 y70 y94 z8 z10 z11 z40 z41 z65 z70 z94 : AV, upd [(0, y0), (1, y1), (2, y2), (3, y3), (4, y4), (8, y8), (9, y9), (10, y10), (11, y11), (15, y15), (34, y34), (37, y37), (38, y38), (39, y39), (40, y40), (41, y41), (65, y65), (70, y70), (94, y94)] [(8, z8), (10, z10), (11, z11), (40, z40), (41, z41), (65, z65), (70, z70), (94, z94)] = [(0, y0), (1, y1), (2, y2), (3, y3), (4, y4), (8, z8), (9, y9), (10, z10), (11, z11), (15, y15), (34, y34), (37, y37), (38, y38), (39, y39), (40, z40), (41, z41), (65, z65), (70, z70), (94, z94)] := fun y0 y1 y2 y3 y4 y8 y9 y10 y11 y15 y34 y37 y38 y39 y40 y41 y65 y70 y94 z8 z10 z11 z40 z41 z65 z70 z94 => rfl
              refine W_to (tr _ _ _ _ _ _ _ _ _ _ _ _ _ _ _ _ _ _ _ _ _ _ _ _ _ _ _) ?_; clear tr
              subst hX
              refine at_seq rfl ?_
              refine rg rfl ?_
              refine Rq ?_
              have tr : ∀ y0 y1 y2 y3 y4 y8 y9 y10 y11 y15 y34 y37 y38 y39 y40 y41 y65 y70 y94 z0 : AV, trim [(41, z0), (0, y0), (1, y1), (2, y2), (3, y3), (4, y4), (8, y8), (9, y9), (10, y10), (11, y11), (15, y15), (34, y34), (37, y37), (38, y38), (39, y39), (40, y40), (41, y41), (65, y65), (70, y70), (94, y94)] [(0, y0), (1, y1), (2, y2), (3, y3), (4, y4), (8, y8), (9, y9), (10, y10), (11, y11), (15, y15), (34, y34), (37, y37), (38, y38), (39, y39), (40, y40), (41, y41), (65, y65), (70, y70), (94, y94)] = [(0, y0), (1, y1), (2, y2), (3, y3), (4, y4), (8, y8), (9, y9), (10, y10), (11, y11), (15, y15), (34, y34), (37, y37), (38, y38), (39, y39), (40, y40), (41, z0), (65, y65), (70, y70), (94, y94)] := fun y0 y1 y2 y3 y4 y8 y9 y10 y11 y15 y34 y37 y38 y39 y40 y41 y65 y70 y94 z0 => rfl
              refine R_nil (tr _ _ _ _ _ _ _ _ _ _ _ _ _ _ _ _ _ _ _ _) ?_; clear tr
              refine then_n ?_
              refine at_seq rfl ?_
              refine cdd (fun h7 => ?_) (fun h7 => ?_)
              · try simp only [decide_eq_true_eq, decide_eq_false_iff_not, Bool.not_eq_true', Bool.not_eq_false', beq_iff_eq, beq_eq_false_iff_ne, ne_eq] at h7
                refine at_skip rfl ?_
                refine then_n ?_
                refine at_seq rfl ?_
                refine at_block rfl ?_
                refine at_seq rfl ?_
                refine rg rfl ?_
                refine Rq ?_
                refine Rq ?_
                refine Rq ?_
                refine R_alloc (by simp (disch := first | omega | (simp only [List.length_map, List.length_append, List.length_set, List.length_cons, List.length_nil, List.length_take, List.length_drop]; omega)) only [go_sem, ↓reduceIte, Nat.reduceEqDiff, reduceCtorEq]; rfl) rfl (by simp only [List.map_cons, List.map_nil]; rfl) ?_
                refine Rq ?_
                refine R_store ty56 (by simp (disch := first | omega | (simp only [List.length_map, List.length_append, List.length_set, List.length_cons, List.length_nil, List.length_take, List.length_drop]; omega)) only [go_sem, ↓reduceIte, Nat.reduceEqDiff, reduceCtorEq]; rfl) (by simp (disch := first | omega | (simp only [List.length_map, List.length_append, List.length_set, List.length_cons, List.length_nil, List.length_take, List.length_drop]; omega)) only [go_sem, ↓reduceIte, Nat.reduceEqDiff, reduceCtorEq]; rfl) (by simp (disch := first | omega | (simp only [List.length_map, List.length_append, List.length_set, List.length_cons, List.length_nil, List.length_take, List.length_drop]; omega)) only [go_sem, ↓reduceIte, Nat.reduceEqDiff, reduceCtorEq]; rfl) (by simp) (by rfl) (by simp (disch := first | omega | (simp only [List.length_map, List.length_append, List.length_set, List.length_cons, List.length_nil, List.length_take, List.length_drop]; omega)) only [go_sem, ↓reduceIte, Nat.reduceEqDiff, reduceCtorEq]; rfl) ?_
                have tr : ∀ y0 y1 y2 y3 y4 y8 y9 y10 y11 y15 y34 y37 y38 y39 y40 y41 y65 y70 y94 z0 z1 z2 z3 z4 : AV, trim [(10, z4), (11, z3), (44, z2), (43, z1), (42, z0), (0, y0), (1, y1), (2, y2), (3, y3), (4, y4), (8, y8), (9, y9), (10, y10), (11, y11), (15, y15), (34, y34), (37, y37), (38, y38), (39, y39), (40, y40), (41, y41), (65, y65), (70, y70), (94, y94)] [(0, y0), (1, y1), (2, y2), (3, y3), (4, y4), (8, y8), (9, y9), (10, y10), (11, y11), (15, y15), (34, y34), (37, y37), (38, y38), (39, y39), (40, y40), (41, y41), (65, y65), (70, y70), (94, y94)] = [(0, y0), (1, y1), (2, y2), (3, y3), (4, y4), (8, y8), (9, y9), (10, z4), (11, z3), (15, y15), (34, y34), (37, y37), (38, y38), (39, y39), (40, y40), (41, y41), (65, y65), (70, y70), (94, y94)] := fun y0 y1 y2 y3 y4 y8 y9 y10 y11 y15 y34 y37 y38 y39 y40 y41 y65 y70 y94 z0 z1 z2 z3 z4 => rfl
                refine R_nil (tr _ _ _ _ _ _ _ _ _ _ _ _ _ _ _ _ _ _ _ _ _ _ _ _) ?_; clear tr
                refine then_n ?_
                refine at_seq rfl ?_
                refine at_seq rfl ?_
                refine rd rfl rfl ?_
                refine Qq ?_
                refine Qq ?_
                refine Qq ?_
                refine Qq ?_
                refine Qq ?_
                refine Qp_split (fun h8 => ?_) (fun h8 => ?_)
                · try simp only [decide_eq_true_eq, decide_eq_false_iff_not, Bool.not_eq_true', Bool.not_eq_false', beq_iff_eq, beq_eq_false_iff_ne, ne_eq] at h8
                  refine Qn ?_
                  refine Qn ?_
                  refine Qn ?_
                  refine Qq ?_
                  refine Qq ?_
                  refine Qn ?_
                  refine Qn ?_
                  refine Qn ?_
                  refine Qq ?_
                  refine Qq ?_
                  refine Qn ?_
                  refine Qn ?_
                  refine Qn ?_
                  refine Qn ?_
                  refine Qn ?_
                  refine Qq ?_
                  refine Q_nil ?_
                  have tr : ∀ y0 y1 y2 y3 y4 y8 y9 y10 y11 y15 y34 y37 y38 y39 y40 y41 y65 y70 y94 z0 z1 z2 z3 z4 z5 z6 z7 z8 z9 z10 z11 z12 z13 z14 z15 z16 z17 z18 z19 z20 : AV, trim [(65, z20), (64, z19), (63, z18), (62, z17), (61, z16), (60, z15), (59, z14), (58, z13), (57, z12), (56, z11), (55, z10), (54, z9), (53, z8), (52, z7), (51, z6), (50, z5), (49, z4), (48, z3), (47, z2), (46, z1), (45, z0), (0, y0), (1, y1), (2, y2), (3, y3), (4, y4), (8, y8), (9, y9), (10, y10), (11, y11), (15, y15), (34, y34), (37, y37), (38, y38), (39, y39), (40, y40), (41, y41), (65, y65), (70, y70), (94, y94)] [(0, y0), (1, y1), (2, y2), (3, y3), (4, y4), (8, y8), (9, y9), (10, y10), (11, y11), (15, y15), (34, y34), (37, y37), (38, y38), (39, y39), (40, y40), (41, y41), (65, y65), (70, y70), (94, y94)] = [(0, y0), (1, y1), (2, y2), (3, y3), (4, y4), (8, y8), (9, y9), (10, y10), (11, y11), (15, y15), (34, y34), (37, y37), (38, y38), (39, y39), (40, y40), (41, y41), (65, z20), (70, y70), (94, y94)] := fun y0 y1 y2 y3 y4 y8 y9 y10 y11 y15 y34 y37 y38 y39 y40 y41 y65 y70 y94 z0 z1 z2 z3 z4 z5 z6 z7 z8 z9 z10 z11 z12 z13 z14 z15 z16 z17 z18 z19 z20 => rfl
                  refine R_nil (tr _ _ _ _ _ _ _ _ _ _ _ _ _ _ _ _ _ _ _ _ _ _ _ _ _ _ _ _ _ _ _ _ _ _ _ _ _ _ _ _) ?_; clear tr
                  refine then_n ?_
                  refine cdt ?_
                  refine at_seq rfl ?_
                  refine rg rfl ?_
                  refine Rq ?_
                  have tr : ∀ y0 y1 y2 y3 y4 y8 y9 y10 y11 y15 y34 y37 y38 y39 y40 y41 y65 y70 y94 z0 : AV, trim [(8, z0), (0, y0), (1, y1), (2, y2), (3, y3), (4, y4), (8, y8), (9, y9), (10, y10), (11, y11), (15, y15), (34, y34), (37, y37), (38, y38), (39, y39), (40, y40), (41, y41), (65, y65), (70, y70), (94, y94)] [(0, y0), (1, y1), (2, y2), (3, y3), (4, y4), (8, y8), (9, y9), (10, y10), (11, y11), (15, y15), (34, y34), (37, y37), (38, y38), (39, y39), (40, y40), (41, y41), (65, y65), (70, y70), (94, y94)] = [(0, y0), (1, y1), (2, y2), (3, y3), (4, y4), (8, z0), (9, y9), (10, y10), (11, y11), (15, y15), (34, y34), (37, y37), (38, y38), (39, y39), (40, y40), (41, y41), (65, y65), (70, y70), (94, y94)] := fun y0 y1 y2 y3 y4 y8 y9 y10 y11 y15 y34 y37 y38 y39 y40 y41 y65 y70 y94 z0 => rfl
                  refine R_nil (tr _ _ _ _ _ _ _ _ _ _ _ _ _ _ _ _ _ _ _ _) ?_; clear tr
                  refine then_n ?_
                  refine at_ret rfl ?_
                  refine then_r ?_
                  refine blk_r ?_
                  refine then_r ?_
                  refine then_r ?_
                  refine blk_r ?_
                  refine then_r ?_
                  refine fpure ?_
                  refine ⟨?_, rfl⟩
                  have hse : stopErr rows balls l u = 2 := by unfold stopErr; rw [if_pos (by omega)]
                  rw [chkS, if_neg (by omega), if_neg (by unfold chkBad; omega), if_neg (by omega), ferr_at hz (by omega) _ (by omega), hse]
                · try simp only [decide_eq_true_eq, decide_eq_false_iff_not, Bool.not_eq_true', Bool.not_eq_false', beq_iff_eq, beq_eq_false_iff_ne, ne_eq] at h8
                  refine Qy ?_
                  refine Qq ?_
                  refine Qy ?_
                  refine Qq ?_
                  refine Qy ?_
                  refine Qq ?_
                  refine Qq ?_
                  refine Qq ?_
                  refine Qp_split (fun h9 => ?_) (fun h9 => ?_)
                  · try simp only [decide_eq_true_eq, decide_eq_false_iff_not, Bool.not_eq_true', Bool.not_eq_false', beq_iff_eq, beq_eq_false_iff_ne, ne_eq] at h9
                    refine Qn ?_
                    refine Qn ?_
                    refine Qn ?_
                    refine Qq ?_
                    refine Qq ?_
                    refine Qn ?_
                    refine Qn ?_
                    refine Qn ?_
                    refine Qn ?_
                    refine Qn ?_
                    refine Qq ?_
                    refine Q_nil ?_
                    have tr : ∀ y0 y1 y2 y3 y4 y8 y9 y10 y11 y15 y34 y37 y38 y39 y40 y41 y65 y70 y94 z0 z1 z2 z3 z4 z5 z6 z7 z8 z9 z10 z11 z12 z13 z14 z15 z16 z17 z18 z19 z20 : AV, trim [(65, z20), (64, z19), (63, z18), (62, z17), (61, z16), (60, z15), (59, z14), (58, z13), (57, z12), (56, z11), (55, z10), (54, z9), (53, z8), (52, z7), (51, z6), (50, z5), (49, z4), (48, z3), (47, z2), (46, z1), (45, z0), (0, y0), (1, y1), (2, y2), (3, y3), (4, y4), (8, y8), (9, y9), (10, y10), (11, y11), (15, y15), (34, y34), (37, y37), (38, y38), (39, y39), (40, y40), (41, y41), (65, y65), (70, y70), (94, y94)] [(0, y0), (1, y1), (2, y2), (3, y3), (4, y4), (8, y8), (9, y9), (10, y10), (11, y11), (15, y15), (34, y34), (37, y37), (38, y38), (39, y39), (40, y40), (41, y41), (65, y65), (70, y70), (94, y94)] = [(0, y0), (1, y1), (2, y2), (3, y3), (4, y4), (8, y8), (9, y9), (10, y10), (11, y11), (15, y15), (34, y34), (37, y37), (38, y38), (39, y39), (40, y40), (41, y41), (65, z20), (70, y70), (94, y94)] := fun y0 y1 y2 y3 y4 y8 y9 y10 y11 y15 y34 y37 y38 y39 y40 y41 y65 y70 y94 z0 z1 z2 z3 z4 z5 z6 z7 z8 z9 z10 z11 z12 z13 z14 z15 z16 z17 z18 z19 z20 => rfl
                    refine R_nil (tr _ _ _ _ _ _ _ _ _ _ _ _ _ _ _ _ _ _ _ _ _ _ _ _ _ _ _ _ _ _ _ _ _ _ _ _ _ _ _ _) ?_; clear tr
                    refine then_n ?_
                    refine cdt ?_
                    refine at_seq rfl ?_
                    refine rg rfl ?_
                    refine Rq ?_
                    have tr : ∀ y0 y1 y2 y3 y4 y8 y9 y10 y11 y15 y34 y37 y38 y39 y40 y41 y65 y70 y94 z0 : AV, trim [(8, z0), (0, y0), (1, y1), (2, y2), (3, y3), (4, y4), (8, y8), (9, y9), (10, y10), (11, y11), (15, y15), (34, y34), (37, y37), (38, y38), (39, y39), (40, y40), (41, y41), (65, y65), (70, y70), (94, y94)] [(0, y0), (1, y1), (2, y2), (3, y3), (4, y4), (8, y8), (9, y9), (10, y10), (11, y11), (15, y15), (34, y34), (37, y37), (38, y38), (39, y39), (40, y40), (41, y41), (65, y65), (70, y70), (94, y94)] = [(0, y0), (1, y1), (2, y2), (3, y3), (4, y4), (8, z0), (9, y9), (10, y10), (11, y11), (15, y15), (34, y34), (37, y37), (38, y38), (39, y39), (40, y40), (41, y41), (65, y65), (70, y70), (94, y94)] := fun y0 y1 y2 y3 y4 y8 y9 y10 y11 y15 y34 y37 y38 y39 y40 y41 y65 y70 y94 z0 => rfl
                    refine R_nil (tr _ _ _ _ _ _ _ _ _ _ _ _ _ _ _ _ _ _ _ _) ?_; clear tr
                    refine then_n ?_
                    refine at_ret rfl ?_
                    refine then_r ?_
                    refine blk_r ?_
                    refine then_r ?_
                    refine then_r ?_
                    refine blk_r ?_
                    refine then_r ?_
                    refine fpure ?_
                    refine ⟨?_, rfl⟩
                    have hse : stopErr rows balls l u = 2 := by unfold stopErr; rw [if_pos (by omega)]
                    rw [chkS, if_neg (by omega), if_neg (by unfold chkBad; omega), if_neg (by omega), ferr_at hz (by omega) _ (by omega), hse]
                  · try simp only [decide_eq_true_eq, decide_eq_false_iff_not, Bool.not_eq_true', Bool.not_eq_false', beq_iff_eq, beq_eq_false_iff_ne, ne_eq] at h9
                    refine Qy ?_
                    refine Qq ?_
                    refine Qy ?_
                    refine Qq ?_
                    refine Qy ?_
                    refine Qq ?_
                    refine Qq ?_
                    refine Qq ?_
                    refine Qp_split (fun h10 => ?_) (fun h10 => ?_)
                    · try simp only [decide_eq_true_eq, decide_eq_false_iff_not, Bool.not_eq_true', Bool.not_eq_false', beq_iff_eq, beq_eq_false_iff_ne, ne_eq] at h10
                      refine Qn ?_
                      refine Qn ?_
                      refine Qn ?_
                      refine Qn ?_
                      refine Qn ?_
                      refine Qq ?_
                      refine Q_nil ?_
                      have tr : ∀ y0 y1 y2 y3 y4 y8 y9 y10 y11 y15 y34 y37 y38 y39 y40 y41 y65 y70 y94 z0 z1 z2 z3 z4 z5 z6 z7 z8 z9 z10 z11 z12 z13 z14 z15 z16 z17 z18 z19 z20 : AV, trim [(65, z20), (64, z19), (63, z18), (62, z17), (61, z16), (60, z15), (59, z14), (58, z13), (57, z12), (56, z11), (55, z10), (54, z9), (53, z8), (52, z7), (51, z6), (50, z5), (49, z4), (48, z3), (47, z2), (46, z1), (45, z0), (0, y0), (1, y1), (2, y2), (3, y3), (4, y4), (8, y8), (9, y9), (10, y10), (11, y11), (15, y15), (34, y34), (37, y37), (38, y38), (39, y39), (40, y40), (41, y41), (65, y65), (70, y70), (94, y94)] [(0, y0), (1, y1), (2, y2), (3, y3), (4, y4), (8, y8), (9, y9), (10, y10), (11, y11), (15, y15), (34, y34), (37, y37), (38, y38), (39, y39), (40, y40), (41, y41), (65, y65), (70, y70), (94, y94)] = [(0, y0), (1, y1), (2, y2), (3, y3), (4, y4), (8, y8), (9, y9), (10, y10), (11, y11), (15, y15), (34, y34), (37, y37), (38, y38), (39, y39), (40, y40), (41, y41), (65, z20), (70, y70), (94, y94)] := fun y0 y1 y2 y3 y4 y8 y9 y10 y11 y15 y34 y37 y38 y39 y40 y41 y65 y70 y94 z0 z1 z2 z3 z4 z5 z6 z7 z8 z9 z10 z11 z12 z13 z14 z15 z16 z17 z18 z19 z20 => rfl
                      refine R_nil (tr _ _ _ _ _ _ _ _ _ _ _ _ _ _ _ _ _ _ _ _ _ _ _ _ _ _ _ _ _ _ _ _ _ _ _ _ _ _ _ _) ?_; clear tr
                      refine then_n ?_
                      refine cdt ?_
                      refine at_seq rfl ?_
                      refine rg rfl ?_
                      refine Rq ?_
                      have tr : ∀ y0 y1 y2 y3 y4 y8 y9 y10 y11 y15 y34 y37 y38 y39 y40 y41 y65 y70 y94 z0 : AV, trim [(8, z0), (0, y0), (1, y1), (2, y2), (3, y3), (4, y4), (8, y8), (9, y9), (10, y10), (11, y11), (15, y15), (34, y34), (37, y37), (38, y38), (39, y39), (40, y40), (41, y41), (65, y65), (70, y70), (94, y94)] [(0, y0), (1, y1), (2, y2), (3, y3), (4, y4), (8, y8), (9, y9), (10, y10), (11, y11), (15, y15), (34, y34), (37, y37), (38, y38), (39, y39), (40, y40), (41, y41), (65, y65), (70, y70), (94, y94)] = [(0, y0), (1, y1), (2, y2), (3, y3), (4, y4), (8, z0), (9, y9), (10, y10), (11, y11), (15, y15), (34, y34), (37, y37), (38, y38), (39, y39), (40, y40), (41, y41), (65, y65), (70, y70), (94, y94)] := fun y0 y1 y2 y3 y4 y8 y9 y10 y11 y15 y34 y37 y38 y39 y40 y41 y65 y70 y94 z0 => rfl
                      refine R_nil (tr _ _ _ _ _ _ _ _ _ _ _ _ _ _ _ _ _ _ _ _) ?_; clear tr
                      refine then_n ?_
                      refine at_ret rfl ?_
                      refine then_r ?_
                      refine blk_r ?_
                      refine then_r ?_
                      refine then_r ?_
                      refine blk_r ?_
                      refine then_r ?_
                      refine fpure ?_
                      refine ⟨?_, rfl⟩
                      have hse : stopErr rows balls l u = 2 := by unfold stopErr; rw [if_pos (by omega)]
                      rw [chkS, if_neg (by omega), if_neg (by unfold chkBad; omega), if_neg (by omega), ferr_at hz (by omega) _ (by omega), hse]
                    · try simp only [decide_eq_true_eq, decide_eq_false_iff_not, Bool.not_eq_true', Bool.not_eq_false', beq_iff_eq, beq_eq_false_iff_ne, ne_eq] at h10
                      refine Qy ?_
                      refine Qq ?_
                      refine Qy ?_
                      refine Qq ?_
                      refine Qy ?_
                      refine Qq ?_
                      refine Qy ?_
                      refine Qcall ?_
                      have s := check_shaped (by assumption : checkS rows = 0)
                      have g2 := s.two
                      refine ACall_eq (rwickets_ok _ _ rows g2) ⟨rfl, ?_⟩
                      refine Qy ?_
                      refine Qq ?_
                      refine Qq ?_
                      refine Q_nil ?_
                      have tr : ∀ y0 y1 y2 y3 y4 y8 y9 y10 y11 y15 y34 y37 y38 y39 y40 y41 y65 y70 y94 z0 z1 z2 z3 z4 z5 z6 z7 z8 z9 z10 z11 z12 z13 z14 z15 z16 z17 z18 z19 z20 : AV, trim [(65, z20), (64, z19), (63, z18), (62, z17), (61, z16), (60, z15), (59, z14), (58, z13), (57, z12), (56, z11), (55, z10), (54, z9), (53, z8), (52, z7), (51, z6), (50, z5), (49, z4), (48, z3), (47, z2), (46, z1), (45, z0), (0, y0), (1, y1), (2, y2), (3, y3), (4, y4), (8, y8), (9, y9), (10, y10), (11, y11), (15, y15), (34, y34), (37, y37), (38, y38), (39, y39), (40, y40), (41, y41), (65, y65), (70, y70), (94, y94)] [(0, y0), (1, y1), (2, y2), (3, y3), (4, y4), (8, y8), (9, y9), (10, y10), (11, y11), (15, y15), (34, y34), (37, y37), (38, y38), (39, y39), (40, y40), (41, y41), (65, y65), (70, y70), (94, y94)] = [(0, y0), (1, y1), (2, y2), (3, y3), (4, y4), (8, y8), (9, y9), (10, y10), (11, y11), (15, y15), (34, y34), (37, y37), (38, y38), (39, y39), (40, y40), (41, y41), (65, z20), (70, y70), (94, y94)] := fun y0 y1 y2 y3 y4 y8 y9 y10 y11 y15 y34 y37 y38 y39 y40 y41 y65 y70 y94 z0 z1 z2 z3 z4 z5 z6 z7 z8 z9 z10 z11 z12 z13 z14 z15 z16 z17 z18 z19 z20 => rfl
                      refine R_nil (tr _ _ _ _ _ _ _ _ _ _ _ _ _ _ _ _ _ _ _ _ _ _ _ _ _ _ _ _ _ _ _ _ _ _ _ _ _ _ _ _) ?_; clear tr
                      refine then_n ?_
                      refine cdd (fun h11 => ?_) (fun h11 => ?_)
                      · try simp only [decide_eq_true_eq, decide_eq_false_iff_not, Bool.not_eq_true', Bool.not_eq_false', beq_iff_eq, beq_eq_false_iff_ne, ne_eq] at h11
                        refine at_seq rfl ?_
                        refine rg rfl ?_
                        refine Rq ?_
                        have tr : ∀ y0 y1 y2 y3 y4 y8 y9 y10 y11 y15 y34 y37 y38 y39 y40 y41 y65 y70 y94 z0 : AV, trim [(8, z0), (0, y0), (1, y1), (2, y2), (3, y3), (4, y4), (8, y8), (9, y9), (10, y10), (11, y11), (15, y15), (34, y34), (37, y37), (38, y38), (39, y39), (40, y40), (41, y41), (65, y65), (70, y70), (94, y94)] [(0, y0), (1, y1), (2, y2), (3, y3), (4, y4), (8, y8), (9, y9), (10, y10), (11, y11), (15, y15), (34, y34), (37, y37), (38, y38), (39, y39), (40, y40), (41, y41), (65, y65), (70, y70), (94, y94)] = [(0, y0), (1, y1), (2, y2), (3, y3), (4, y4), (8, z0), (9, y9), (10, y10), (11, y11), (15, y15), (34, y34), (37, y37), (38, y38), (39, y39), (40, y40), (41, y41), (65, y65), (70, y70), (94, y94)] := fun y0 y1 y2 y3 y4 y8 y9 y10 y11 y15 y34 y37 y38 y39 y40 y41 y65 y70 y94 z0 => rfl
                        refine R_nil (tr _ _ _ _ _ _ _ _ _ _ _ _ _ _ _ _ _ _ _ _) ?_; clear tr
                        refine then_n ?_
                        refine at_ret rfl ?_
                        refine then_r ?_
                        refine blk_r ?_
                        refine then_r ?_
                        refine then_r ?_
                        refine blk_r ?_
                        refine then_r ?_
                        refine fpure ?_
                        refine ⟨?_, rfl⟩
                        have hse : stopErr rows balls l u = 2 := by unfold stopErr; rw [if_pos (by omega)]
                        rw [chkS, if_neg (by omega), if_neg (by unfold chkBad; omega), if_neg (by omega), ferr_at hz (by omega) _ (by omega), hse]
                      · try simp only [decide_eq_true_eq, decide_eq_false_iff_not, Bool.not_eq_true', Bool.not_eq_false', beq_iff_eq, beq_eq_false_iff_ne, ne_eq] at h11
                        refine at_skip rfl ?_
                        refine then_n ?_
                        refine at_seq rfl ?_
                        refine at_seq rfl ?_
                        refine rg rfl ?_
                        refine Rq ?_
                        refine Rq ?_
                        refine Rq ?_
                        refine Rq ?_
                        refine Rq ?_
                        have tr : ∀ y0 y1 y2 y3 y4 y8 y9 y10 y11 y15 y34 y37 y38 y39 y40 y41 y65 y70 y94 z0 z1 z2 z3 z4 : AV, trim [(70, z4), (69, z3), (68, z2), (67, z1), (66, z0), (0, y0), (1, y1), (2, y2), (3, y3), (4, y4), (8, y8), (9, y9), (10, y10), (11, y11), (15, y15), (34, y34), (37, y37), (38, y38), (39, y39), (40, y40), (41, y41), (65, y65), (70, y70), (94, y94)] [(0, y0), (1, y1), (2, y2), (3, y3), (4, y4), (8, y8), (9, y9), (10, y10), (11, y11), (15, y15), (34, y34), (37, y37), (38, y38), (39, y39), (40, y40), (41, y41), (65, y65), (70, y70), (94, y94)] = [(0, y0), (1, y1), (2, y2), (3, y3), (4, y4), (8, y8), (9, y9), (10, y10), (11, y11), (15, y15), (34, y34), (37, y37), (38, y38), (39, y39), (40, y40), (41, y41), (65, y65), (70, z4), (94, y94)] := fun y0 y1 y2 y3 y4 y8 y9 y10 y11 y15 y34 y37 y38 y39 y40 y41 y65 y70 y94 z0 z1 z2 z3 z4 => rfl
                        refine R_nil (tr _ _ _ _ _ _ _ _ _ _ _ _ _ _ _ _ _ _ _ _ _ _ _ _) ?_; clear tr
                        refine then_n ?_
                        refine cdd (fun h12 => ?_) (fun h12 => ?_)
                        · try simp only [decide_eq_true_eq, decide_eq_false_iff_not, Bool.not_eq_true', Bool.not_eq_false', beq_iff_eq, beq_eq_false_iff_ne, ne_eq] at h12
                          refine at_seq rfl ?_
                          refine rg rfl ?_
                          refine Rq ?_
                          have tr : ∀ y0 y1 y2 y3 y4 y8 y9 y10 y11 y15 y34 y37 y38 y39 y40 y41 y65 y70 y94 z0 : AV, trim [(8, z0), (0, y0), (1, y1), (2, y2), (3, y3), (4, y4), (8, y8), (9, y9), (10, y10), (11, y11), (15, y15), (34, y34), (37, y37), (38, y38), (39, y39), (40, y40), (41, y41), (65, y65), (70, y70), (94, y94)] [(0, y0), (1, y1), (2, y2), (3, y3), (4, y4), (8, y8), (9, y9), (10, y10), (11, y11), (15, y15), (34, y34), (37, y37), (38, y38), (39, y39), (40, y40), (41, y41), (65, y65), (70, y70), (94, y94)] = [(0, y0), (1, y1), (2, y2), (3, y3), (4, y4), (8, z0), (9, y9), (10, y10), (11, y11), (15, y15), (34, y34), (37, y37), (38, y38), (39, y39), (40, y40), (41, y41), (65, y65), (70, y70), (94, y94)] := fun y0 y1 y2 y3 y4 y8 y9 y10 y11 y15 y34 y37 y38 y39 y40 y41 y65 y70 y94 z0 => rfl
                          refine R_nil (tr _ _ _ _ _ _ _ _ _ _ _ _ _ _ _ _ _ _ _ _) ?_; clear tr
                          refine then_n ?_
                          refine at_ret rfl ?_
                          refine then_r ?_
                          refine blk_r ?_
                          refine then_r ?_
                          refine then_r ?_
                          refine blk_r ?_
                          refine then_r ?_
                          refine fpure ?_
                          refine ⟨?_, rfl⟩
                          have hse : stopErr rows balls l u = 1 := by unfold stopErr; rw [if_neg (by omega), if_pos (by omega)]
                          rw [chkS, if_neg (by omega), if_neg (by unfold chkBad; omega), if_neg (by omega), ferr_at hz (by omega) _ (by omega), hse]
                        · try simp only [decide_eq_true_eq, decide_eq_false_iff_not, Bool.not_eq_true', Bool.not_eq_false', beq_iff_eq, beq_eq_false_iff_ne, ne_eq] at h12
                          refine at_skip rfl ?_
                          refine then_n ?_
                          refine at_seq rfl ?_
                          refine rd rfl rfl ?_
                          refine Qq ?_
                          refine Qq ?_
                          refine Qq ?_
                          refine Qp_split (fun h13 => ?_) (fun h13 => ?_)
                          · try simp only [decide_eq_true_eq, decide_eq_false_iff_not, Bool.not_eq_true', Bool.not_eq_false', beq_iff_eq, beq_eq_false_iff_ne, ne_eq] at h13
                            refine Qy ?_
                            refine Qq ?_
                            refine Qy ?_
                            refine Qq ?_
                            refine Qy ?_
                            refine Qq ?_
                            refine Qy ?_
                            refine Qq ?_
                            refine Qy ?_
                            refine Qq ?_
                            refine Qy ?_
                            refine Qq ?_
                            refine Qy ?_
                            refine Qq ?_
                            refine Qy ?_
                            refine Qq ?_
                            refine Qy ?_
                            refine Qq ?_
                            refine Qy ?_
                            refine Qq ?_
                            refine Qp_split (fun h14 => ?_) (fun h14 => ?_)
                            · try simp only [decide_eq_true_eq, decide_eq_false_iff_not, Bool.not_eq_true', Bool.not_eq_false', beq_iff_eq, beq_eq_false_iff_ne, ne_eq] at h14
                              refine Qn ?_
                              refine Qn ?_
                              refine Qn ?_
                              refine Qn ?_
                              refine Qn ?_
                              refine Qn ?_
                              refine Qn ?_
                              refine Qn ?_
                              refine Qn ?_
                              refine Qy ?_
                              refine Qq ?_
                              refine Qq ?_
                              refine Q_nil ?_
                              have tr : ∀ y0 y1 y2 y3 y4 y8 y9 y10 y11 y15 y34 y37 y38 y39 y40 y41 y65 y70 y94 z0 z1 z2 z3 z4 z5 z6 z7 z8 z9 z10 z11 z12 z13 z14 z15 z16 z17 z18 z19 z20 z21 z22 z23 : AV, trim [(94, z23), (93, z22), (92, z21), (91, z20), (90, z19), (89, z18), (88, z17), (87, z16), (86, z15), (85, z14), (84, z13), (83, z12), (82, z11), (81, z10), (80, z9), (79, z8), (78, z7), (77, z6), (76, z5), (75, z4), (74, z3), (73, z2), (72, z1), (71, z0), (0, y0), (1, y1), (2, y2), (3, y3), (4, y4), (8, y8), (9, y9), (10, y10), (11, y11), (15, y15), (34, y34), (37, y37), (38, y38), (39, y39), (40, y40), (41, y41), (65, y65), (70, y70), (94, y94)] [(0, y0), (1, y1), (2, y2), (3, y3), (4, y4), (8, y8), (9, y9), (10, y10), (11, y11), (15, y15), (34, y34), (37, y37), (38, y38), (39, y39), (40, y40), (41, y41), (65, y65), (70, y70), (94, y94)] = [(0, y0), (1, y1), (2, y2), (3, y3), (4, y4), (8, y8), (9, y9), (10, y10), (11, y11), (15, y15), (34, y34), (37, y37), (38, y38), (39, y39), (40, y40), (41, y41), (65, y65), (70, y70), (94, z23)] := fun y0 y1 y2 y3 y4 y8 y9 y10 y11 y15 y34 y37 y38 y39 y40 y41 y65 y70 y94 z0 z1 z2 z3 z4 z5 z6 z7 z8 z9 z10 z11 z12 z13 z14 z15 z16 z17 z18 z19 z20 z21 z22 z23 => rfl
                              refine R_nil (tr _ _ _ _ _ _ _ _ _ _ _ _ _ _ _ _ _ _ _ _ _ _ _ _ _ _ _ _ _ _ _ _ _ _ _ _ _ _ _ _ _ _ _) ?_; clear tr
                              refine then_n ?_
                              refine cdt ?_
                              refine at_seq rfl ?_
                              refine rg rfl ?_
                              refine Rq ?_
                              have tr : ∀ y0 y1 y2 y3 y4 y8 y9 y10 y11 y15 y34 y37 y38 y39 y40 y41 y65 y70 y94 z0 : AV, trim [(8, z0), (0, y0), (1, y1), (2, y2), (3, y3), (4, y4), (8, y8), (9, y9), (10, y10), (11, y11), (15, y15), (34, y34), (37, y37), (38, y38), (39, y39), (40, y40), (41, y41), (65, y65), (70, y70), (94, y94)] [(0, y0), (1, y1), (2, y2), (3, y3), (4, y4), (8, y8), (9, y9), (10, y10), (11, y11), (15, y15), (34, y34), (37, y37), (38, y38), (39, y39), (40, y40), (41, y41), (65, y65), (70, y70), (94, y94)] = [(0, y0), (1, y1), (2, y2), (3, y3), (4, y4), (8, z0), (9, y9), (10, y10), (11, y11), (15, y15), (34, y34), (37, y37), (38, y38), (39, y39), (40, y40), (41, y41), (65, y65), (70, y70), (94, y94)] := fun y0 y1 y2 y3 y4 y8 y9 y10 y11 y15 y34 y37 y38 y39 y40 y41 y65 y70 y94 z0 => rfl
                              refine R_nil (tr _ _ _ _ _ _ _ _ _ _ _ _ _ _ _ _ _ _ _ _) ?_; clear tr
                              refine then_n ?_
                              refine at_ret rfl ?_
                              refine blk_r ?_
                              refine then_r ?_
                              refine then_r ?_
                              refine blk_r ?_
                              refine then_r ?_
                              refine fpure ?_
                              refine ⟨?_, rfl⟩
                              have hse : stopErr rows balls l u = 8 := by unfold stopErr; rw [if_neg (by omega), if_neg (by omega), if_pos (by omega)]
                              rw [chkS, if_neg (by omega), if_neg (by unfold chkBad; omega), if_neg (by omega), ferr_at hz (by omega) _ (by omega), hse]
                            · try simp only [decide_eq_true_eq, decide_eq_false_iff_not, Bool.not_eq_true', Bool.not_eq_false', beq_iff_eq, beq_eq_false_iff_ne, ne_eq] at h14
                              refine Qy ?_
                              refine Qq ?_
                              refine Qy ?_
                              refine Qq ?_
                              refine Qy ?_
                              refine Qq ?_
                              refine Qy ?_
                              refine Qq ?_
                              refine Qy ?_
                              refine Qq ?_
                              refine Qy ?_
                              refine Qq ?_
                              refine Qy ?_
                              refine Qq ?_
                              refine Qy ?_
                              refine Qq ?_
                              refine Qy ?_
                              refine Qq ?_
                              refine Qy ?_
                              refine Qq ?_
                              refine Qq ?_
                              refine Q_nil ?_
                              have tr : ∀ y0 y1 y2 y3 y4 y8 y9 y10 y11 y15 y34 y37 y38 y39 y40 y41 y65 y70 y94 z0 z1 z2 z3 z4 z5 z6 z7 z8 z9 z10 z11 z12 z13 z14 z15 z16 z17 z18 z19 z20 z21 z22 z23 : AV, trim [(94, z23), (93, z22), (92, z21), (91, z20), (90, z19), (89, z18), (88, z17), (87, z16), (86, z15), (85, z14), (84, z13), (83, z12), (82, z11), (81, z10), (80, z9), (79, z8), (78, z7), (77, z6), (76, z5), (75, z4), (74, z3), (73, z2), (72, z1), (71, z0), (0, y0), (1, y1), (2, y2), (3, y3), (4, y4), (8, y8), (9, y9), (10, y10), (11, y11), (15, y15), (34, y34), (37, y37), (38, y38), (39, y39), (40, y40), (41, y41), (65, y65), (70, y70), (94, y94)] [(0, y0), (1, y1), (2, y2), (3, y3), (4, y4), (8, y8), (9, y9), (10, y10), (11, y11), (15, y15), (34, y34), (37, y37), (38, y38), (39, y39), (40, y40), (41, y41), (65, y65), (70, y70), (94, y94)] = [(0, y0), (1, y1), (2, y2), (3, y3), (4, y4), (8, y8), (9, y9), (10, y10), (11, y11), (15, y15), (34, y34), (37, y37), (38, y38), (39, y39), (40, y40), (41, y41), (65, y65), (70, y70), (94, z23)] := fun y0 y1 y2 y3 y4 y8 y9 y10 y11 y15 y34 y37 y38 y39 y40 y41 y65 y70 y94 z0 z1 z2 z3 z4 z5 z6 z7 z8 z9 z10 z11 z12 z13 z14 z15 z16 z17 z18 z19 z20 z21 z22 z23 => rfl
                              refine R_nil (tr _ _ _ _ _ _ _ _ _ _ _ _ _ _ _ _ _ _ _ _ _ _ _ _ _ _ _ _ _ _ _ _ _ _ _ _ _ _ _ _ _ _ _) ?_; clear tr
                              refine then_n ?_
                              refine cdd (fun h15 => ?_) (fun h15 => ?_)
                              · try simp only [decide_eq_true_eq, decide_eq_false_iff_not, Bool.not_eq_true', Bool.not_eq_false', beq_iff_eq, beq_eq_false_iff_ne, ne_eq] at h15
                                refine at_seq rfl ?_
                                refine rg rfl ?_
                                refine Rq ?_
                                have tr : ∀ y0 y1 y2 y3 y4 y8 y9 y10 y11 y15 y34 y37 y38 y39 y40 y41 y65 y70 y94 z0 : AV, trim [(8, z0), (0, y0), (1, y1), (2, y2), (3, y3), (4, y4), (8, y8), (9, y9), (10, y10), (11, y11), (15, y15), (34, y34), (37, y37), (38, y38), (39, y39), (40, y40), (41, y41), (65, y65), (70, y70), (94, y94)] [(0, y0), (1, y1), (2, y2), (3, y3), (4, y4), (8, y8), (9, y9), (10, y10), (11, y11), (15, y15), (34, y34), (37, y37), (38, y38), (39, y39), (40, y40), (41, y41), (65, y65), (70, y70), (94, y94)] = [(0, y0), (1, y1), (2, y2), (3, y3), (4, y4), (8, z0), (9, y9), (10, y10), (11, y11), (15, y15), (34, y34), (37, y37), (38, y38), (39, y39), (40, y40), (41, y41), (65, y65), (70, y70), (94, y94)] := fun y0 y1 y2 y3 y4 y8 y9 y10 y11 y15 y34 y37 y38 y39 y40 y41 y65 y70 y94 z0 => rfl
                                refine R_nil (tr _ _ _ _ _ _ _ _ _ _ _ _ _ _ _ _ _ _ _ _) ?_; clear tr
                                refine then_n ?_
                                refine at_ret rfl ?_
                                refine blk_r ?_
                                refine then_r ?_
                                refine then_r ?_
                                refine blk_r ?_
                                refine then_r ?_
                                refine fpure ?_
                                refine ⟨?_, rfl⟩
                                have hse : stopErr rows balls l u = 8 := by unfold stopErr; rw [if_neg (by omega), if_neg (by omega), if_pos (by omega)]
                                rw [chkS, if_neg (by omega), if_neg (by unfold chkBad; omega), if_neg (by omega), ferr_at hz (by omega) _ (by omega), hse]
                              · try simp only [decide_eq_true_eq, decide_eq_false_iff_not, Bool.not_eq_true', Bool.not_eq_false', beq_iff_eq, beq_eq_false_iff_ne, ne_eq] at h15
                                refine at_skip rfl ?_
                                refine blk_n ?_
                                refine then_n ?_
                                refine rg rfl ?_
                                refine Rq ?_
                                refine Rq ?_
                                have tr : ∀ y0 y1 y2 y3 y4 y8 y9 y10 y11 y15 y34 y37 y38 y39 y40 y41 y65 y70 y94 z0 z1 : AV, trim [(40, z1), (95, z0), (0, y0), (1, y1), (2, y2), (3, y3), (4, y4), (8, y8), (9, y9), (10, y10), (11, y11), (15, y15), (34, y34), (37, y37), (38, y38), (39, y39), (40, y40), (41, y41), (65, y65), (70, y70), (94, y94)] [(0, y0), (1, y1), (2, y2), (3, y3), (4, y4), (8, y8), (9, y9), (10, y10), (11, y11), (15, y15), (34, y34), (37, y37), (38, y38), (39, y39), (40, y40), (41, y41), (65, y65), (70, y70), (94, y94)] = [(0, y0), (1, y1), (2, y2), (3, y3), (4, y4), (8, y8), (9, y9), (10, y10), (11, y11), (15, y15), (34, y34), (37, y37), (38, y38), (39, y39), (40, z1), (41, y41), (65, y65), (70, y70), (94, y94)] := fun y0 y1 y2 y3 y4 y8 y9 y10 y11 y15 y34 y37 y38 y39 y40 y41 y65 y70 y94 z0 z1 => rfl
                                refine R_nil (tr _ _ _ _ _ _ _ _ _ _ _ _ _ _ _ _ _ _ _ _ _) ?_; clear tr
                                refine then_n ?_
                                have hok : stopErr rows balls l u = 0 := by unfold stopErr; rw [if_neg (by omega), if_neg (by omega), if_neg (by omega)]
                                exact ⟨_, _, ⟨u + 1, X ++ [some (stC (gt l u))], _, _, _, _, _, _, _, rfl, rfl, by simp; rfl, by omega, by exact ferr_ok hz hok⟩, by rfl, by omega⟩
                          · try simp only [decide_eq_true_eq, decide_eq_false_iff_not, Bool.not_eq_true', Bool.not_eq_false', beq_iff_eq, beq_eq_false_iff_ne, ne_eq] at h13
                            refine Qn ?_
                            refine Qn ?_
                            refine Qn ?_
                            refine Qn ?_
                            refine Qn ?_
                            refine Qn ?_
                            refine Qn ?_
                            refine Qn ?_
                            refine Qn ?_
                            refine Qn ?_
                            refine Qu ?_
                            refine Qu ?_
                            refine Qu ?_
                            refine Qu ?_
                            refine Qu ?_
                            refine Qu ?_
                            refine Qu ?_
                            refine Qu ?_
                            refine Qu ?_
                            refine Qn ?_
                            refine Qq ?_
                            refine Q_nil ?_
                            have tr : ∀ y0 y1 y2 y3 y4 y8 y9 y10 y11 y15 y34 y37 y38 y39 y40 y41 y65 y70 y94 z0 z1 z2 z3 z4 z5 z6 z7 z8 z9 z10 z11 z12 z13 z14 z15 z16 z17 z18 z19 z20 z21 z22 z23 : AV, trim [(94, z23), (93, z22), (92, z21), (91, z20), (90, z19), (89, z18), (88, z17), (87, z16), (86, z15), (85, z14), (84, z13), (83, z12), (82, z11), (81, z10), (80, z9), (79, z8), (78, z7), (77, z6), (76, z5), (75, z4), (74, z3), (73, z2), (72, z1), (71, z0), (0, y0), (1, y1), (2, y2), (3, y3), (4, y4), (8, y8), (9, y9), (10, y10), (11, y11), (15, y15), (34, y34), (37, y37), (38, y38), (39, y39), (40, y40), (41, y41), (65, y65), (70, y70), (94, y94)] [(0, y0), (1, y1), (2, y2), (3, y3), (4, y4), (8, y8), (9, y9), (10, y10), (11, y11), (15, y15), (34, y34), (37, y37), (38, y38), (39, y39), (40, y40), (41, y41), (65, y65), (70, y70), (94, y94)] = [(0, y0), (1, y1), (2, y2), (3, y3), (4, y4), (8, y8), (9, y9), (10, y10), (11, y11), (15, y15), (34, y34), (37, y37), (38, y38), (39, y39), (40, y40), (41, y41), (65, y65), (70, y70), (94, z23)] := fun y0 y1 y2 y3 y4 y8 y9 y10 y11 y15 y34 y37 y38 y39 y40 y41 y65 y70 y94 z0 z1 z2 z3 z4 z5 z6 z7 z8 z9 z10 z11 z12 z13 z14 z15 z16 z17 z18 z19 z20 z21 z22 z23 => rfl
                            refine R_nil (tr _ _ _ _ _ _ _ _ _ _ _ _ _ _ _ _ _ _ _ _ _ _ _ _ _ _ _ _ _ _ _ _ _ _ _ _ _ _ _ _ _ _ _) ?_; clear tr
                            refine then_n ?_
                            refine cdf ?_
                            refine at_skip rfl ?_
                            refine blk_n ?_
                            refine then_n ?_
                            refine rg rfl ?_
                            refine Rq ?_
                            refine Rq ?_
                            have tr : ∀ y0 y1 y2 y3 y4 y8 y9 y10 y11 y15 y34 y37 y38 y39 y40 y41 y65 y70 y94 z0 z1 : AV, trim [(40, z1), (95, z0), (0, y0), (1, y1), (2, y2), (3, y3), (4, y4), (8, y8), (9, y9), (10, y10), (11, y11), (15, y15), (34, y34), (37, y37), (38, y38), (39, y39), (40, y40), (41, y41), (65, y65), (70, y70), (94, y94)] [(0, y0), (1, y1), (2, y2), (3, y3), (4, y4), (8, y8), (9, y9), (10, y10), (11, y11), (15, y15), (34, y34), (37, y37), (38, y38), (39, y39), (40, y40), (41, y41), (65, y65), (70, y70), (94, y94)] = [(0, y0), (1, y1), (2, y2), (3, y3), (4, y4), (8, y8), (9, y9), (10, y10), (11, y11), (15, y15), (34, y34), (37, y37), (38, y38), (39, y39), (40, z1), (41, y41), (65, y65), (70, y70), (94, y94)] := fun y0 y1 y2 y3 y4 y8 y9 y10 y11 y15 y34 y37 y38 y39 y40 y41 y65 y70 y94 z0 z1 => rfl
                            refine R_nil (tr _ _ _ _ _ _ _ _ _ _ _ _ _ _ _ _ _ _ _ _ _) ?_; clear tr
                            refine then_n ?_
                            have hok : stopErr rows balls l u = 0 := by unfold stopErr; rw [if_neg (by omega), if_neg (by omega), if_neg (by omega)]
                            exact ⟨_, _, ⟨u + 1, X ++ [some (stC (gt l u))], _, _, _, _, _, _, _, rfl, rfl, by simp; rfl, by omega, by exact ferr_ok hz hok⟩, by rfl, by omega⟩
              · try simp only [decide_eq_true_eq, decide_eq_false_iff_not, Bool.not_eq_true', Bool.not_eq_false', beq_iff_eq, beq_eq_false_iff_ne, ne_eq] at h7
                refine at_exit rfl ?_
                refine then_x ?_
                refine then_x ?_
                refine blk_x ?_
                refine then_n ?_
                refine at_seq rfl ?_
                refine rg rfl ?_
                refine Rq ?_
                have tr : ∀ y0 y1 y2 y3 y4 y8 y9 y10 y11 y15 y34 y37 y38 y39 y40 y41 y65 y70 y94 z0 : AV, trim [(8, z0), (0, y0), (1, y1), (2, y2), (3, y3), (4, y4), (8, y8), (9, y9), (10, y10), (11, y11), (15, y15), (34, y34), (37, y37), (38, y38), (39, y39), (40, y40), (41, y41), (65, y65), (70, y70), (94, y94)] [(0, y0), (1, y1), (2, y2), (3, y3), (4, y4), (8, y8), (9, y9), (10, y10), (11, y11), (15, y15), (34, y34), (37, y37), (38, y38), (39, y39), (40, y40), (41, y41), (65, y65), (70, y70), (94, y94)] = [(0, y0), (1, y1), (2, y2), (3, y3), (4, y4), (8, z0), (9, y9), (10, y10), (11, y11), (15, y15), (34, y34), (37, y37), (38, y38), (39, y39), (40, y40), (41, y41), (65, y65), (70, y70), (94, y94)] := fun y0 y1 y2 y3 y4 y8 y9 y10 y11 y15 y34 y37 y38 y39 y40 y41 y65 y70 y94 z0 => rfl
                refine R_nil (tr _ _ _ _ _ _ _ _ _ _ _ _ _ _ _ _ _ _ _ _) ?_; clear tr
                refine then_n ?_
                refine at_ret rfl ?_
                refine fpure ?_
                refine ⟨?_, rfl⟩
                rw [chkS, if_neg (by omega), if_neg (by unfold chkBad; omega), if_neg (by omega), show ferr (stopErr rows balls l) l.length = 0 by rw [show l.length = u by omega]; exact hz]

end Go.Proofs.Ytaoondlakhocnaa
