/-
  Walks of chapters 37, 39 and 40. The steps are written by program (walk.py).
-/
import Derived.Test.YtaoondlakhocnaaRA
set_option linter.unusedSimpArgs false
set_option linter.unusedVariables false
set_option maxHeartbeats 40000000
set_option maxRecDepth 4000
namespace Go.Proofs.Ytaoondlakhocnaa
open Go Go.Am

theorem shape_ok (lim : Nat) (H : Heap) (rows : List (List Int)) :
    ACall sig lim 65 [.agg [rowsAV rows]] H fun r H' => r = AV.i (shapeS rows) ∧ H' = H := by
  refine ACall_pure (fa := fa65) rfl rfl rfl rfl ?_
  have tr : ∀ a0 : AV, env0 fa65.keep [a0] = [(0, a0), (1, .any), (2, .any), (4, .any), (6, .any), (8, .any), (9, .any), (22, .any), (36, .any), (37, .any), (38, .any), (39, .any), (49, .any), (52, .any), (53, .any), (54, .any), (55, .any), (58, .any), (59, .any), (60, .any), (61, .any), (69, .any)] := fun a0 => rfl
  refine W_to (tr _) ?_; clear tr
  refine at_seq rfl ?_
  refine rg rfl ?_
  refine R_box rfl (by simp (disch := first | omega | (simp only [List.length_map, List.length_append, List.length_set, List.length_cons, List.length_nil, List.length_take, List.length_drop]; omega)) only [go_sem, ↓reduceIte, Nat.reduceEqDiff, reduceCtorEq]; rfl) rfl rfl ?_
  refine Rq ?_
  have tr : ∀ y0 y1 y2 y4 y6 y8 y9 y22 y36 y37 y38 y39 y49 y52 y53 y54 y55 y58 y59 y60 y61 y69 z0 z1 : AV, trim [(2, z1), (1, z0), (0, y0), (1, y1), (2, y2), (4, y4), (6, y6), (8, y8), (9, y9), (22, y22), (36, y36), (37, y37), (38, y38), (39, y39), (49, y49), (52, y52), (53, y53), (54, y54), (55, y55), (58, y58), (59, y59), (60, y60), (61, y61), (69, y69)] [(0, y0), (1, y1), (2, y2), (4, y4), (6, y6), (8, y8), (9, y9), (22, y22), (36, y36), (37, y37), (38, y38), (39, y39), (49, y49), (52, y52), (53, y53), (54, y54), (55, y55), (58, y58), (59, y59), (60, y60), (61, y61), (69, y69)] = [(0, y0), (1, z0), (2, z1), (4, y4), (6, y6), (8, y8), (9, y9), (22, y22), (36, y36), (37, y37), (38, y38), (39, y39), (49, y49), (52, y52), (53, y53), (54, y54), (55, y55), (58, y58), (59, y59), (60, y60), (61, y61), (69, y69)] := fun y0 y1 y2 y4 y6 y8 y9 y22 y36 y37 y38 y39 y49 y52 y53 y54 y55 y58 y59 y60 y61 y69 z0 z1 => rfl
  refine R_nil (tr _ _ _ _ _ _ _ _ _ _ _ _ _ _ _ _ _ _ _ _ _ _ _ _) ?_; clear tr
  refine then_n ?_
  refine at_seq rfl ?_
  refine at_block rfl ?_
  refine at_seq rfl ?_
  refine rg rfl ?_
  refine Rq ?_
  refine Rq ?_
  refine Rq ?_
  refine Rq ?_
  refine Rq ?_
  refine Rp_split (fun h1 => ?_) (fun h1 => ?_)
  · try simp only [decide_eq_true_eq, decide_eq_false_iff_not, Bool.not_eq_true', Bool.not_eq_false', beq_iff_eq, beq_eq_false_iff_ne, ne_eq] at h1
    refine Rn ?_
    refine Rn ?_
    refine Rn ?_
    refine Rn ?_
    refine Rn ?_
    refine Rn ?_
    refine Rq ?_
    refine Rq ?_
    have tr : ∀ y0 y1 y2 y4 y6 y8 y9 y22 y36 y37 y38 y39 y49 y52 y53 y54 y55 y58 y59 y60 y61 y69 z0 z1 z2 z3 z4 z5 z6 z7 z8 z9 z10 z11 z12 : AV, trim [(9, z12), (21, z11), (20, z10), (19, z9), (18, z8), (17, z7), (16, z6), (15, z5), (14, z4), (13, z3), (12, z2), (11, z1), (10, z0), (0, y0), (1, y1), (2, y2), (4, y4), (6, y6), (8, y8), (9, y9), (22, y22), (36, y36), (37, y37), (38, y38), (39, y39), (49, y49), (52, y52), (53, y53), (54, y54), (55, y55), (58, y58), (59, y59), (60, y60), (61, y61), (69, y69)] [(0, y0), (1, y1), (2, y2), (4, y4), (6, y6), (8, y8), (9, y9), (22, y22), (36, y36), (37, y37), (38, y38), (39, y39), (49, y49), (52, y52), (53, y53), (54, y54), (55, y55), (58, y58), (59, y59), (60, y60), (61, y61), (69, y69)] = [(0, y0), (1, y1), (2, y2), (4, y4), (6, y6), (8, y8), (9, z12), (22, y22), (36, y36), (37, y37), (38, y38), (39, y39), (49, y49), (52, y52), (53, y53), (54, y54), (55, y55), (58, y58), (59, y59), (60, y60), (61, y61), (69, y69)] := fun y0 y1 y2 y4 y6 y8 y9 y22 y36 y37 y38 y39 y49 y52 y53 y54 y55 y58 y59 y60 y61 y69 z0 z1 z2 z3 z4 z5 z6 z7 z8 z9 z10 z11 z12 => rfl
    refine R_nil (tr _ _ _ _ _ _ _ _ _ _ _ _ _ _ _ _ _ _ _ _ _ _ _ _ _ _ _ _ _ _ _ _ _ _ _) ?_; clear tr
    refine then_n ?_
    refine cdt ?_
    refine at_seq rfl ?_
    refine rg rfl ?_
    refine Rq ?_
    have tr : ∀ y0 y1 y2 y4 y6 y8 y9 y22 y36 y37 y38 y39 y49 y52 y53 y54 y55 y58 y59 y60 y61 y69 z0 : AV, trim [(2, z0), (0, y0), (1, y1), (2, y2), (4, y4), (6, y6), (8, y8), (9, y9), (22, y22), (36, y36), (37, y37), (38, y38), (39, y39), (49, y49), (52, y52), (53, y53), (54, y54), (55, y55), (58, y58), (59, y59), (60, y60), (61, y61), (69, y69)] [(0, y0), (1, y1), (2, y2), (4, y4), (6, y6), (8, y8), (9, y9), (22, y22), (36, y36), (37, y37), (38, y38), (39, y39), (49, y49), (52, y52), (53, y53), (54, y54), (55, y55), (58, y58), (59, y59), (60, y60), (61, y61), (69, y69)] = [(0, y0), (1, y1), (2, z0), (4, y4), (6, y6), (8, y8), (9, y9), (22, y22), (36, y36), (37, y37), (38, y38), (39, y39), (49, y49), (52, y52), (53, y53), (54, y54), (55, y55), (58, y58), (59, y59), (60, y60), (61, y61), (69, y69)] := fun y0 y1 y2 y4 y6 y8 y9 y22 y36 y37 y38 y39 y49 y52 y53 y54 y55 y58 y59 y60 y61 y69 z0 => rfl
    refine R_nil (tr _ _ _ _ _ _ _ _ _ _ _ _ _ _ _ _ _ _ _ _ _ _ _) ?_; clear tr
    refine then_n ?_
    refine at_ret rfl ?_
    refine blk_r ?_
    refine then_r ?_
    refine fpure ?_
    refine ⟨?_, rfl⟩
    rw [shapeS, if_pos (by omega)]
  · try simp only [decide_eq_true_eq, decide_eq_false_iff_not, Bool.not_eq_true', Bool.not_eq_false', beq_iff_eq, beq_eq_false_iff_ne, ne_eq] at h1
    refine Ry ?_
    refine Rq ?_
    refine Ry ?_
    refine Rq ?_
    refine Ry ?_
    refine Rq ?_
    refine Ry ?_
    refine Rq ?_
    refine Ry ?_
    refine Rq ?_
    refine Ry ?_
    refine Rq ?_
    refine Rq ?_
    refine Rq ?_
    have tr : ∀ y0 y1 y2 y4 y6 y8 y9 y22 y36 y37 y38 y39 y49 y52 y53 y54 y55 y58 y59 y60 y61 y69 z0 z1 z2 z3 z4 z5 z6 z7 z8 z9 z10 z11 z12 : AV, trim [(9, z12), (21, z11), (20, z10), (19, z9), (18, z8), (17, z7), (16, z6), (15, z5), (14, z4), (13, z3), (12, z2), (11, z1), (10, z0), (0, y0), (1, y1), (2, y2), (4, y4), (6, y6), (8, y8), (9, y9), (22, y22), (36, y36), (37, y37), (38, y38), (39, y39), (49, y49), (52, y52), (53, y53), (54, y54), (55, y55), (58, y58), (59, y59), (60, y60), (61, y61), (69, y69)] [(0, y0), (1, y1), (2, y2), (4, y4), (6, y6), (8, y8), (9, y9), (22, y22), (36, y36), (37, y37), (38, y38), (39, y39), (49, y49), (52, y52), (53, y53), (54, y54), (55, y55), (58, y58), (59, y59), (60, y60), (61, y61), (69, y69)] = [(0, y0), (1, y1), (2, y2), (4, y4), (6, y6), (8, y8), (9, z12), (22, y22), (36, y36), (37, y37), (38, y38), (39, y39), (49, y49), (52, y52), (53, y53), (54, y54), (55, y55), (58, y58), (59, y59), (60, y60), (61, y61), (69, y69)] := fun y0 y1 y2 y4 y6 y8 y9 y22 y36 y37 y38 y39 y49 y52 y53 y54 y55 y58 y59 y60 y61 y69 z0 z1 z2 z3 z4 z5 z6 z7 z8 z9 z10 z11 z12 => rfl
    refine R_nil (tr _ _ _ _ _ _ _ _ _ _ _ _ _ _ _ _ _ _ _ _ _ _ _ _ _ _ _ _ _ _ _ _ _ _ _) ?_; clear tr
    refine then_n ?_
    refine cdd (fun h2 => ?_) (fun h2 => ?_)
    · try simp only [decide_eq_true_eq, decide_eq_false_iff_not, Bool.not_eq_true', Bool.not_eq_false', beq_iff_eq, beq_eq_false_iff_ne, ne_eq] at h2
      refine at_seq rfl ?_
      refine rg rfl ?_
      refine Rq ?_
      have tr : ∀ y0 y1 y2 y4 y6 y8 y9 y22 y36 y37 y38 y39 y49 y52 y53 y54 y55 y58 y59 y60 y61 y69 z0 : AV, trim [(2, z0), (0, y0), (1, y1), (2, y2), (4, y4), (6, y6), (8, y8), (9, y9), (22, y22), (36, y36), (37, y37), (38, y38), (39, y39), (49, y49), (52, y52), (53, y53), (54, y54), (55, y55), (58, y58), (59, y59), (60, y60), (61, y61), (69, y69)] [(0, y0), (1, y1), (2, y2), (4, y4), (6, y6), (8, y8), (9, y9), (22, y22), (36, y36), (37, y37), (38, y38), (39, y39), (49, y49), (52, y52), (53, y53), (54, y54), (55, y55), (58, y58), (59, y59), (60, y60), (61, y61), (69, y69)] = [(0, y0), (1, y1), (2, z0), (4, y4), (6, y6), (8, y8), (9, y9), (22, y22), (36, y36), (37, y37), (38, y38), (39, y39), (49, y49), (52, y52), (53, y53), (54, y54), (55, y55), (58, y58), (59, y59), (60, y60), (61, y61), (69, y69)] := fun y0 y1 y2 y4 y6 y8 y9 y22 y36 y37 y38 y39 y49 y52 y53 y54 y55 y58 y59 y60 y61 y69 z0 => rfl
      refine R_nil (tr _ _ _ _ _ _ _ _ _ _ _ _ _ _ _ _ _ _ _ _ _ _ _) ?_; clear tr
      refine then_n ?_
      refine at_ret rfl ?_
      refine blk_r ?_
      refine then_r ?_
      refine fpure ?_
      refine ⟨?_, rfl⟩
      rw [shapeS, if_pos (by omega)]
    · try simp only [decide_eq_true_eq, decide_eq_false_iff_not, Bool.not_eq_true', Bool.not_eq_false', beq_iff_eq, beq_eq_false_iff_ne, ne_eq] at h2
      refine at_seq rfl ?_
      refine rg rfl ?_
      refine Rq ?_
      refine Rq ?_
      refine Rq ?_
      refine Rq ?_
      refine Rq ?_
      refine Rp_split (fun h3 => ?_) (fun h3 => ?_)
      · try simp only [decide_eq_true_eq, decide_eq_false_iff_not, Bool.not_eq_true', Bool.not_eq_false', beq_iff_eq, beq_eq_false_iff_ne, ne_eq] at h3
        refine Rn ?_
        refine Rn ?_
        refine Rn ?_
        refine Rn ?_
        refine Rn ?_
        refine Rn ?_
        refine Rq ?_
        refine Rq ?_
        have tr : ∀ y0 y1 y2 y4 y6 y8 y9 y22 y36 y37 y38 y39 y49 y52 y53 y54 y55 y58 y59 y60 y61 y69 z0 z1 z2 z3 z4 z5 z6 z7 z8 z9 z10 z11 z12 : AV, trim [(22, z12), (34, z11), (33, z10), (32, z9), (31, z8), (30, z7), (29, z6), (28, z5), (27, z4), (26, z3), (25, z2), (24, z1), (23, z0), (0, y0), (1, y1), (2, y2), (4, y4), (6, y6), (8, y8), (9, y9), (22, y22), (36, y36), (37, y37), (38, y38), (39, y39), (49, y49), (52, y52), (53, y53), (54, y54), (55, y55), (58, y58), (59, y59), (60, y60), (61, y61), (69, y69)] [(0, y0), (1, y1), (2, y2), (4, y4), (6, y6), (8, y8), (9, y9), (22, y22), (36, y36), (37, y37), (38, y38), (39, y39), (49, y49), (52, y52), (53, y53), (54, y54), (55, y55), (58, y58), (59, y59), (60, y60), (61, y61), (69, y69)] = [(0, y0), (1, y1), (2, y2), (4, y4), (6, y6), (8, y8), (9, y9), (22, z12), (36, y36), (37, y37), (38, y38), (39, y39), (49, y49), (52, y52), (53, y53), (54, y54), (55, y55), (58, y58), (59, y59), (60, y60), (61, y61), (69, y69)] := fun y0 y1 y2 y4 y6 y8 y9 y22 y36 y37 y38 y39 y49 y52 y53 y54 y55 y58 y59 y60 y61 y69 z0 z1 z2 z3 z4 z5 z6 z7 z8 z9 z10 z11 z12 => rfl
        refine R_nil (tr _ _ _ _ _ _ _ _ _ _ _ _ _ _ _ _ _ _ _ _ _ _ _ _ _ _ _ _ _ _ _ _ _ _ _) ?_; clear tr
        refine then_n ?_
        refine cdt ?_
        refine at_seq rfl ?_
        refine rg rfl ?_
        refine Rq ?_
        have tr : ∀ y0 y1 y2 y4 y6 y8 y9 y22 y36 y37 y38 y39 y49 y52 y53 y54 y55 y58 y59 y60 y61 y69 z0 : AV, trim [(2, z0), (0, y0), (1, y1), (2, y2), (4, y4), (6, y6), (8, y8), (9, y9), (22, y22), (36, y36), (37, y37), (38, y38), (39, y39), (49, y49), (52, y52), (53, y53), (54, y54), (55, y55), (58, y58), (59, y59), (60, y60), (61, y61), (69, y69)] [(0, y0), (1, y1), (2, y2), (4, y4), (6, y6), (8, y8), (9, y9), (22, y22), (36, y36), (37, y37), (38, y38), (39, y39), (49, y49), (52, y52), (53, y53), (54, y54), (55, y55), (58, y58), (59, y59), (60, y60), (61, y61), (69, y69)] = [(0, y0), (1, y1), (2, z0), (4, y4), (6, y6), (8, y8), (9, y9), (22, y22), (36, y36), (37, y37), (38, y38), (39, y39), (49, y49), (52, y52), (53, y53), (54, y54), (55, y55), (58, y58), (59, y59), (60, y60), (61, y61), (69, y69)] := fun y0 y1 y2 y4 y6 y8 y9 y22 y36 y37 y38 y39 y49 y52 y53 y54 y55 y58 y59 y60 y61 y69 z0 => rfl
        refine R_nil (tr _ _ _ _ _ _ _ _ _ _ _ _ _ _ _ _ _ _ _ _ _ _ _) ?_; clear tr
        refine then_n ?_
        refine at_ret rfl ?_
        refine blk_r ?_
        refine then_r ?_
        refine fpure ?_
        refine ⟨?_, rfl⟩
        rw [shapeS, if_neg (by omega), if_pos (by omega)]
      · try simp only [decide_eq_true_eq, decide_eq_false_iff_not, Bool.not_eq_true', Bool.not_eq_false', beq_iff_eq, beq_eq_false_iff_ne, ne_eq] at h3
        refine Ry ?_
        refine Rq ?_
        refine Ry ?_
        refine Rq ?_
        refine Ry ?_
        refine Rq ?_
        refine Ry ?_
        refine Rq ?_
        refine Ry ?_
        refine Rq ?_
        refine Ry ?_
        refine Rq ?_
        refine Rq ?_
        refine Rq ?_
        have tr : ∀ y0 y1 y2 y4 y6 y8 y9 y22 y36 y37 y38 y39 y49 y52 y53 y54 y55 y58 y59 y60 y61 y69 z0 z1 z2 z3 z4 z5 z6 z7 z8 z9 z10 z11 z12 : AV, trim [(22, z12), (34, z11), (33, z10), (32, z9), (31, z8), (30, z7), (29, z6), (28, z5), (27, z4), (26, z3), (25, z2), (24, z1), (23, z0), (0, y0), (1, y1), (2, y2), (4, y4), (6, y6), (8, y8), (9, y9), (22, y22), (36, y36), (37, y37), (38, y38), (39, y39), (49, y49), (52, y52), (53, y53), (54, y54), (55, y55), (58, y58), (59, y59), (60, y60), (61, y61), (69, y69)] [(0, y0), (1, y1), (2, y2), (4, y4), (6, y6), (8, y8), (9, y9), (22, y22), (36, y36), (37, y37), (38, y38), (39, y39), (49, y49), (52, y52), (53, y53), (54, y54), (55, y55), (58, y58), (59, y59), (60, y60), (61, y61), (69, y69)] = [(0, y0), (1, y1), (2, y2), (4, y4), (6, y6), (8, y8), (9, y9), (22, z12), (36, y36), (37, y37), (38, y38), (39, y39), (49, y49), (52, y52), (53, y53), (54, y54), (55, y55), (58, y58), (59, y59), (60, y60), (61, y61), (69, y69)] := fun y0 y1 y2 y4 y6 y8 y9 y22 y36 y37 y38 y39 y49 y52 y53 y54 y55 y58 y59 y60 y61 y69 z0 z1 z2 z3 z4 z5 z6 z7 z8 z9 z10 z11 z12 => rfl
        refine R_nil (tr _ _ _ _ _ _ _ _ _ _ _ _ _ _ _ _ _ _ _ _ _ _ _ _ _ _ _ _ _ _ _ _ _ _ _) ?_; clear tr
        refine then_n ?_
        refine cdd (fun h4 => ?_) (fun h4 => ?_)
        · try simp only [decide_eq_true_eq, decide_eq_false_iff_not, Bool.not_eq_true', Bool.not_eq_false', beq_iff_eq, beq_eq_false_iff_ne, ne_eq] at h4
          refine at_seq rfl ?_
          refine rg rfl ?_
          refine Rq ?_
          have tr : ∀ y0 y1 y2 y4 y6 y8 y9 y22 y36 y37 y38 y39 y49 y52 y53 y54 y55 y58 y59 y60 y61 y69 z0 : AV, trim [(2, z0), (0, y0), (1, y1), (2, y2), (4, y4), (6, y6), (8, y8), (9, y9), (22, y22), (36, y36), (37, y37), (38, y38), (39, y39), (49, y49), (52, y52), (53, y53), (54, y54), (55, y55), (58, y58), (59, y59), (60, y60), (61, y61), (69, y69)] [(0, y0), (1, y1), (2, y2), (4, y4), (6, y6), (8, y8), (9, y9), (22, y22), (36, y36), (37, y37), (38, y38), (39, y39), (49, y49), (52, y52), (53, y53), (54, y54), (55, y55), (58, y58), (59, y59), (60, y60), (61, y61), (69, y69)] = [(0, y0), (1, y1), (2, z0), (4, y4), (6, y6), (8, y8), (9, y9), (22, y22), (36, y36), (37, y37), (38, y38), (39, y39), (49, y49), (52, y52), (53, y53), (54, y54), (55, y55), (58, y58), (59, y59), (60, y60), (61, y61), (69, y69)] := fun y0 y1 y2 y4 y6 y8 y9 y22 y36 y37 y38 y39 y49 y52 y53 y54 y55 y58 y59 y60 y61 y69 z0 => rfl
          refine R_nil (tr _ _ _ _ _ _ _ _ _ _ _ _ _ _ _ _ _ _ _ _ _ _ _) ?_; clear tr
          refine then_n ?_
          refine at_ret rfl ?_
          refine blk_r ?_
          refine then_r ?_
          refine fpure ?_
          refine ⟨?_, rfl⟩
          rw [shapeS, if_neg (by omega), if_pos (by omega)]
        · try simp only [decide_eq_true_eq, decide_eq_false_iff_not, Bool.not_eq_true', Bool.not_eq_false', beq_iff_eq, beq_eq_false_iff_ne, ne_eq] at h4
          refine at_skip rfl ?_
          refine blk_n ?_
          refine then_n ?_
          refine at_seq rfl ?_
          refine at_seq rfl ?_
          refine rg rfl ?_
          refine Rq ?_
          refine Rq ?_
          refine Rq ?_
          refine Rq ?_
          have tr : ∀ y0 y1 y2 y4 y6 y8 y9 y22 y36 y37 y38 y39 y49 y52 y53 y54 y55 y58 y59 y60 y61 y69 z0 z1 z2 z3 : AV, trim [(38, z3), (37, z2), (36, z1), (35, z0), (0, y0), (1, y1), (2, y2), (4, y4), (6, y6), (8, y8), (9, y9), (22, y22), (36, y36), (37, y37), (38, y38), (39, y39), (49, y49), (52, y52), (53, y53), (54, y54), (55, y55), (58, y58), (59, y59), (60, y60), (61, y61), (69, y69)] [(0, y0), (1, y1), (2, y2), (4, y4), (6, y6), (8, y8), (9, y9), (22, y22), (36, y36), (37, y37), (38, y38), (39, y39), (49, y49), (52, y52), (53, y53), (54, y54), (55, y55), (58, y58), (59, y59), (60, y60), (61, y61), (69, y69)] = [(0, y0), (1, y1), (2, y2), (4, y4), (6, y6), (8, y8), (9, y9), (22, y22), (36, z1), (37, z2), (38, z3), (39, y39), (49, y49), (52, y52), (53, y53), (54, y54), (55, y55), (58, y58), (59, y59), (60, y60), (61, y61), (69, y69)] := fun y0 y1 y2 y4 y6 y8 y9 y22 y36 y37 y38 y39 y49 y52 y53 y54 y55 y58 y59 y60 y61 y69 z0 z1 z2 z3 => rfl
          refine R_nil (tr _ _ _ _ _ _ _ _ _ _ _ _ _ _ _ _ _ _ _ _ _ _ _ _ _ _) ?_; clear tr
          refine then_n ?_
          refine at_block rfl ?_
          refine loop_n rfl (fun mm kv H' => ∃ u : Nat, ∃ x2 x4 x39 x49 : AV, (kv = [(2, x2), (4, x4), (38, AV.i u), (39, x39), (49, x49)]) ∧ (mm = rows.length - u) ∧ (H' = H ++ [some [rowsAV rows]]) ∧ (u ≤ rows.length) ∧ (∀ i, i < u → (gt rows i).length = (gt rows 0).length)) ⟨0, _, _, _, _, rfl, rfl, rfl, by omega, by intro i hi; omega⟩ (by rfl) ?_
          rintro mm kv H' ⟨u, x2, x4, x39, x49, rfl, rfl, rfl, hu, hq⟩
          have tr : ∀ y0 y1 y2 y4 y6 y8 y9 y22 y36 y37 y38 y39 y49 y52 y53 y54 y55 y58 y59 y60 y61 y69 z2 z4 z38 z39 z49 : AV, upd [(0, y0), (1, y1), (2, y2), (4, y4), (6, y6), (8, y8), (9, y9), (22, y22), (36, y36), (37, y37), (38, y38), (39, y39), (49, y49), (52, y52), (53, y53), (54, y54), (55, y55), (58, y58), (59, y59), (60, y60), (61, y61), (69, y69)] [(2, z2), (4, z4), (38, z38), (39, z39), (49, z49)] = [(0, y0), (1, y1), (2, z2), (4, z4), (6, y6), (8, y8), (9, y9), (22, y22), (36, y36), (37, y37), (38, z38), (39, z39), (49, z49), (52, y52), (53, y53), (54, y54), (55, y55), (58, y58), (59, y59), (60, y60), (61, y61), (69, y69)] := fun y0 y1 y2 y4 y6 y8 y9 y22 y36 y37 y38 y39 y49 y52 y53 y54 y55 y58 y59 y60 y61 y69 z2 z4 z38 z39 z49 => rfl
          refine W_to (tr _ _ _ _ _ _ _ _ _ _ _ _ _ _ _ _ _ _ _ _ _ _ _ _ _ _ _) ?_; clear tr
          refine at_seq rfl ?_
          refine rg rfl ?_
          refine Rq ?_
          have tr : ∀ y0 y1 y2 y4 y6 y8 y9 y22 y36 y37 y38 y39 y49 y52 y53 y54 y55 y58 y59 y60 y61 y69 z0 : AV, trim [(39, z0), (0, y0), (1, y1), (2, y2), (4, y4), (6, y6), (8, y8), (9, y9), (22, y22), (36, y36), (37, y37), (38, y38), (39, y39), (49, y49), (52, y52), (53, y53), (54, y54), (55, y55), (58, y58), (59, y59), (60, y60), (61, y61), (69, y69)] [(0, y0), (1, y1), (2, y2), (4, y4), (6, y6), (8, y8), (9, y9), (22, y22), (36, y36), (37, y37), (38, y38), (39, y39), (49, y49), (52, y52), (53, y53), (54, y54), (55, y55), (58, y58), (59, y59), (60, y60), (61, y61), (69, y69)] = [(0, y0), (1, y1), (2, y2), (4, y4), (6, y6), (8, y8), (9, y9), (22, y22), (36, y36), (37, y37), (38, y38), (39, z0), (49, y49), (52, y52), (53, y53), (54, y54), (55, y55), (58, y58), (59, y59), (60, y60), (61, y61), (69, y69)] := fun y0 y1 y2 y4 y6 y8 y9 y22 y36 y37 y38 y39 y49 y52 y53 y54 y55 y58 y59 y60 y61 y69 z0 => rfl
          refine R_nil (tr _ _ _ _ _ _ _ _ _ _ _ _ _ _ _ _ _ _ _ _ _ _ _) ?_; clear tr
          refine then_n ?_
          refine at_seq rfl ?_
          refine cdd (fun h5 => ?_) (fun h5 => ?_)
          · try simp only [decide_eq_true_eq, decide_eq_false_iff_not, Bool.not_eq_true', Bool.not_eq_false', beq_iff_eq, beq_eq_false_iff_ne, ne_eq] at h5
            refine at_skip rfl ?_
            refine then_n ?_
            refine at_seq rfl ?_
            refine at_block rfl ?_
            refine at_seq rfl ?_
            refine rg rfl ?_
            refine Rq ?_
            refine Rq ?_
            refine Rq ?_
            have tr : ∀ y0 y1 y2 y4 y6 y8 y9 y22 y36 y37 y38 y39 y49 y52 y53 y54 y55 y58 y59 y60 y61 y69 z0 z1 z2 : AV, trim [(4, z2), (41, z1), (40, z0), (0, y0), (1, y1), (2, y2), (4, y4), (6, y6), (8, y8), (9, y9), (22, y22), (36, y36), (37, y37), (38, y38), (39, y39), (49, y49), (52, y52), (53, y53), (54, y54), (55, y55), (58, y58), (59, y59), (60, y60), (61, y61), (69, y69)] [(0, y0), (1, y1), (2, y2), (4, y4), (6, y6), (8, y8), (9, y9), (22, y22), (36, y36), (37, y37), (38, y38), (39, y39), (49, y49), (52, y52), (53, y53), (54, y54), (55, y55), (58, y58), (59, y59), (60, y60), (61, y61), (69, y69)] = [(0, y0), (1, y1), (2, y2), (4, z2), (6, y6), (8, y8), (9, y9), (22, y22), (36, y36), (37, y37), (38, y38), (39, y39), (49, y49), (52, y52), (53, y53), (54, y54), (55, y55), (58, y58), (59, y59), (60, y60), (61, y61), (69, y69)] := fun y0 y1 y2 y4 y6 y8 y9 y22 y36 y37 y38 y39 y49 y52 y53 y54 y55 y58 y59 y60 y61 y69 z0 z1 z2 => rfl
            refine R_nil (tr _ _ _ _ _ _ _ _ _ _ _ _ _ _ _ _ _ _ _ _ _ _ _ _ _) ?_; clear tr
            refine then_n ?_
            refine at_seq rfl ?_
            refine rg rfl ?_
            refine Rq ?_
            refine Rq ?_
            refine Rq ?_
            refine Rq ?_
            refine Rq ?_
            refine Rq ?_
            refine Rq ?_
            refine Rq ?_
            have tr : ∀ y0 y1 y2 y4 y6 y8 y9 y22 y36 y37 y38 y39 y49 y52 y53 y54 y55 y58 y59 y60 y61 y69 z0 z1 z2 z3 z4 z5 z6 z7 : AV, trim [(49, z7), (48, z6), (47, z5), (46, z4), (45, z3), (44, z2), (43, z1), (42, z0), (0, y0), (1, y1), (2, y2), (4, y4), (6, y6), (8, y8), (9, y9), (22, y22), (36, y36), (37, y37), (38, y38), (39, y39), (49, y49), (52, y52), (53, y53), (54, y54), (55, y55), (58, y58), (59, y59), (60, y60), (61, y61), (69, y69)] [(0, y0), (1, y1), (2, y2), (4, y4), (6, y6), (8, y8), (9, y9), (22, y22), (36, y36), (37, y37), (38, y38), (39, y39), (49, y49), (52, y52), (53, y53), (54, y54), (55, y55), (58, y58), (59, y59), (60, y60), (61, y61), (69, y69)] = [(0, y0), (1, y1), (2, y2), (4, y4), (6, y6), (8, y8), (9, y9), (22, y22), (36, y36), (37, y37), (38, y38), (39, y39), (49, z7), (52, y52), (53, y53), (54, y54), (55, y55), (58, y58), (59, y59), (60, y60), (61, y61), (69, y69)] := fun y0 y1 y2 y4 y6 y8 y9 y22 y36 y37 y38 y39 y49 y52 y53 y54 y55 y58 y59 y60 y61 y69 z0 z1 z2 z3 z4 z5 z6 z7 => rfl
            refine R_nil (tr _ _ _ _ _ _ _ _ _ _ _ _ _ _ _ _ _ _ _ _ _ _ _ _ _ _ _ _ _ _) ?_; clear tr
            refine then_n ?_
            refine cdd (fun h6 => ?_) (fun h6 => ?_)
            · try simp only [decide_eq_true_eq, decide_eq_false_iff_not, Bool.not_eq_true', Bool.not_eq_false', beq_iff_eq, beq_eq_false_iff_ne, ne_eq] at h6
              refine at_seq rfl ?_
              refine rg rfl ?_
              refine Rq ?_
              have tr : ∀ y0 y1 y2 y4 y6 y8 y9 y22 y36 y37 y38 y39 y49 y52 y53 y54 y55 y58 y59 y60 y61 y69 z0 : AV, trim [(2, z0), (0, y0), (1, y1), (2, y2), (4, y4), (6, y6), (8, y8), (9, y9), (22, y22), (36, y36), (37, y37), (38, y38), (39, y39), (49, y49), (52, y52), (53, y53), (54, y54), (55, y55), (58, y58), (59, y59), (60, y60), (61, y61), (69, y69)] [(0, y0), (1, y1), (2, y2), (4, y4), (6, y6), (8, y8), (9, y9), (22, y22), (36, y36), (37, y37), (38, y38), (39, y39), (49, y49), (52, y52), (53, y53), (54, y54), (55, y55), (58, y58), (59, y59), (60, y60), (61, y61), (69, y69)] = [(0, y0), (1, y1), (2, z0), (4, y4), (6, y6), (8, y8), (9, y9), (22, y22), (36, y36), (37, y37), (38, y38), (39, y39), (49, y49), (52, y52), (53, y53), (54, y54), (55, y55), (58, y58), (59, y59), (60, y60), (61, y61), (69, y69)] := fun y0 y1 y2 y4 y6 y8 y9 y22 y36 y37 y38 y39 y49 y52 y53 y54 y55 y58 y59 y60 y61 y69 z0 => rfl
              refine R_nil (tr _ _ _ _ _ _ _ _ _ _ _ _ _ _ _ _ _ _ _ _ _ _ _) ?_; clear tr
              refine then_n ?_
              refine at_ret rfl ?_
              refine blk_r ?_
              refine then_r ?_
              refine then_r ?_
              refine blk_r ?_
              refine then_r ?_
              refine fpure ?_
              refine ⟨?_, rfl⟩
              rw [shapeS, if_neg (by omega), if_neg (by omega), if_pos (fun hh => absurd (hh u (by omega)) (by omega))]
            · try simp only [decide_eq_true_eq, decide_eq_false_iff_not, Bool.not_eq_true', Bool.not_eq_false', beq_iff_eq, beq_eq_false_iff_ne, ne_eq] at h6
              refine at_skip rfl ?_
              refine blk_n ?_
              refine then_n ?_
              refine rg rfl ?_
              refine Rq ?_
              refine Rq ?_
              have tr : ∀ y0 y1 y2 y4 y6 y8 y9 y22 y36 y37 y38 y39 y49 y52 y53 y54 y55 y58 y59 y60 y61 y69 z0 z1 : AV, trim [(38, z1), (50, z0), (0, y0), (1, y1), (2, y2), (4, y4), (6, y6), (8, y8), (9, y9), (22, y22), (36, y36), (37, y37), (38, y38), (39, y39), (49, y49), (52, y52), (53, y53), (54, y54), (55, y55), (58, y58), (59, y59), (60, y60), (61, y61), (69, y69)] [(0, y0), (1, y1), (2, y2), (4, y4), (6, y6), (8, y8), (9, y9), (22, y22), (36, y36), (37, y37), (38, y38), (39, y39), (49, y49), (52, y52), (53, y53), (54, y54), (55, y55), (58, y58), (59, y59), (60, y60), (61, y61), (69, y69)] = [(0, y0), (1, y1), (2, y2), (4, y4), (6, y6), (8, y8), (9, y9), (22, y22), (36, y36), (37, y37), (38, z1), (39, y39), (49, y49), (52, y52), (53, y53), (54, y54), (55, y55), (58, y58), (59, y59), (60, y60), (61, y61), (69, y69)] := fun y0 y1 y2 y4 y6 y8 y9 y22 y36 y37 y38 y39 y49 y52 y53 y54 y55 y58 y59 y60 y61 y69 z0 z1 => rfl
              refine R_nil (tr _ _ _ _ _ _ _ _ _ _ _ _ _ _ _ _ _ _ _ _ _ _ _ _) ?_; clear tr
              refine then_n ?_
              exact ⟨_, _, ⟨u + 1, _, _, _, _, rfl, rfl, rfl, by omega, by exact all_step hq (by omega)⟩, by rfl, by omega⟩
          · try simp only [decide_eq_true_eq, decide_eq_false_iff_not, Bool.not_eq_true', Bool.not_eq_false', beq_iff_eq, beq_eq_false_iff_ne, ne_eq] at h5
            refine at_exit rfl ?_
            refine then_x ?_
            refine then_x ?_
            refine blk_x ?_
            refine then_n ?_
            refine at_seq rfl ?_
            refine at_seq rfl ?_
            refine rg rfl ?_
            have hq3 : SameLen rows := fun i hi => hq i (by omega)
            refine Rq ?_
            refine Rq ?_
            refine Rq ?_
            refine Rq ?_
            have tr : ∀ y0 y1 y2 y4 y6 y8 y9 y22 y36 y37 y38 y39 y49 y52 y53 y54 y55 y58 y59 y60 y61 y69 z0 z1 z2 z3 : AV, trim [(54, z3), (53, z2), (52, z1), (51, z0), (0, y0), (1, y1), (2, y2), (4, y4), (6, y6), (8, y8), (9, y9), (22, y22), (36, y36), (37, y37), (38, y38), (39, y39), (49, y49), (52, y52), (53, y53), (54, y54), (55, y55), (58, y58), (59, y59), (60, y60), (61, y61), (69, y69)] [(0, y0), (1, y1), (2, y2), (4, y4), (6, y6), (8, y8), (9, y9), (22, y22), (36, y36), (37, y37), (38, y38), (39, y39), (49, y49), (52, y52), (53, y53), (54, y54), (55, y55), (58, y58), (59, y59), (60, y60), (61, y61), (69, y69)] = [(0, y0), (1, y1), (2, y2), (4, y4), (6, y6), (8, y8), (9, y9), (22, y22), (36, y36), (37, y37), (38, y38), (39, y39), (49, y49), (52, z1), (53, z2), (54, z3), (55, y55), (58, y58), (59, y59), (60, y60), (61, y61), (69, y69)] := fun y0 y1 y2 y4 y6 y8 y9 y22 y36 y37 y38 y39 y49 y52 y53 y54 y55 y58 y59 y60 y61 y69 z0 z1 z2 z3 => rfl
            refine R_nil (tr _ _ _ _ _ _ _ _ _ _ _ _ _ _ _ _ _ _ _ _ _ _ _ _ _ _) ?_; clear tr
            refine then_n ?_
            refine at_block rfl ?_
            refine loop_n rfl (fun mm kv H' => ∃ v : Nat, ∃ x2 x6 x8 x55 x58 x59 x60 x61 x69 : AV, (kv = [(2, x2), (6, x6), (8, x8), (54, AV.i v), (55, x55), (58, x58), (59, x59), (60, x60), (61, x61), (69, x69)]) ∧ (mm = rows.length - v) ∧ (H' = H ++ [some [rowsAV rows]]) ∧ (v ≤ rows.length) ∧ (∀ i, i < v → ∀ w, w < (gt rows i).length → okN (gt (gt rows i) w))) ⟨0, _, _, _, _, _, _, _, _, _, rfl, rfl, rfl, by omega, by intro i hi; omega⟩ (by rfl) ?_
            rintro mm kv H' ⟨v, x2, x6, x8, x55, x58, x59, x60, x61, x69, rfl, rfl, rfl, hv, hr⟩
            have tr : ∀ y0 y1 y2 y4 y6 y8 y9 y22 y36 y37 y38 y39 y49 y52 y53 y54 y55 y58 y59 y60 y61 y69 z2 z6 z8 z54 z55 z58 z59 z60 z61 z69 : AV, upd [(0, y0), (1, y1), (2, y2), (4, y4), (6, y6), (8, y8), (9, y9), (22, y22), (36, y36), (37, y37), (38, y38), (39, y39), (49, y49), (52, y52), (53, y53), (54, y54), (55, y55), (58, y58), (59, y59), (60, y60), (61, y61), (69, y69)] [(2, z2), (6, z6), (8, z8), (54, z54), (55, z55), (58, z58), (59, z59), (60, z60), (61, z61), (69, z69)] = [(0, y0), (1, y1), (2, z2), (4, y4), (6, z6), (8, z8), (9, y9), (22, y22), (36, y36), (37, y37), (38, y38), (39, y39), (49, y49), (52, y52), (53, y53), (54, z54), (55, z55), (58, z58), (59, z59), (60, z60), (61, z61), (69, z69)] := fun y0 y1 y2 y4 y6 y8 y9 y22 y36 y37 y38 y39 y49 y52 y53 y54 y55 y58 y59 y60 y61 y69 z2 z6 z8 z54 z55 z58 z59 z60 z61 z69 => rfl
            refine W_to (tr _ _ _ _ _ _ _ _ _ _ _ _ _ _ _ _ _ _ _ _ _ _ _ _ _ _ _ _ _ _ _ _) ?_; clear tr
            refine at_seq rfl ?_
            refine rg rfl ?_
            refine Rq ?_
            have tr : ∀ y0 y1 y2 y4 y6 y8 y9 y22 y36 y37 y38 y39 y49 y52 y53 y54 y55 y58 y59 y60 y61 y69 z0 : AV, trim [(55, z0), (0, y0), (1, y1), (2, y2), (4, y4), (6, y6), (8, y8), (9, y9), (22, y22), (36, y36), (37, y37), (38, y38), (39, y39), (49, y49), (52, y52), (53, y53), (54, y54), (55, y55), (58, y58), (59, y59), (60, y60), (61, y61), (69, y69)] [(0, y0), (1, y1), (2, y2), (4, y4), (6, y6), (8, y8), (9, y9), (22, y22), (36, y36), (37, y37), (38, y38), (39, y39), (49, y49), (52, y52), (53, y53), (54, y54), (55, y55), (58, y58), (59, y59), (60, y60), (61, y61), (69, y69)] = [(0, y0), (1, y1), (2, y2), (4, y4), (6, y6), (8, y8), (9, y9), (22, y22), (36, y36), (37, y37), (38, y38), (39, y39), (49, y49), (52, y52), (53, y53), (54, y54), (55, z0), (58, y58), (59, y59), (60, y60), (61, y61), (69, y69)] := fun y0 y1 y2 y4 y6 y8 y9 y22 y36 y37 y38 y39 y49 y52 y53 y54 y55 y58 y59 y60 y61 y69 z0 => rfl
            refine R_nil (tr _ _ _ _ _ _ _ _ _ _ _ _ _ _ _ _ _ _ _ _ _ _ _) ?_; clear tr
            refine then_n ?_
            refine at_seq rfl ?_
            refine cdd (fun h7 => ?_) (fun h7 => ?_)
            · try simp only [decide_eq_true_eq, decide_eq_false_iff_not, Bool.not_eq_true', Bool.not_eq_false', beq_iff_eq, beq_eq_false_iff_ne, ne_eq] at h7
              refine at_skip rfl ?_
              refine then_n ?_
              refine at_seq rfl ?_
              refine at_block rfl ?_
              refine at_seq rfl ?_
              refine rg rfl ?_
              refine Rq ?_
              refine Rq ?_
              refine Rq ?_
              have tr : ∀ y0 y1 y2 y4 y6 y8 y9 y22 y36 y37 y38 y39 y49 y52 y53 y54 y55 y58 y59 y60 y61 y69 z0 z1 z2 : AV, trim [(6, z2), (57, z1), (56, z0), (0, y0), (1, y1), (2, y2), (4, y4), (6, y6), (8, y8), (9, y9), (22, y22), (36, y36), (37, y37), (38, y38), (39, y39), (49, y49), (52, y52), (53, y53), (54, y54), (55, y55), (58, y58), (59, y59), (60, y60), (61, y61), (69, y69)] [(0, y0), (1, y1), (2, y2), (4, y4), (6, y6), (8, y8), (9, y9), (22, y22), (36, y36), (37, y37), (38, y38), (39, y39), (49, y49), (52, y52), (53, y53), (54, y54), (55, y55), (58, y58), (59, y59), (60, y60), (61, y61), (69, y69)] = [(0, y0), (1, y1), (2, y2), (4, y4), (6, z2), (8, y8), (9, y9), (22, y22), (36, y36), (37, y37), (38, y38), (39, y39), (49, y49), (52, y52), (53, y53), (54, y54), (55, y55), (58, y58), (59, y59), (60, y60), (61, y61), (69, y69)] := fun y0 y1 y2 y4 y6 y8 y9 y22 y36 y37 y38 y39 y49 y52 y53 y54 y55 y58 y59 y60 y61 y69 z0 z1 z2 => rfl
              refine R_nil (tr _ _ _ _ _ _ _ _ _ _ _ _ _ _ _ _ _ _ _ _ _ _ _ _ _) ?_; clear tr
              refine then_n ?_
              refine at_seq rfl ?_
              refine rg rfl ?_
              have hlv := hq3 v (by omega)
              refine Rq ?_
              refine Rq ?_
              refine Rq ?_
              have tr : ∀ y0 y1 y2 y4 y6 y8 y9 y22 y36 y37 y38 y39 y49 y52 y53 y54 y55 y58 y59 y60 y61 y69 z0 z1 z2 : AV, trim [(60, z2), (59, z1), (58, z0), (0, y0), (1, y1), (2, y2), (4, y4), (6, y6), (8, y8), (9, y9), (22, y22), (36, y36), (37, y37), (38, y38), (39, y39), (49, y49), (52, y52), (53, y53), (54, y54), (55, y55), (58, y58), (59, y59), (60, y60), (61, y61), (69, y69)] [(0, y0), (1, y1), (2, y2), (4, y4), (6, y6), (8, y8), (9, y9), (22, y22), (36, y36), (37, y37), (38, y38), (39, y39), (49, y49), (52, y52), (53, y53), (54, y54), (55, y55), (58, y58), (59, y59), (60, y60), (61, y61), (69, y69)] = [(0, y0), (1, y1), (2, y2), (4, y4), (6, y6), (8, y8), (9, y9), (22, y22), (36, y36), (37, y37), (38, y38), (39, y39), (49, y49), (52, y52), (53, y53), (54, y54), (55, y55), (58, z0), (59, z1), (60, z2), (61, y61), (69, y69)] := fun y0 y1 y2 y4 y6 y8 y9 y22 y36 y37 y38 y39 y49 y52 y53 y54 y55 y58 y59 y60 y61 y69 z0 z1 z2 => rfl
              refine R_nil (tr _ _ _ _ _ _ _ _ _ _ _ _ _ _ _ _ _ _ _ _ _ _ _ _ _) ?_; clear tr
              refine then_n ?_
              refine at_block rfl ?_
              refine loop_n rfl (fun mm kv H' => ∃ w : Nat, ∃ x2 x8 x61 x69 : AV, (kv = [(2, x2), (8, x8), (60, AV.i w), (61, x61), (69, x69)]) ∧ (mm = (gt rows v).length - w) ∧ (H' = H ++ [some [rowsAV rows]]) ∧ (w ≤ (gt rows v).length) ∧ (∀ j, j < w → okN (gt (gt rows v) j))) ⟨0, _, _, _, _, rfl, rfl, rfl, by omega, by intro j hj; omega⟩ (by rfl) ?_
              rintro mm kv H' ⟨w, x2, x8, x61, x69, rfl, rfl, rfl, hw, hs⟩
              have tr : ∀ y0 y1 y2 y4 y6 y8 y9 y22 y36 y37 y38 y39 y49 y52 y53 y54 y55 y58 y59 y60 y61 y69 z2 z8 z60 z61 z69 : AV, upd [(0, y0), (1, y1), (2, y2), (4, y4), (6, y6), (8, y8), (9, y9), (22, y22), (36, y36), (37, y37), (38, y38), (39, y39), (49, y49), (52, y52), (53, y53), (54, y54), (55, y55), (58, y58), (59, y59), (60, y60), (61, y61), (69, y69)] [(2, z2), (8, z8), (60, z60), (61, z61), (69, z69)] = [(0, y0), (1, y1), (2, z2), (4, y4), (6, y6), (8, z8), (9, y9), (22, y22), (36, y36), (37, y37), (38, y38), (39, y39), (49, y49), (52, y52), (53, y53), (54, y54), (55, y55), (58, y58), (59, y59), (60, z60), (61, z61), (69, z69)] := fun y0 y1 y2 y4 y6 y8 y9 y22 y36 y37 y38 y39 y49 y52 y53 y54 y55 y58 y59 y60 y61 y69 z2 z8 z60 z61 z69 => rfl
              refine W_to (tr _ _ _ _ _ _ _ _ _ _ _ _ _ _ _ _ _ _ _ _ _ _ _ _ _ _ _) ?_; clear tr
              have hlv := hq3 v (by omega)
              refine at_seq rfl ?_
              refine rg rfl ?_
              refine Rq ?_
              have tr : ∀ y0 y1 y2 y4 y6 y8 y9 y22 y36 y37 y38 y39 y49 y52 y53 y54 y55 y58 y59 y60 y61 y69 z0 : AV, trim [(61, z0), (0, y0), (1, y1), (2, y2), (4, y4), (6, y6), (8, y8), (9, y9), (22, y22), (36, y36), (37, y37), (38, y38), (39, y39), (49, y49), (52, y52), (53, y53), (54, y54), (55, y55), (58, y58), (59, y59), (60, y60), (61, y61), (69, y69)] [(0, y0), (1, y1), (2, y2), (4, y4), (6, y6), (8, y8), (9, y9), (22, y22), (36, y36), (37, y37), (38, y38), (39, y39), (49, y49), (52, y52), (53, y53), (54, y54), (55, y55), (58, y58), (59, y59), (60, y60), (61, y61), (69, y69)] = [(0, y0), (1, y1), (2, y2), (4, y4), (6, y6), (8, y8), (9, y9), (22, y22), (36, y36), (37, y37), (38, y38), (39, y39), (49, y49), (52, y52), (53, y53), (54, y54), (55, y55), (58, y58), (59, y59), (60, y60), (61, z0), (69, y69)] := fun y0 y1 y2 y4 y6 y8 y9 y22 y36 y37 y38 y39 y49 y52 y53 y54 y55 y58 y59 y60 y61 y69 z0 => rfl
              refine R_nil (tr _ _ _ _ _ _ _ _ _ _ _ _ _ _ _ _ _ _ _ _ _ _ _) ?_; clear tr
              refine then_n ?_
              refine at_seq rfl ?_
              refine cdd (fun h8 => ?_) (fun h8 => ?_)
              · try simp only [decide_eq_true_eq, decide_eq_false_iff_not, Bool.not_eq_true', Bool.not_eq_false', beq_iff_eq, beq_eq_false_iff_ne, ne_eq] at h8
                refine at_skip rfl ?_
                refine then_n ?_
                refine at_seq rfl ?_
                refine at_block rfl ?_
                refine at_seq rfl ?_
                refine rg rfl ?_
                refine Rq ?_
                refine Rq ?_
                refine Rq ?_
                have tr : ∀ y0 y1 y2 y4 y6 y8 y9 y22 y36 y37 y38 y39 y49 y52 y53 y54 y55 y58 y59 y60 y61 y69 z0 z1 z2 : AV, trim [(8, z2), (63, z1), (62, z0), (0, y0), (1, y1), (2, y2), (4, y4), (6, y6), (8, y8), (9, y9), (22, y22), (36, y36), (37, y37), (38, y38), (39, y39), (49, y49), (52, y52), (53, y53), (54, y54), (55, y55), (58, y58), (59, y59), (60, y60), (61, y61), (69, y69)] [(0, y0), (1, y1), (2, y2), (4, y4), (6, y6), (8, y8), (9, y9), (22, y22), (36, y36), (37, y37), (38, y38), (39, y39), (49, y49), (52, y52), (53, y53), (54, y54), (55, y55), (58, y58), (59, y59), (60, y60), (61, y61), (69, y69)] = [(0, y0), (1, y1), (2, y2), (4, y4), (6, y6), (8, z2), (9, y9), (22, y22), (36, y36), (37, y37), (38, y38), (39, y39), (49, y49), (52, y52), (53, y53), (54, y54), (55, y55), (58, y58), (59, y59), (60, y60), (61, y61), (69, y69)] := fun y0 y1 y2 y4 y6 y8 y9 y22 y36 y37 y38 y39 y49 y52 y53 y54 y55 y58 y59 y60 y61 y69 z0 z1 z2 => rfl
                refine R_nil (tr _ _ _ _ _ _ _ _ _ _ _ _ _ _ _ _ _ _ _ _ _ _ _ _ _) ?_; clear tr
                refine then_n ?_
                refine at_seq rfl ?_
                refine rg rfl ?_
                refine Rq ?_
                refine Rq ?_
                refine Rq ?_
                refine Rp_split (fun h9 => ?_) (fun h9 => ?_)
                · try simp only [decide_eq_true_eq, decide_eq_false_iff_not, Bool.not_eq_true', Bool.not_eq_false', beq_iff_eq, beq_eq_false_iff_ne, ne_eq] at h9
                  refine Rn ?_
                  refine Rn ?_
                  refine Rq ?_
                  have tr : ∀ y0 y1 y2 y4 y6 y8 y9 y22 y36 y37 y38 y39 y49 y52 y53 y54 y55 y58 y59 y60 y61 y69 z0 z1 z2 z3 z4 z5 : AV, trim [(69, z5), (68, z4), (67, z3), (66, z2), (65, z1), (64, z0), (0, y0), (1, y1), (2, y2), (4, y4), (6, y6), (8, y8), (9, y9), (22, y22), (36, y36), (37, y37), (38, y38), (39, y39), (49, y49), (52, y52), (53, y53), (54, y54), (55, y55), (58, y58), (59, y59), (60, y60), (61, y61), (69, y69)] [(0, y0), (1, y1), (2, y2), (4, y4), (6, y6), (8, y8), (9, y9), (22, y22), (36, y36), (37, y37), (38, y38), (39, y39), (49, y49), (52, y52), (53, y53), (54, y54), (55, y55), (58, y58), (59, y59), (60, y60), (61, y61), (69, y69)] = [(0, y0), (1, y1), (2, y2), (4, y4), (6, y6), (8, y8), (9, y9), (22, y22), (36, y36), (37, y37), (38, y38), (39, y39), (49, y49), (52, y52), (53, y53), (54, y54), (55, y55), (58, y58), (59, y59), (60, y60), (61, y61), (69, z5)] := fun y0 y1 y2 y4 y6 y8 y9 y22 y36 y37 y38 y39 y49 y52 y53 y54 y55 y58 y59 y60 y61 y69 z0 z1 z2 z3 z4 z5 => rfl
                  refine R_nil (tr _ _ _ _ _ _ _ _ _ _ _ _ _ _ _ _ _ _ _ _ _ _ _ _ _ _ _ _) ?_; clear tr
                  refine then_n ?_
                  refine cdt ?_
                  refine at_seq rfl ?_
                  refine rg rfl ?_
                  refine Rq ?_
                  have tr : ∀ y0 y1 y2 y4 y6 y8 y9 y22 y36 y37 y38 y39 y49 y52 y53 y54 y55 y58 y59 y60 y61 y69 z0 : AV, trim [(2, z0), (0, y0), (1, y1), (2, y2), (4, y4), (6, y6), (8, y8), (9, y9), (22, y22), (36, y36), (37, y37), (38, y38), (39, y39), (49, y49), (52, y52), (53, y53), (54, y54), (55, y55), (58, y58), (59, y59), (60, y60), (61, y61), (69, y69)] [(0, y0), (1, y1), (2, y2), (4, y4), (6, y6), (8, y8), (9, y9), (22, y22), (36, y36), (37, y37), (38, y38), (39, y39), (49, y49), (52, y52), (53, y53), (54, y54), (55, y55), (58, y58), (59, y59), (60, y60), (61, y61), (69, y69)] = [(0, y0), (1, y1), (2, z0), (4, y4), (6, y6), (8, y8), (9, y9), (22, y22), (36, y36), (37, y37), (38, y38), (39, y39), (49, y49), (52, y52), (53, y53), (54, y54), (55, y55), (58, y58), (59, y59), (60, y60), (61, y61), (69, y69)] := fun y0 y1 y2 y4 y6 y8 y9 y22 y36 y37 y38 y39 y49 y52 y53 y54 y55 y58 y59 y60 y61 y69 z0 => rfl
                  refine R_nil (tr _ _ _ _ _ _ _ _ _ _ _ _ _ _ _ _ _ _ _ _ _ _ _) ?_; clear tr
                  refine then_n ?_
                  refine at_ret rfl ?_
                  refine blk_r ?_
                  refine then_r ?_
                  refine then_r ?_
                  refine blk_r ?_
                  refine blk_r ?_
                  refine then_r ?_
                  refine then_r ?_
                  refine blk_r ?_
                  refine then_r ?_
                  refine fpure ?_
                  refine ⟨?_, rfl⟩
                  rw [shapeS, if_neg (by omega), if_neg (by omega), if_neg (fun hh => hh hq3), if_pos (fun hh => absurd (hh v (by omega) w (by omega)) (fun ho => absurd ho.1 (by omega)))]
                · try simp only [decide_eq_true_eq, decide_eq_false_iff_not, Bool.not_eq_true', Bool.not_eq_false', beq_iff_eq, beq_eq_false_iff_ne, ne_eq] at h9
                  refine Ry ?_
                  refine Rq ?_
                  refine Ry ?_
                  refine Rq ?_
                  refine Rq ?_
                  have tr : ∀ y0 y1 y2 y4 y6 y8 y9 y22 y36 y37 y38 y39 y49 y52 y53 y54 y55 y58 y59 y60 y61 y69 z0 z1 z2 z3 z4 z5 : AV, trim [(69, z5), (68, z4), (67, z3), (66, z2), (65, z1), (64, z0), (0, y0), (1, y1), (2, y2), (4, y4), (6, y6), (8, y8), (9, y9), (22, y22), (36, y36), (37, y37), (38, y38), (39, y39), (49, y49), (52, y52), (53, y53), (54, y54), (55, y55), (58, y58), (59, y59), (60, y60), (61, y61), (69, y69)] [(0, y0), (1, y1), (2, y2), (4, y4), (6, y6), (8, y8), (9, y9), (22, y22), (36, y36), (37, y37), (38, y38), (39, y39), (49, y49), (52, y52), (53, y53), (54, y54), (55, y55), (58, y58), (59, y59), (60, y60), (61, y61), (69, y69)] = [(0, y0), (1, y1), (2, y2), (4, y4), (6, y6), (8, y8), (9, y9), (22, y22), (36, y36), (37, y37), (38, y38), (39, y39), (49, y49), (52, y52), (53, y53), (54, y54), (55, y55), (58, y58), (59, y59), (60, y60), (61, y61), (69, z5)] := fun y0 y1 y2 y4 y6 y8 y9 y22 y36 y37 y38 y39 y49 y52 y53 y54 y55 y58 y59 y60 y61 y69 z0 z1 z2 z3 z4 z5 => rfl
                  refine R_nil (tr _ _ _ _ _ _ _ _ _ _ _ _ _ _ _ _ _ _ _ _ _ _ _ _ _ _ _ _) ?_; clear tr
                  refine then_n ?_
                  refine cdd (fun h10 => ?_) (fun h10 => ?_)
                  · try simp only [decide_eq_true_eq, decide_eq_false_iff_not, Bool.not_eq_true', Bool.not_eq_false', beq_iff_eq, beq_eq_false_iff_ne, ne_eq] at h10
                    refine at_seq rfl ?_
                    refine rg rfl ?_
                    refine Rq ?_
                    have tr : ∀ y0 y1 y2 y4 y6 y8 y9 y22 y36 y37 y38 y39 y49 y52 y53 y54 y55 y58 y59 y60 y61 y69 z0 : AV, trim [(2, z0), (0, y0), (1, y1), (2, y2), (4, y4), (6, y6), (8, y8), (9, y9), (22, y22), (36, y36), (37, y37), (38, y38), (39, y39), (49, y49), (52, y52), (53, y53), (54, y54), (55, y55), (58, y58), (59, y59), (60, y60), (61, y61), (69, y69)] [(0, y0), (1, y1), (2, y2), (4, y4), (6, y6), (8, y8), (9, y9), (22, y22), (36, y36), (37, y37), (38, y38), (39, y39), (49, y49), (52, y52), (53, y53), (54, y54), (55, y55), (58, y58), (59, y59), (60, y60), (61, y61), (69, y69)] = [(0, y0), (1, y1), (2, z0), (4, y4), (6, y6), (8, y8), (9, y9), (22, y22), (36, y36), (37, y37), (38, y38), (39, y39), (49, y49), (52, y52), (53, y53), (54, y54), (55, y55), (58, y58), (59, y59), (60, y60), (61, y61), (69, y69)] := fun y0 y1 y2 y4 y6 y8 y9 y22 y36 y37 y38 y39 y49 y52 y53 y54 y55 y58 y59 y60 y61 y69 z0 => rfl
                    refine R_nil (tr _ _ _ _ _ _ _ _ _ _ _ _ _ _ _ _ _ _ _ _ _ _ _) ?_; clear tr
                    refine then_n ?_
                    refine at_ret rfl ?_
                    refine blk_r ?_
                    refine then_r ?_
                    refine then_r ?_
                    refine blk_r ?_
                    refine blk_r ?_
                    refine then_r ?_
                    refine then_r ?_
                    refine blk_r ?_
                    refine then_r ?_
                    refine fpure ?_
                    refine ⟨?_, rfl⟩
                    rw [shapeS, if_neg (by omega), if_neg (by omega), if_neg (fun hh => hh hq3), if_pos (fun hh => absurd (hh v (by omega) w (by omega)) (fun ho => absurd ho.2 (by omega)))]
                  · try simp only [decide_eq_true_eq, decide_eq_false_iff_not, Bool.not_eq_true', Bool.not_eq_false', beq_iff_eq, beq_eq_false_iff_ne, ne_eq] at h10
                    refine at_skip rfl ?_
                    refine blk_n ?_
                    refine then_n ?_
                    refine rg rfl ?_
                    refine Rq ?_
                    refine Rq ?_
                    have tr : ∀ y0 y1 y2 y4 y6 y8 y9 y22 y36 y37 y38 y39 y49 y52 y53 y54 y55 y58 y59 y60 y61 y69 z0 z1 : AV, trim [(60, z1), (70, z0), (0, y0), (1, y1), (2, y2), (4, y4), (6, y6), (8, y8), (9, y9), (22, y22), (36, y36), (37, y37), (38, y38), (39, y39), (49, y49), (52, y52), (53, y53), (54, y54), (55, y55), (58, y58), (59, y59), (60, y60), (61, y61), (69, y69)] [(0, y0), (1, y1), (2, y2), (4, y4), (6, y6), (8, y8), (9, y9), (22, y22), (36, y36), (37, y37), (38, y38), (39, y39), (49, y49), (52, y52), (53, y53), (54, y54), (55, y55), (58, y58), (59, y59), (60, y60), (61, y61), (69, y69)] = [(0, y0), (1, y1), (2, y2), (4, y4), (6, y6), (8, y8), (9, y9), (22, y22), (36, y36), (37, y37), (38, y38), (39, y39), (49, y49), (52, y52), (53, y53), (54, y54), (55, y55), (58, y58), (59, y59), (60, z1), (61, y61), (69, y69)] := fun y0 y1 y2 y4 y6 y8 y9 y22 y36 y37 y38 y39 y49 y52 y53 y54 y55 y58 y59 y60 y61 y69 z0 z1 => rfl
                    refine R_nil (tr _ _ _ _ _ _ _ _ _ _ _ _ _ _ _ _ _ _ _ _ _ _ _ _) ?_; clear tr
                    refine then_n ?_
                    exact ⟨_, _, ⟨w + 1, _, _, _, _, rfl, rfl, rfl, by omega, by exact all_step hs ⟨by omega, by omega⟩⟩, by rfl, by omega⟩
              · try simp only [decide_eq_true_eq, decide_eq_false_iff_not, Bool.not_eq_true', Bool.not_eq_false', beq_iff_eq, beq_eq_false_iff_ne, ne_eq] at h8
                refine at_exit rfl ?_
                refine then_x ?_
                refine then_x ?_
                refine blk_x ?_
                refine blk_n ?_
                refine then_n ?_
                refine rg rfl ?_
                refine Rq ?_
                refine Rq ?_
                have tr : ∀ y0 y1 y2 y4 y6 y8 y9 y22 y36 y37 y38 y39 y49 y52 y53 y54 y55 y58 y59 y60 y61 y69 z0 z1 : AV, trim [(54, z1), (71, z0), (0, y0), (1, y1), (2, y2), (4, y4), (6, y6), (8, y8), (9, y9), (22, y22), (36, y36), (37, y37), (38, y38), (39, y39), (49, y49), (52, y52), (53, y53), (54, y54), (55, y55), (58, y58), (59, y59), (60, y60), (61, y61), (69, y69)] [(0, y0), (1, y1), (2, y2), (4, y4), (6, y6), (8, y8), (9, y9), (22, y22), (36, y36), (37, y37), (38, y38), (39, y39), (49, y49), (52, y52), (53, y53), (54, y54), (55, y55), (58, y58), (59, y59), (60, y60), (61, y61), (69, y69)] = [(0, y0), (1, y1), (2, y2), (4, y4), (6, y6), (8, y8), (9, y9), (22, y22), (36, y36), (37, y37), (38, y38), (39, y39), (49, y49), (52, y52), (53, y53), (54, z1), (55, y55), (58, y58), (59, y59), (60, y60), (61, y61), (69, y69)] := fun y0 y1 y2 y4 y6 y8 y9 y22 y36 y37 y38 y39 y49 y52 y53 y54 y55 y58 y59 y60 y61 y69 z0 z1 => rfl
                refine R_nil (tr _ _ _ _ _ _ _ _ _ _ _ _ _ _ _ _ _ _ _ _ _ _ _ _) ?_; clear tr
                refine then_n ?_
                exact ⟨_, _, ⟨v + 1, _, _, _, _, _, _, _, _, _, rfl, rfl, rfl, by omega, by exact all_step hr fun w hw => hs w (by omega)⟩, by rfl, by omega⟩
            · try simp only [decide_eq_true_eq, decide_eq_false_iff_not, Bool.not_eq_true', Bool.not_eq_false', beq_iff_eq, beq_eq_false_iff_ne, ne_eq] at h7
              refine at_exit rfl ?_
              refine then_x ?_
              refine then_x ?_
              refine blk_x ?_
              refine then_n ?_
              refine at_seq rfl ?_
              refine rg rfl ?_
              refine Rq ?_
              have tr : ∀ y0 y1 y2 y4 y6 y8 y9 y22 y36 y37 y38 y39 y49 y52 y53 y54 y55 y58 y59 y60 y61 y69 z0 : AV, trim [(2, z0), (0, y0), (1, y1), (2, y2), (4, y4), (6, y6), (8, y8), (9, y9), (22, y22), (36, y36), (37, y37), (38, y38), (39, y39), (49, y49), (52, y52), (53, y53), (54, y54), (55, y55), (58, y58), (59, y59), (60, y60), (61, y61), (69, y69)] [(0, y0), (1, y1), (2, y2), (4, y4), (6, y6), (8, y8), (9, y9), (22, y22), (36, y36), (37, y37), (38, y38), (39, y39), (49, y49), (52, y52), (53, y53), (54, y54), (55, y55), (58, y58), (59, y59), (60, y60), (61, y61), (69, y69)] = [(0, y0), (1, y1), (2, z0), (4, y4), (6, y6), (8, y8), (9, y9), (22, y22), (36, y36), (37, y37), (38, y38), (39, y39), (49, y49), (52, y52), (53, y53), (54, y54), (55, y55), (58, y58), (59, y59), (60, y60), (61, y61), (69, y69)] := fun y0 y1 y2 y4 y6 y8 y9 y22 y36 y37 y38 y39 y49 y52 y53 y54 y55 y58 y59 y60 y61 y69 z0 => rfl
              refine R_nil (tr _ _ _ _ _ _ _ _ _ _ _ _ _ _ _ _ _ _ _ _ _ _ _) ?_; clear tr
              refine then_n ?_
              refine at_ret rfl ?_
              refine fpure ?_
              refine ⟨?_, rfl⟩
              rw [shapeS, if_neg (by omega), if_neg (by omega), if_neg (fun hh => hh hq3), if_neg (fun hh => hh fun i hi => hr i (by omega))]

end Go.Proofs.Ytaoondlakhocnaa
