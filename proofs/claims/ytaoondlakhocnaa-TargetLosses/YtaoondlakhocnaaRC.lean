/-
  Walks of chapters 37, 39 and 40. The steps are written by program (walk.py).
-/
import Derived.Test.YtaoondlakhocnaaRA
set_option linter.unusedSimpArgs false
set_option linter.unusedVariables false
set_option maxHeartbeats 40000000
set_option maxRecDepth 4000
namespace Go.Proofs.Ytaoondlakhocnaa
open Go Go.Am

theorem rshape_ok (lim : Nat) (H : Heap) (rows : List (List Int)) :
    ACall sig lim 70 [.agg [rowsAV rows]] H fun r H' => r = AV.i (shapeS rows) ∧ H' = H := by
  refine ACall_pure (fa := fa70) rfl rfl rfl rfl ?_
  have tr : ∀ a0 : AV, env0 fa70.keep [a0] = [(0, a0), (1, .any), (2, .any), (4, .any), (6, .any), (8, .any), (20, .any), (32, .any), (34, .any), (35, .any), (36, .any), (37, .any), (47, .any), (50, .any), (51, .any), (52, .any), (53, .any), (56, .any), (57, .any), (58, .any), (59, .any), (67, .any)] := fun a0 => rfl
  refine W_to (tr _) ?_; clear tr
  refine at_seq rfl ?_
  refine rg rfl ?_
  refine R_box rfl (by simp (disch := first | omega | (simp only [List.length_map, List.length_append, List.length_set, List.length_cons, List.length_nil, List.length_take, List.length_drop]; omega)) only [go_sem, ↓reduceIte, Nat.reduceEqDiff, reduceCtorEq]; rfl) rfl rfl ?_
  refine Rq ?_
  have tr : ∀ y0 y1 y2 y4 y6 y8 y20 y32 y34 y35 y36 y37 y47 y50 y51 y52 y53 y56 y57 y58 y59 y67 z0 z1 : AV, trim [(2, z1), (1, z0), (0, y0), (1, y1), (2, y2), (4, y4), (6, y6), (8, y8), (20, y20), (32, y32), (34, y34), (35, y35), (36, y36), (37, y37), (47, y47), (50, y50), (51, y51), (52, y52), (53, y53), (56, y56), (57, y57), (58, y58), (59, y59), (67, y67)] [(0, y0), (1, y1), (2, y2), (4, y4), (6, y6), (8, y8), (20, y20), (32, y32), (34, y34), (35, y35), (36, y36), (37, y37), (47, y47), (50, y50), (51, y51), (52, y52), (53, y53), (56, y56), (57, y57), (58, y58), (59, y59), (67, y67)] = [(0, y0), (1, z0), (2, z1), (4, y4), (6, y6), (8, y8), (20, y20), (32, y32), (34, y34), (35, y35), (36, y36), (37, y37), (47, y47), (50, y50), (51, y51), (52, y52), (53, y53), (56, y56), (57, y57), (58, y58), (59, y59), (67, y67)] := fun y0 y1 y2 y4 y6 y8 y20 y32 y34 y35 y36 y37 y47 y50 y51 y52 y53 y56 y57 y58 y59 y67 z0 z1 => rfl
  refine R_nil (tr _ _ _ _ _ _ _ _ _ _ _ _ _ _ _ _ _ _ _ _ _ _ _ _) ?_; clear tr
  refine then_n ?_
  refine at_seq rfl ?_
  refine at_seq rfl ?_
  refine rg rfl ?_
  refine Rq ?_
  refine Rq ?_
  refine Rq ?_
  refine Rq ?_
  refine Rq ?_
  refine Rp_split (fun h1 => ?_) (fun h1 => ?_)
  · try simp only [decide_eq_true_eq, decide_eq_false_iff_not, Bool.not_eq_true', Bool.not_eq_false', beq_iff_eq, beq_eq_false_iff_ne, ne_eq] at h1
    refine Rn ?_
    refine Rn ?_
    refine Rn ?_
    refine Rn ?_
    refine Rn ?_
    refine Rn ?_
    refine Rq ?_
    have tr : ∀ y0 y1 y2 y4 y6 y8 y20 y32 y34 y35 y36 y37 y47 y50 y51 y52 y53 y56 y57 y58 y59 y67 z0 z1 z2 z3 z4 z5 z6 z7 z8 z9 z10 z11 : AV, trim [(20, z11), (19, z10), (18, z9), (17, z8), (16, z7), (15, z6), (14, z5), (13, z4), (12, z3), (11, z2), (10, z1), (9, z0), (0, y0), (1, y1), (2, y2), (4, y4), (6, y6), (8, y8), (20, y20), (32, y32), (34, y34), (35, y35), (36, y36), (37, y37), (47, y47), (50, y50), (51, y51), (52, y52), (53, y53), (56, y56), (57, y57), (58, y58), (59, y59), (67, y67)] [(0, y0), (1, y1), (2, y2), (4, y4), (6, y6), (8, y8), (20, y20), (32, y32), (34, y34), (35, y35), (36, y36), (37, y37), (47, y47), (50, y50), (51, y51), (52, y52), (53, y53), (56, y56), (57, y57), (58, y58), (59, y59), (67, y67)] = [(0, y0), (1, y1), (2, y2), (4, y4), (6, y6), (8, y8), (20, z11), (32, y32), (34, y34), (35, y35), (36, y36), (37, y37), (47, y47), (50, y50), (51, y51), (52, y52), (53, y53), (56, y56), (57, y57), (58, y58), (59, y59), (67, y67)] := fun y0 y1 y2 y4 y6 y8 y20 y32 y34 y35 y36 y37 y47 y50 y51 y52 y53 y56 y57 y58 y59 y67 z0 z1 z2 z3 z4 z5 z6 z7 z8 z9 z10 z11 => rfl
    refine R_nil (tr _ _ _ _ _ _ _ _ _ _ _ _ _ _ _ _ _ _ _ _ _ _ _ _ _ _ _ _ _ _ _ _ _ _) ?_; clear tr
    refine then_n ?_
    refine cdt ?_
    refine at_seq rfl ?_
    refine rg rfl ?_
    refine Rq ?_
    have tr : ∀ y0 y1 y2 y4 y6 y8 y20 y32 y34 y35 y36 y37 y47 y50 y51 y52 y53 y56 y57 y58 y59 y67 z0 : AV, trim [(2, z0), (0, y0), (1, y1), (2, y2), (4, y4), (6, y6), (8, y8), (20, y20), (32, y32), (34, y34), (35, y35), (36, y36), (37, y37), (47, y47), (50, y50), (51, y51), (52, y52), (53, y53), (56, y56), (57, y57), (58, y58), (59, y59), (67, y67)] [(0, y0), (1, y1), (2, y2), (4, y4), (6, y6), (8, y8), (20, y20), (32, y32), (34, y34), (35, y35), (36, y36), (37, y37), (47, y47), (50, y50), (51, y51), (52, y52), (53, y53), (56, y56), (57, y57), (58, y58), (59, y59), (67, y67)] = [(0, y0), (1, y1), (2, z0), (4, y4), (6, y6), (8, y8), (20, y20), (32, y32), (34, y34), (35, y35), (36, y36), (37, y37), (47, y47), (50, y50), (51, y51), (52, y52), (53, y53), (56, y56), (57, y57), (58, y58), (59, y59), (67, y67)] := fun y0 y1 y2 y4 y6 y8 y20 y32 y34 y35 y36 y37 y47 y50 y51 y52 y53 y56 y57 y58 y59 y67 z0 => rfl
    refine R_nil (tr _ _ _ _ _ _ _ _ _ _ _ _ _ _ _ _ _ _ _ _ _ _ _) ?_; clear tr
    refine then_n ?_
    refine at_ret rfl ?_
    refine then_r ?_
    refine fpure ?_
    refine ⟨?_, rfl⟩
    rw [shapeS, if_pos (by omega)]
  · try simp only [decide_eq_true_eq, decide_eq_false_iff_not, Bool.not_eq_true', Bool.not_eq_false', beq_iff_eq, beq_eq_false_iff_ne, ne_eq] at h1
    refine Ry ?_
    refine Rq ?_
    refine Ry ?_
    refine Rq ?_
    refine Ry ?_
    refine Rq ?_
    refine Ry ?_
    refine Rq ?_
    refine Ry ?_
    refine Rq ?_
    refine Ry ?_
    refine Rq ?_
    refine Rq ?_
    have tr : ∀ y0 y1 y2 y4 y6 y8 y20 y32 y34 y35 y36 y37 y47 y50 y51 y52 y53 y56 y57 y58 y59 y67 z0 z1 z2 z3 z4 z5 z6 z7 z8 z9 z10 z11 : AV, trim [(20, z11), (19, z10), (18, z9), (17, z8), (16, z7), (15, z6), (14, z5), (13, z4), (12, z3), (11, z2), (10, z1), (9, z0), (0, y0), (1, y1), (2, y2), (4, y4), (6, y6), (8, y8), (20, y20), (32, y32), (34, y34), (35, y35), (36, y36), (37, y37), (47, y47), (50, y50), (51, y51), (52, y52), (53, y53), (56, y56), (57, y57), (58, y58), (59, y59), (67, y67)] [(0, y0), (1, y1), (2, y2), (4, y4), (6, y6), (8, y8), (20, y20), (32, y32), (34, y34), (35, y35), (36, y36), (37, y37), (47, y47), (50, y50), (51, y51), (52, y52), (53, y53), (56, y56), (57, y57), (58, y58), (59, y59), (67, y67)] = [(0, y0), (1, y1), (2, y2), (4, y4), (6, y6), (8, y8), (20, z11), (32, y32), (34, y34), (35, y35), (36, y36), (37, y37), (47, y47), (50, y50), (51, y51), (52, y52), (53, y53), (56, y56), (57, y57), (58, y58), (59, y59), (67, y67)] := fun y0 y1 y2 y4 y6 y8 y20 y32 y34 y35 y36 y37 y47 y50 y51 y52 y53 y56 y57 y58 y59 y67 z0 z1 z2 z3 z4 z5 z6 z7 z8 z9 z10 z11 => rfl
    refine R_nil (tr _ _ _ _ _ _ _ _ _ _ _ _ _ _ _ _ _ _ _ _ _ _ _ _ _ _ _ _ _ _ _ _ _ _) ?_; clear tr
    refine then_n ?_
    refine cdd (fun h2 => ?_) (fun h2 => ?_)
    · try simp only [decide_eq_true_eq, decide_eq_false_iff_not, Bool.not_eq_true', Bool.not_eq_false', beq_iff_eq, beq_eq_false_iff_ne, ne_eq] at h2
      refine at_seq rfl ?_
      refine rg rfl ?_
      refine Rq ?_
      have tr : ∀ y0 y1 y2 y4 y6 y8 y20 y32 y34 y35 y36 y37 y47 y50 y51 y52 y53 y56 y57 y58 y59 y67 z0 : AV, trim [(2, z0), (0, y0), (1, y1), (2, y2), (4, y4), (6, y6), (8, y8), (20, y20), (32, y32), (34, y34), (35, y35), (36, y36), (37, y37), (47, y47), (50, y50), (51, y51), (52, y52), (53, y53), (56, y56), (57, y57), (58, y58), (59, y59), (67, y67)] [(0, y0), (1, y1), (2, y2), (4, y4), (6, y6), (8, y8), (20, y20), (32, y32), (34, y34), (35, y35), (36, y36), (37, y37), (47, y47), (50, y50), (51, y51), (52, y52), (53, y53), (56, y56), (57, y57), (58, y58), (59, y59), (67, y67)] = [(0, y0), (1, y1), (2, z0), (4, y4), (6, y6), (8, y8), (20, y20), (32, y32), (34, y34), (35, y35), (36, y36), (37, y37), (47, y47), (50, y50), (51, y51), (52, y52), (53, y53), (56, y56), (57, y57), (58, y58), (59, y59), (67, y67)] := fun y0 y1 y2 y4 y6 y8 y20 y32 y34 y35 y36 y37 y47 y50 y51 y52 y53 y56 y57 y58 y59 y67 z0 => rfl
      refine R_nil (tr _ _ _ _ _ _ _ _ _ _ _ _ _ _ _ _ _ _ _ _ _ _ _) ?_; clear tr
      refine then_n ?_
      refine at_ret rfl ?_
      refine then_r ?_
      refine fpure ?_
      refine ⟨?_, rfl⟩
      rw [shapeS, if_pos (by omega)]
    · try simp only [decide_eq_true_eq, decide_eq_false_iff_not, Bool.not_eq_true', Bool.not_eq_false', beq_iff_eq, beq_eq_false_iff_ne, ne_eq] at h2
      refine at_skip rfl ?_
      refine then_n ?_
      refine at_seq rfl ?_
      refine at_seq rfl ?_
      refine rg rfl ?_
      refine Rq ?_
      refine Rq ?_
      refine Rq ?_
      refine Rq ?_
      refine Rq ?_
      refine Rp_split (fun h3 => ?_) (fun h3 => ?_)
      · try simp only [decide_eq_true_eq, decide_eq_false_iff_not, Bool.not_eq_true', Bool.not_eq_false', beq_iff_eq, beq_eq_false_iff_ne, ne_eq] at h3
        refine Rn ?_
        refine Rn ?_
        refine Rn ?_
        refine Rn ?_
        refine Rn ?_
        refine Rn ?_
        refine Rq ?_
        have tr : ∀ y0 y1 y2 y4 y6 y8 y20 y32 y34 y35 y36 y37 y47 y50 y51 y52 y53 y56 y57 y58 y59 y67 z0 z1 z2 z3 z4 z5 z6 z7 z8 z9 z10 z11 : AV, trim [(32, z11), (31, z10), (30, z9), (29, z8), (28, z7), (27, z6), (26, z5), (25, z4), (24, z3), (23, z2), (22, z1), (21, z0), (0, y0), (1, y1), (2, y2), (4, y4), (6, y6), (8, y8), (20, y20), (32, y32), (34, y34), (35, y35), (36, y36), (37, y37), (47, y47), (50, y50), (51, y51), (52, y52), (53, y53), (56, y56), (57, y57), (58, y58), (59, y59), (67, y67)] [(0, y0), (1, y1), (2, y2), (4, y4), (6, y6), (8, y8), (20, y20), (32, y32), (34, y34), (35, y35), (36, y36), (37, y37), (47, y47), (50, y50), (51, y51), (52, y52), (53, y53), (56, y56), (57, y57), (58, y58), (59, y59), (67, y67)] = [(0, y0), (1, y1), (2, y2), (4, y4), (6, y6), (8, y8), (20, y20), (32, z11), (34, y34), (35, y35), (36, y36), (37, y37), (47, y47), (50, y50), (51, y51), (52, y52), (53, y53), (56, y56), (57, y57), (58, y58), (59, y59), (67, y67)] := fun y0 y1 y2 y4 y6 y8 y20 y32 y34 y35 y36 y37 y47 y50 y51 y52 y53 y56 y57 y58 y59 y67 z0 z1 z2 z3 z4 z5 z6 z7 z8 z9 z10 z11 => rfl
        refine R_nil (tr _ _ _ _ _ _ _ _ _ _ _ _ _ _ _ _ _ _ _ _ _ _ _ _ _ _ _ _ _ _ _ _ _ _) ?_; clear tr
        refine then_n ?_
        refine cdt ?_
        refine at_seq rfl ?_
        refine rg rfl ?_
        refine Rq ?_
        have tr : ∀ y0 y1 y2 y4 y6 y8 y20 y32 y34 y35 y36 y37 y47 y50 y51 y52 y53 y56 y57 y58 y59 y67 z0 : AV, trim [(2, z0), (0, y0), (1, y1), (2, y2), (4, y4), (6, y6), (8, y8), (20, y20), (32, y32), (34, y34), (35, y35), (36, y36), (37, y37), (47, y47), (50, y50), (51, y51), (52, y52), (53, y53), (56, y56), (57, y57), (58, y58), (59, y59), (67, y67)] [(0, y0), (1, y1), (2, y2), (4, y4), (6, y6), (8, y8), (20, y20), (32, y32), (34, y34), (35, y35), (36, y36), (37, y37), (47, y47), (50, y50), (51, y51), (52, y52), (53, y53), (56, y56), (57, y57), (58, y58), (59, y59), (67, y67)] = [(0, y0), (1, y1), (2, z0), (4, y4), (6, y6), (8, y8), (20, y20), (32, y32), (34, y34), (35, y35), (36, y36), (37, y37), (47, y47), (50, y50), (51, y51), (52, y52), (53, y53), (56, y56), (57, y57), (58, y58), (59, y59), (67, y67)] := fun y0 y1 y2 y4 y6 y8 y20 y32 y34 y35 y36 y37 y47 y50 y51 y52 y53 y56 y57 y58 y59 y67 z0 => rfl
        refine R_nil (tr _ _ _ _ _ _ _ _ _ _ _ _ _ _ _ _ _ _ _ _ _ _ _) ?_; clear tr
        refine then_n ?_
        refine at_ret rfl ?_
        refine then_r ?_
        refine fpure ?_
        refine ⟨?_, rfl⟩
        rw [shapeS, if_neg (by omega), if_pos (by omega)]
      · try simp only [decide_eq_true_eq, decide_eq_false_iff_not, Bool.not_eq_true', Bool.not_eq_false', beq_iff_eq, beq_eq_false_iff_ne, ne_eq] at h3
        refine Ry ?_
        refine Rq ?_
        refine Ry ?_
        refine Rq ?_
        refine Ry ?_
        refine Rq ?_
        refine Ry ?_
        refine Rq ?_
        refine Ry ?_
        refine Rq ?_
        refine Ry ?_
        refine Rq ?_
        refine Rq ?_
        have tr : ∀ y0 y1 y2 y4 y6 y8 y20 y32 y34 y35 y36 y37 y47 y50 y51 y52 y53 y56 y57 y58 y59 y67 z0 z1 z2 z3 z4 z5 z6 z7 z8 z9 z10 z11 : AV, trim [(32, z11), (31, z10), (30, z9), (29, z8), (28, z7), (27, z6), (26, z5), (25, z4), (24, z3), (23, z2), (22, z1), (21, z0), (0, y0), (1, y1), (2, y2), (4, y4), (6, y6), (8, y8), (20, y20), (32, y32), (34, y34), (35, y35), (36, y36), (37, y37), (47, y47), (50, y50), (51, y51), (52, y52), (53, y53), (56, y56), (57, y57), (58, y58), (59, y59), (67, y67)] [(0, y0), (1, y1), (2, y2), (4, y4), (6, y6), (8, y8), (20, y20), (32, y32), (34, y34), (35, y35), (36, y36), (37, y37), (47, y47), (50, y50), (51, y51), (52, y52), (53, y53), (56, y56), (57, y57), (58, y58), (59, y59), (67, y67)] = [(0, y0), (1, y1), (2, y2), (4, y4), (6, y6), (8, y8), (20, y20), (32, z11), (34, y34), (35, y35), (36, y36), (37, y37), (47, y47), (50, y50), (51, y51), (52, y52), (53, y53), (56, y56), (57, y57), (58, y58), (59, y59), (67, y67)] := fun y0 y1 y2 y4 y6 y8 y20 y32 y34 y35 y36 y37 y47 y50 y51 y52 y53 y56 y57 y58 y59 y67 z0 z1 z2 z3 z4 z5 z6 z7 z8 z9 z10 z11 => rfl
        refine R_nil (tr _ _ _ _ _ _ _ _ _ _ _ _ _ _ _ _ _ _ _ _ _ _ _ _ _ _ _ _ _ _ _ _ _ _) ?_; clear tr
        refine then_n ?_
        refine cdd (fun h4 => ?_) (fun h4 => ?_)
        · try simp only [decide_eq_true_eq, decide_eq_false_iff_not, Bool.not_eq_true', Bool.not_eq_false', beq_iff_eq, beq_eq_false_iff_ne, ne_eq] at h4
          refine at_seq rfl ?_
          refine rg rfl ?_
          refine Rq ?_
          have tr : ∀ y0 y1 y2 y4 y6 y8 y20 y32 y34 y35 y36 y37 y47 y50 y51 y52 y53 y56 y57 y58 y59 y67 z0 : AV, trim [(2, z0), (0, y0), (1, y1), (2, y2), (4, y4), (6, y6), (8, y8), (20, y20), (32, y32), (34, y34), (35, y35), (36, y36), (37, y37), (47, y47), (50, y50), (51, y51), (52, y52), (53, y53), (56, y56), (57, y57), (58, y58), (59, y59), (67, y67)] [(0, y0), (1, y1), (2, y2), (4, y4), (6, y6), (8, y8), (20, y20), (32, y32), (34, y34), (35, y35), (36, y36), (37, y37), (47, y47), (50, y50), (51, y51), (52, y52), (53, y53), (56, y56), (57, y57), (58, y58), (59, y59), (67, y67)] = [(0, y0), (1, y1), (2, z0), (4, y4), (6, y6), (8, y8), (20, y20), (32, y32), (34, y34), (35, y35), (36, y36), (37, y37), (47, y47), (50, y50), (51, y51), (52, y52), (53, y53), (56, y56), (57, y57), (58, y58), (59, y59), (67, y67)] := fun y0 y1 y2 y4 y6 y8 y20 y32 y34 y35 y36 y37 y47 y50 y51 y52 y53 y56 y57 y58 y59 y67 z0 => rfl
          refine R_nil (tr _ _ _ _ _ _ _ _ _ _ _ _ _ _ _ _ _ _ _ _ _ _ _) ?_; clear tr
          refine then_n ?_
          refine at_ret rfl ?_
          refine then_r ?_
          refine fpure ?_
          refine ⟨?_, rfl⟩
          rw [shapeS, if_neg (by omega), if_pos (by omega)]
        · try simp only [decide_eq_true_eq, decide_eq_false_iff_not, Bool.not_eq_true', Bool.not_eq_false', beq_iff_eq, beq_eq_false_iff_ne, ne_eq] at h4
          refine at_skip rfl ?_
          refine then_n ?_
          refine at_seq rfl ?_
          refine at_seq rfl ?_
          refine rg rfl ?_
          refine Rq ?_
          refine Rq ?_
          refine Rq ?_
          refine Rq ?_
          have tr : ∀ y0 y1 y2 y4 y6 y8 y20 y32 y34 y35 y36 y37 y47 y50 y51 y52 y53 y56 y57 y58 y59 y67 z0 z1 z2 z3 : AV, trim [(36, z3), (35, z2), (34, z1), (33, z0), (0, y0), (1, y1), (2, y2), (4, y4), (6, y6), (8, y8), (20, y20), (32, y32), (34, y34), (35, y35), (36, y36), (37, y37), (47, y47), (50, y50), (51, y51), (52, y52), (53, y53), (56, y56), (57, y57), (58, y58), (59, y59), (67, y67)] [(0, y0), (1, y1), (2, y2), (4, y4), (6, y6), (8, y8), (20, y20), (32, y32), (34, y34), (35, y35), (36, y36), (37, y37), (47, y47), (50, y50), (51, y51), (52, y52), (53, y53), (56, y56), (57, y57), (58, y58), (59, y59), (67, y67)] = [(0, y0), (1, y1), (2, y2), (4, y4), (6, y6), (8, y8), (20, y20), (32, y32), (34, z1), (35, z2), (36, z3), (37, y37), (47, y47), (50, y50), (51, y51), (52, y52), (53, y53), (56, y56), (57, y57), (58, y58), (59, y59), (67, y67)] := fun y0 y1 y2 y4 y6 y8 y20 y32 y34 y35 y36 y37 y47 y50 y51 y52 y53 y56 y57 y58 y59 y67 z0 z1 z2 z3 => rfl
          refine R_nil (tr _ _ _ _ _ _ _ _ _ _ _ _ _ _ _ _ _ _ _ _ _ _ _ _ _ _) ?_; clear tr
          refine then_n ?_
          refine at_block rfl ?_
          refine loop_n rfl (fun mm kv H' => ∃ u : Nat, ∃ x2 x4 x37 x47 : AV, (kv = [(2, x2), (4, x4), (36, AV.i u), (37, x37), (47, x47)]) ∧ (mm = rows.length - u) ∧ (H' = H ++ [some [rowsAV rows]]) ∧ (u ≤ rows.length) ∧ (∀ i, i < u → (gt rows i).length = (gt rows 0).length)) ⟨0, _, _, _, _, rfl, rfl, rfl, by omega, by intro i hi; omega⟩ (by rfl) ?_
          rintro mm kv H' ⟨u, x2, x4, x37, x47, rfl, rfl, rfl, hu, hq⟩
          have tr : ∀ y0 y1 y2 y4 y6 y8 y20 y32 y34 y35 y36 y37 y47 y50 y51 y52 y53 y56 y57 y58 y59 y67 z2 z4 z36 z37 z47 : AV, upd [(0, y0), (1, y1), (2, y2), (4, y4), (6, y6), (8, y8), (20, y20), (32, y32), (34, y34), (35, y35), (36, y36), (37, y37), (47, y47), (50, y50), (51, y51), (52, y52), (53, y53), (56, y56), (57, y57), (58, y58), (59, y59), (67, y67)] [(2, z2), (4, z4), (36, z36), (37, z37), (47, z47)] = [(0, y0), (1, y1), (2, z2), (4, z4), (6, y6), (8, y8), (20, y20), (32, y32), (34, y34), (35, y35), (36, z36), (37, z37), (47, z47), (50, y50), (51, y51), (52, y52), (53, y53), (56, y56), (57, y57), (58, y58), (59, y59), (67, y67)] := fun y0 y1 y2 y4 y6 y8 y20 y32 y34 y35 y36 y37 y47 y50 y51 y52 y53 y56 y57 y58 y59 y67 z2 z4 z36 z37 z47 => rfl
          refine W_to (tr _ _ _ _ _ _ _ _ _ _ _ _ _ _ _ _ _ _ _ _ _ _ _ _ _ _ _) ?_; clear tr
          refine at_seq rfl ?_
          refine rg rfl ?_
          refine Rq ?_
          have tr : ∀ y0 y1 y2 y4 y6 y8 y20 y32 y34 y35 y36 y37 y47 y50 y51 y52 y53 y56 y57 y58 y59 y67 z0 : AV, trim [(37, z0), (0, y0), (1, y1), (2, y2), (4, y4), (6, y6), (8, y8), (20, y20), (32, y32), (34, y34), (35, y35), (36, y36), (37, y37), (47, y47), (50, y50), (51, y51), (52, y52), (53, y53), (56, y56), (57, y57), (58, y58), (59, y59), (67, y67)] [(0, y0), (1, y1), (2, y2), (4, y4), (6, y6), (8, y8), (20, y20), (32, y32), (34, y34), (35, y35), (36, y36), (37, y37), (47, y47), (50, y50), (51, y51), (52, y52), (53, y53), (56, y56), (57, y57), (58, y58), (59, y59), (67, y67)] = [(0, y0), (1, y1), (2, y2), (4, y4), (6, y6), (8, y8), (20, y20), (32, y32), (34, y34), (35, y35), (36, y36), (37, z0), (47, y47), (50, y50), (51, y51), (52, y52), (53, y53), (56, y56), (57, y57), (58, y58), (59, y59), (67, y67)] := fun y0 y1 y2 y4 y6 y8 y20 y32 y34 y35 y36 y37 y47 y50 y51 y52 y53 y56 y57 y58 y59 y67 z0 => rfl
          refine R_nil (tr _ _ _ _ _ _ _ _ _ _ _ _ _ _ _ _ _ _ _ _ _ _ _) ?_; clear tr
          refine then_n ?_
          refine at_seq rfl ?_
          refine cdd (fun h5 => ?_) (fun h5 => ?_)
          · try simp only [decide_eq_true_eq, decide_eq_false_iff_not, Bool.not_eq_true', Bool.not_eq_false', beq_iff_eq, beq_eq_false_iff_ne, ne_eq] at h5
            refine at_skip rfl ?_
            refine then_n ?_
            refine at_seq rfl ?_
            refine at_block rfl ?_
            refine at_seq rfl ?_
            refine rg rfl ?_
            refine Rq ?_
            refine Rq ?_
            refine Rq ?_
            have tr : ∀ y0 y1 y2 y4 y6 y8 y20 y32 y34 y35 y36 y37 y47 y50 y51 y52 y53 y56 y57 y58 y59 y67 z0 z1 z2 : AV, trim [(4, z2), (39, z1), (38, z0), (0, y0), (1, y1), (2, y2), (4, y4), (6, y6), (8, y8), (20, y20), (32, y32), (34, y34), (35, y35), (36, y36), (37, y37), (47, y47), (50, y50), (51, y51), (52, y52), (53, y53), (56, y56), (57, y57), (58, y58), (59, y59), (67, y67)] [(0, y0), (1, y1), (2, y2), (4, y4), (6, y6), (8, y8), (20, y20), (32, y32), (34, y34), (35, y35), (36, y36), (37, y37), (47, y47), (50, y50), (51, y51), (52, y52), (53, y53), (56, y56), (57, y57), (58, y58), (59, y59), (67, y67)] = [(0, y0), (1, y1), (2, y2), (4, z2), (6, y6), (8, y8), (20, y20), (32, y32), (34, y34), (35, y35), (36, y36), (37, y37), (47, y47), (50, y50), (51, y51), (52, y52), (53, y53), (56, y56), (57, y57), (58, y58), (59, y59), (67, y67)] := fun y0 y1 y2 y4 y6 y8 y20 y32 y34 y35 y36 y37 y47 y50 y51 y52 y53 y56 y57 y58 y59 y67 z0 z1 z2 => rfl
            refine R_nil (tr _ _ _ _ _ _ _ _ _ _ _ _ _ _ _ _ _ _ _ _ _ _ _ _ _) ?_; clear tr
            refine then_n ?_
            refine at_seq rfl ?_
            refine rg rfl ?_
            refine Rq ?_
            refine Rq ?_
            refine Rq ?_
            refine Rq ?_
            refine Rq ?_
            refine Rq ?_
            refine Rq ?_
            refine Rq ?_
            have tr : ∀ y0 y1 y2 y4 y6 y8 y20 y32 y34 y35 y36 y37 y47 y50 y51 y52 y53 y56 y57 y58 y59 y67 z0 z1 z2 z3 z4 z5 z6 z7 : AV, trim [(47, z7), (46, z6), (45, z5), (44, z4), (43, z3), (42, z2), (41, z1), (40, z0), (0, y0), (1, y1), (2, y2), (4, y4), (6, y6), (8, y8), (20, y20), (32, y32), (34, y34), (35, y35), (36, y36), (37, y37), (47, y47), (50, y50), (51, y51), (52, y52), (53, y53), (56, y56), (57, y57), (58, y58), (59, y59), (67, y67)] [(0, y0), (1, y1), (2, y2), (4, y4), (6, y6), (8, y8), (20, y20), (32, y32), (34, y34), (35, y35), (36, y36), (37, y37), (47, y47), (50, y50), (51, y51), (52, y52), (53, y53), (56, y56), (57, y57), (58, y58), (59, y59), (67, y67)] = [(0, y0), (1, y1), (2, y2), (4, y4), (6, y6), (8, y8), (20, y20), (32, y32), (34, y34), (35, y35), (36, y36), (37, y37), (47, z7), (50, y50), (51, y51), (52, y52), (53, y53), (56, y56), (57, y57), (58, y58), (59, y59), (67, y67)] := fun y0 y1 y2 y4 y6 y8 y20 y32 y34 y35 y36 y37 y47 y50 y51 y52 y53 y56 y57 y58 y59 y67 z0 z1 z2 z3 z4 z5 z6 z7 => rfl
            refine R_nil (tr _ _ _ _ _ _ _ _ _ _ _ _ _ _ _ _ _ _ _ _ _ _ _ _ _ _ _ _ _ _) ?_; clear tr
            refine then_n ?_
            refine cdd (fun h6 => ?_) (fun h6 => ?_)
            · try simp only [decide_eq_true_eq, decide_eq_false_iff_not, Bool.not_eq_true', Bool.not_eq_false', beq_iff_eq, beq_eq_false_iff_ne, ne_eq] at h6
              refine at_seq rfl ?_
              refine rg rfl ?_
              refine Rq ?_
              have tr : ∀ y0 y1 y2 y4 y6 y8 y20 y32 y34 y35 y36 y37 y47 y50 y51 y52 y53 y56 y57 y58 y59 y67 z0 : AV, trim [(2, z0), (0, y0), (1, y1), (2, y2), (4, y4), (6, y6), (8, y8), (20, y20), (32, y32), (34, y34), (35, y35), (36, y36), (37, y37), (47, y47), (50, y50), (51, y51), (52, y52), (53, y53), (56, y56), (57, y57), (58, y58), (59, y59), (67, y67)] [(0, y0), (1, y1), (2, y2), (4, y4), (6, y6), (8, y8), (20, y20), (32, y32), (34, y34), (35, y35), (36, y36), (37, y37), (47, y47), (50, y50), (51, y51), (52, y52), (53, y53), (56, y56), (57, y57), (58, y58), (59, y59), (67, y67)] = [(0, y0), (1, y1), (2, z0), (4, y4), (6, y6), (8, y8), (20, y20), (32, y32), (34, y34), (35, y35), (36, y36), (37, y37), (47, y47), (50, y50), (51, y51), (52, y52), (53, y53), (56, y56), (57, y57), (58, y58), (59, y59), (67, y67)] := fun y0 y1 y2 y4 y6 y8 y20 y32 y34 y35 y36 y37 y47 y50 y51 y52 y53 y56 y57 y58 y59 y67 z0 => rfl
              refine R_nil (tr _ _ _ _ _ _ _ _ _ _ _ _ _ _ _ _ _ _ _ _ _ _ _) ?_; clear tr
              refine then_n ?_
              refine at_ret rfl ?_
              refine blk_r ?_
              refine then_r ?_
              refine then_r ?_
              refine blk_r ?_
              refine then_r ?_
              refine fpure ?_
              refine ⟨?_, rfl⟩
              rw [shapeS, if_neg (by omega), if_neg (by omega), if_pos (fun hh => absurd (hh u (by omega)) (by omega))]
            · try simp only [decide_eq_true_eq, decide_eq_false_iff_not, Bool.not_eq_true', Bool.not_eq_false', beq_iff_eq, beq_eq_false_iff_ne, ne_eq] at h6
              refine at_skip rfl ?_
              refine blk_n ?_
              refine then_n ?_
              refine rg rfl ?_
              refine Rq ?_
              refine Rq ?_
              have tr : ∀ y0 y1 y2 y4 y6 y8 y20 y32 y34 y35 y36 y37 y47 y50 y51 y52 y53 y56 y57 y58 y59 y67 z0 z1 : AV, trim [(36, z1), (48, z0), (0, y0), (1, y1), (2, y2), (4, y4), (6, y6), (8, y8), (20, y20), (32, y32), (34, y34), (35, y35), (36, y36), (37, y37), (47, y47), (50, y50), (51, y51), (52, y52), (53, y53), (56, y56), (57, y57), (58, y58), (59, y59), (67, y67)] [(0, y0), (1, y1), (2, y2), (4, y4), (6, y6), (8, y8), (20, y20), (32, y32), (34, y34), (35, y35), (36, y36), (37, y37), (47, y47), (50, y50), (51, y51), (52, y52), (53, y53), (56, y56), (57, y57), (58, y58), (59, y59), (67, y67)] = [(0, y0), (1, y1), (2, y2), (4, y4), (6, y6), (8, y8), (20, y20), (32, y32), (34, y34), (35, y35), (36, z1), (37, y37), (47, y47), (50, y50), (51, y51), (52, y52), (53, y53), (56, y56), (57, y57), (58, y58), (59, y59), (67, y67)] := fun y0 y1 y2 y4 y6 y8 y20 y32 y34 y35 y36 y37 y47 y50 y51 y52 y53 y56 y57 y58 y59 y67 z0 z1 => rfl
              refine R_nil (tr _ _ _ _ _ _ _ _ _ _ _ _ _ _ _ _ _ _ _ _ _ _ _ _) ?_; clear tr
              refine then_n ?_
              exact ⟨_, _, ⟨u + 1, _, _, _, _, rfl, rfl, rfl, by omega, by exact all_step hq (by omega)⟩, by rfl, by omega⟩
          · try simp only [decide_eq_true_eq, decide_eq_false_iff_not, Bool.not_eq_true', Bool.not_eq_false', beq_iff_eq, beq_eq_false_iff_ne, ne_eq] at h5
            refine at_exit rfl ?_
            refine then_x ?_
            refine then_x ?_
            refine blk_x ?_
            refine then_n ?_
            refine at_seq rfl ?_
            refine at_seq rfl ?_
            refine rg rfl ?_
            have hq3 : SameLen rows := fun i hi => hq i (by omega)
            refine Rq ?_
            refine Rq ?_
            refine Rq ?_
            refine Rq ?_
            have tr : ∀ y0 y1 y2 y4 y6 y8 y20 y32 y34 y35 y36 y37 y47 y50 y51 y52 y53 y56 y57 y58 y59 y67 z0 z1 z2 z3 : AV, trim [(52, z3), (51, z2), (50, z1), (49, z0), (0, y0), (1, y1), (2, y2), (4, y4), (6, y6), (8, y8), (20, y20), (32, y32), (34, y34), (35, y35), (36, y36), (37, y37), (47, y47), (50, y50), (51, y51), (52, y52), (53, y53), (56, y56), (57, y57), (58, y58), (59, y59), (67, y67)] [(0, y0), (1, y1), (2, y2), (4, y4), (6, y6), (8, y8), (20, y20), (32, y32), (34, y34), (35, y35), (36, y36), (37, y37), (47, y47), (50, y50), (51, y51), (52, y52), (53, y53), (56, y56), (57, y57), (58, y58), (59, y59), (67, y67)] = [(0, y0), (1, y1), (2, y2), (4, y4), (6, y6), (8, y8), (20, y20), (32, y32), (34, y34), (35, y35), (36, y36), (37, y37), (47, y47), (50, z1), (51, z2), (52, z3), (53, y53), (56, y56), (57, y57), (58, y58), (59, y59), (67, y67)] := fun y0 y1 y2 y4 y6 y8 y20 y32 y34 y35 y36 y37 y47 y50 y51 y52 y53 y56 y57 y58 y59 y67 z0 z1 z2 z3 => rfl
            refine R_nil (tr _ _ _ _ _ _ _ _ _ _ _ _ _ _ _ _ _ _ _ _ _ _ _ _ _ _) ?_; clear tr
            refine then_n ?_
            refine at_block rfl ?_
            refine loop_n rfl (fun mm kv H' => ∃ v : Nat, ∃ x2 x6 x8 x53 x56 x57 x58 x59 x67 : AV, (kv = [(2, x2), (6, x6), (8, x8), (52, AV.i v), (53, x53), (56, x56), (57, x57), (58, x58), (59, x59), (67, x67)]) ∧ (mm = rows.length - v) ∧ (H' = H ++ [some [rowsAV rows]]) ∧ (v ≤ rows.length) ∧ (∀ i, i < v → ∀ w, w < (gt rows i).length → okN (gt (gt rows i) w))) ⟨0, _, _, _, _, _, _, _, _, _, rfl, rfl, rfl, by omega, by intro i hi; omega⟩ (by rfl) ?_
            rintro mm kv H' ⟨v, x2, x6, x8, x53, x56, x57, x58, x59, x67, rfl, rfl, rfl, hv, hr⟩
            have tr : ∀ y0 y1 y2 y4 y6 y8 y20 y32 y34 y35 y36 y37 y47 y50 y51 y52 y53 y56 y57 y58 y59 y67 z2 z6 z8 z52 z53 z56 z57 z58 z59 z67 : AV, upd [(0, y0), (1, y1), (2, y2), (4, y4), (6, y6), (8, y8), (20, y20), (32, y32), (34, y34), (35, y35), (36, y36), (37, y37), (47, y47), (50, y50), (51, y51), (52, y52), (53, y53), (56, y56), (57, y57), (58, y58), (59, y59), (67, y67)] [(2, z2), (6, z6), (8, z8), (52, z52), (53, z53), (56, z56), (57, z57), (58, z58), (59, z59), (67, z67)] = [(0, y0), (1, y1), (2, z2), (4, y4), (6, z6), (8, z8), (20, y20), (32, y32), (34, y34), (35, y35), (36, y36), (37, y37), (47, y47), (50, y50), (51, y51), (52, z52), (53, z53), (56, z56), (57, z57), (58, z58), (59, z59), (67, z67)] := fun y0 y1 y2 y4 y6 y8 y20 y32 y34 y35 y36 y37 y47 y50 y51 y52 y53 y56 y57 y58 y59 y67 z2 z6 z8 z52 z53 z56 z57 z58 z59 z67 => rfl
            refine W_to (tr _ _ _ _ _ _ _ _ _ _ _ _ _ _ _ _ _ _ _ _ _ _ _ _ _ _ _ _ _ _ _ _) ?_; clear tr
            refine at_seq rfl ?_
            refine rg rfl ?_
            refine Rq ?_
            have tr : ∀ y0 y1 y2 y4 y6 y8 y20 y32 y34 y35 y36 y37 y47 y50 y51 y52 y53 y56 y57 y58 y59 y67 z0 : AV, trim [(53, z0), (0, y0), (1, y1), (2, y2), (4, y4), (6, y6), (8, y8), (20, y20), (32, y32), (34, y34), (35, y35), (36, y36), (37, y37), (47, y47), (50, y50), (51, y51), (52, y52), (53, y53), (56, y56), (57, y57), (58, y58), (59, y59), (67, y67)] [(0, y0), (1, y1), (2, y2), (4, y4), (6, y6), (8, y8), (20, y20), (32, y32), (34, y34), (35, y35), (36, y36), (37, y37), (47, y47), (50, y50), (51, y51), (52, y52), (53, y53), (56, y56), (57, y57), (58, y58), (59, y59), (67, y67)] = [(0, y0), (1, y1), (2, y2), (4, y4), (6, y6), (8, y8), (20, y20), (32, y32), (34, y34), (35, y35), (36, y36), (37, y37), (47, y47), (50, y50), (51, y51), (52, y52), (53, z0), (56, y56), (57, y57), (58, y58), (59, y59), (67, y67)] := fun y0 y1 y2 y4 y6 y8 y20 y32 y34 y35 y36 y37 y47 y50 y51 y52 y53 y56 y57 y58 y59 y67 z0 => rfl
            refine R_nil (tr _ _ _ _ _ _ _ _ _ _ _ _ _ _ _ _ _ _ _ _ _ _ _) ?_; clear tr
            refine then_n ?_
            refine at_seq rfl ?_
            refine cdd (fun h7 => ?_) (fun h7 => ?_)
            · try simp only [decide_eq_true_eq, decide_eq_false_iff_not, Bool.not_eq_true', Bool.not_eq_false', beq_iff_eq, beq_eq_false_iff_ne, ne_eq] at h7
              refine at_skip rfl ?_
              refine then_n ?_
              refine at_seq rfl ?_
              refine at_block rfl ?_
              refine at_seq rfl ?_
              refine rg rfl ?_
              refine Rq ?_
              refine Rq ?_
              refine Rq ?_
              have tr : ∀ y0 y1 y2 y4 y6 y8 y20 y32 y34 y35 y36 y37 y47 y50 y51 y52 y53 y56 y57 y58 y59 y67 z0 z1 z2 : AV, trim [(6, z2), (55, z1), (54, z0), (0, y0), (1, y1), (2, y2), (4, y4), (6, y6), (8, y8), (20, y20), (32, y32), (34, y34), (35, y35), (36, y36), (37, y37), (47, y47), (50, y50), (51, y51), (52, y52), (53, y53), (56, y56), (57, y57), (58, y58), (59, y59), (67, y67)] [(0, y0), (1, y1), (2, y2), (4, y4), (6, y6), (8, y8), (20, y20), (32, y32), (34, y34), (35, y35), (36, y36), (37, y37), (47, y47), (50, y50), (51, y51), (52, y52), (53, y53), (56, y56), (57, y57), (58, y58), (59, y59), (67, y67)] = [(0, y0), (1, y1), (2, y2), (4, y4), (6, z2), (8, y8), (20, y20), (32, y32), (34, y34), (35, y35), (36, y36), (37, y37), (47, y47), (50, y50), (51, y51), (52, y52), (53, y53), (56, y56), (57, y57), (58, y58), (59, y59), (67, y67)] := fun y0 y1 y2 y4 y6 y8 y20 y32 y34 y35 y36 y37 y47 y50 y51 y52 y53 y56 y57 y58 y59 y67 z0 z1 z2 => rfl
              refine R_nil (tr _ _ _ _ _ _ _ _ _ _ _ _ _ _ _ _ _ _ _ _ _ _ _ _ _) ?_; clear tr
              refine then_n ?_
              refine at_seq rfl ?_
              refine rg rfl ?_
              have hlv := hq3 v (by omega)
              refine Rq ?_
              refine Rq ?_
              refine Rq ?_
              have tr : ∀ y0 y1 y2 y4 y6 y8 y20 y32 y34 y35 y36 y37 y47 y50 y51 y52 y53 y56 y57 y58 y59 y67 z0 z1 z2 : AV, trim [(58, z2), (57, z1), (56, z0), (0, y0), (1, y1), (2, y2), (4, y4), (6, y6), (8, y8), (20, y20), (32, y32), (34, y34), (35, y35), (36, y36), (37, y37), (47, y47), (50, y50), (51, y51), (52, y52), (53, y53), (56, y56), (57, y57), (58, y58), (59, y59), (67, y67)] [(0, y0), (1, y1), (2, y2), (4, y4), (6, y6), (8, y8), (20, y20), (32, y32), (34, y34), (35, y35), (36, y36), (37, y37), (47, y47), (50, y50), (51, y51), (52, y52), (53, y53), (56, y56), (57, y57), (58, y58), (59, y59), (67, y67)] = [(0, y0), (1, y1), (2, y2), (4, y4), (6, y6), (8, y8), (20, y20), (32, y32), (34, y34), (35, y35), (36, y36), (37, y37), (47, y47), (50, y50), (51, y51), (52, y52), (53, y53), (56, z0), (57, z1), (58, z2), (59, y59), (67, y67)] := fun y0 y1 y2 y4 y6 y8 y20 y32 y34 y35 y36 y37 y47 y50 y51 y52 y53 y56 y57 y58 y59 y67 z0 z1 z2 => rfl
              refine R_nil (tr _ _ _ _ _ _ _ _ _ _ _ _ _ _ _ _ _ _ _ _ _ _ _ _ _) ?_; clear tr
              refine then_n ?_
              refine at_block rfl ?_
              refine loop_n rfl (fun mm kv H' => ∃ w : Nat, ∃ x2 x8 x59 x67 : AV, (kv = [(2, x2), (8, x8), (58, AV.i w), (59, x59), (67, x67)]) ∧ (mm = (gt rows v).length - w) ∧ (H' = H ++ [some [rowsAV rows]]) ∧ (w ≤ (gt rows v).length) ∧ (∀ j, j < w → okN (gt (gt rows v) j))) ⟨0, _, _, _, _, rfl, rfl, rfl, by omega, by intro j hj; omega⟩ (by rfl) ?_
              rintro mm kv H' ⟨w, x2, x8, x59, x67, rfl, rfl, rfl, hw, hs⟩
              have tr : ∀ y0 y1 y2 y4 y6 y8 y20 y32 y34 y35 y36 y37 y47 y50 y51 y52 y53 y56 y57 y58 y59 y67 z2 z8 z58 z59 z67 : AV, upd [(0, y0), (1, y1), (2, y2), (4, y4), (6, y6), (8, y8), (20, y20), (32, y32), (34, y34), (35, y35), (36, y36), (37, y37), (47, y47), (50, y50), (51, y51), (52, y52), (53, y53), (56, y56), (57, y57), (58, y58), (59, y59), (67, y67)] [(2, z2), (8, z8), (58, z58), (59, z59), (67, z67)] = [(0, y0), (1, y1), (2, z2), (4, y4), (6, y6), (8, z8), (20, y20), (32, y32), (34, y34), (35, y35), (36, y36), (37, y37), (47, y47), (50, y50), (51, y51), (52, y52), (53, y53), (56, y56), (57, y57), (58, z58), (59, z59), (67, z67)] := fun y0 y1 y2 y4 y6 y8 y20 y32 y34 y35 y36 y37 y47 y50 y51 y52 y53 y56 y57 y58 y59 y67 z2 z8 z58 z59 z67 => rfl
              refine W_to (tr _ _ _ _ _ _ _ _ _ _ _ _ _ _ _ _ _ _ _ _ _ _ _ _ _ _ _) ?_; clear tr
              have hlv := hq3 v (by omega)
              refine at_seq rfl ?_
              refine rg rfl ?_
              refine Rq ?_
              have tr : ∀ y0 y1 y2 y4 y6 y8 y20 y32 y34 y35 y36 y37 y47 y50 y51 y52 y53 y56 y57 y58 y59 y67 z0 : AV, trim [(59, z0), (0, y0), (1, y1), (2, y2), (4, y4), (6, y6), (8, y8), (20, y20), (32, y32), (34, y34), (35, y35), (36, y36), (37, y37), (47, y47), (50, y50), (51, y51), (52, y52), (53, y53), (56, y56), (57, y57), (58, y58), (59, y59), (67, y67)] [(0, y0), (1, y1), (2, y2), (4, y4), (6, y6), (8, y8), (20, y20), (32, y32), (34, y34), (35, y35), (36, y36), (37, y37), (47, y47), (50, y50), (51, y51), (52, y52), (53, y53), (56, y56), (57, y57), (58, y58), (59, y59), (67, y67)] = [(0, y0), (1, y1), (2, y2), (4, y4), (6, y6), (8, y8), (20, y20), (32, y32), (34, y34), (35, y35), (36, y36), (37, y37), (47, y47), (50, y50), (51, y51), (52, y52), (53, y53), (56, y56), (57, y57), (58, y58), (59, z0), (67, y67)] := fun y0 y1 y2 y4 y6 y8 y20 y32 y34 y35 y36 y37 y47 y50 y51 y52 y53 y56 y57 y58 y59 y67 z0 => rfl
              refine R_nil (tr _ _ _ _ _ _ _ _ _ _ _ _ _ _ _ _ _ _ _ _ _ _ _) ?_; clear tr
              refine then_n ?_
              refine at_seq rfl ?_
              refine cdd (fun h8 => ?_) (fun h8 => ?_)
              · try simp only [decide_eq_true_eq, decide_eq_false_iff_not, Bool.not_eq_true', Bool.not_eq_false', beq_iff_eq, beq_eq_false_iff_ne, ne_eq] at h8
                refine at_skip rfl ?_
                refine then_n ?_
                refine at_seq rfl ?_
                refine at_block rfl ?_
                refine at_seq rfl ?_
                refine rg rfl ?_
                refine Rq ?_
                refine Rq ?_
                refine Rq ?_
                have tr : ∀ y0 y1 y2 y4 y6 y8 y20 y32 y34 y35 y36 y37 y47 y50 y51 y52 y53 y56 y57 y58 y59 y67 z0 z1 z2 : AV, trim [(8, z2), (61, z1), (60, z0), (0, y0), (1, y1), (2, y2), (4, y4), (6, y6), (8, y8), (20, y20), (32, y32), (34, y34), (35, y35), (36, y36), (37, y37), (47, y47), (50, y50), (51, y51), (52, y52), (53, y53), (56, y56), (57, y57), (58, y58), (59, y59), (67, y67)] [(0, y0), (1, y1), (2, y2), (4, y4), (6, y6), (8, y8), (20, y20), (32, y32), (34, y34), (35, y35), (36, y36), (37, y37), (47, y47), (50, y50), (51, y51), (52, y52), (53, y53), (56, y56), (57, y57), (58, y58), (59, y59), (67, y67)] = [(0, y0), (1, y1), (2, y2), (4, y4), (6, y6), (8, z2), (20, y20), (32, y32), (34, y34), (35, y35), (36, y36), (37, y37), (47, y47), (50, y50), (51, y51), (52, y52), (53, y53), (56, y56), (57, y57), (58, y58), (59, y59), (67, y67)] := fun y0 y1 y2 y4 y6 y8 y20 y32 y34 y35 y36 y37 y47 y50 y51 y52 y53 y56 y57 y58 y59 y67 z0 z1 z2 => rfl
                refine R_nil (tr _ _ _ _ _ _ _ _ _ _ _ _ _ _ _ _ _ _ _ _ _ _ _ _ _) ?_; clear tr
                refine then_n ?_
                refine at_seq rfl ?_
                refine rg rfl ?_
                refine Rq ?_
                refine Rq ?_
                refine Rq ?_
                refine Rp_split (fun h9 => ?_) (fun h9 => ?_)
                · try simp only [decide_eq_true_eq, decide_eq_false_iff_not, Bool.not_eq_true', Bool.not_eq_false', beq_iff_eq, beq_eq_false_iff_ne, ne_eq] at h9
                  refine Rn ?_
                  refine Rn ?_
                  refine Rq ?_
                  have tr : ∀ y0 y1 y2 y4 y6 y8 y20 y32 y34 y35 y36 y37 y47 y50 y51 y52 y53 y56 y57 y58 y59 y67 z0 z1 z2 z3 z4 z5 : AV, trim [(67, z5), (66, z4), (65, z3), (64, z2), (63, z1), (62, z0), (0, y0), (1, y1), (2, y2), (4, y4), (6, y6), (8, y8), (20, y20), (32, y32), (34, y34), (35, y35), (36, y36), (37, y37), (47, y47), (50, y50), (51, y51), (52, y52), (53, y53), (56, y56), (57, y57), (58, y58), (59, y59), (67, y67)] [(0, y0), (1, y1), (2, y2), (4, y4), (6, y6), (8, y8), (20, y20), (32, y32), (34, y34), (35, y35), (36, y36), (37, y37), (47, y47), (50, y50), (51, y51), (52, y52), (53, y53), (56, y56), (57, y57), (58, y58), (59, y59), (67, y67)] = [(0, y0), (1, y1), (2, y2), (4, y4), (6, y6), (8, y8), (20, y20), (32, y32), (34, y34), (35, y35), (36, y36), (37, y37), (47, y47), (50, y50), (51, y51), (52, y52), (53, y53), (56, y56), (57, y57), (58, y58), (59, y59), (67, z5)] := fun y0 y1 y2 y4 y6 y8 y20 y32 y34 y35 y36 y37 y47 y50 y51 y52 y53 y56 y57 y58 y59 y67 z0 z1 z2 z3 z4 z5 => rfl
                  refine R_nil (tr _ _ _ _ _ _ _ _ _ _ _ _ _ _ _ _ _ _ _ _ _ _ _ _ _ _ _ _) ?_; clear tr
                  refine then_n ?_
                  refine cdt ?_
                  refine at_seq rfl ?_
                  refine rg rfl ?_
                  refine Rq ?_
                  have tr : ∀ y0 y1 y2 y4 y6 y8 y20 y32 y34 y35 y36 y37 y47 y50 y51 y52 y53 y56 y57 y58 y59 y67 z0 : AV, trim [(2, z0), (0, y0), (1, y1), (2, y2), (4, y4), (6, y6), (8, y8), (20, y20), (32, y32), (34, y34), (35, y35), (36, y36), (37, y37), (47, y47), (50, y50), (51, y51), (52, y52), (53, y53), (56, y56), (57, y57), (58, y58), (59, y59), (67, y67)] [(0, y0), (1, y1), (2, y2), (4, y4), (6, y6), (8, y8), (20, y20), (32, y32), (34, y34), (35, y35), (36, y36), (37, y37), (47, y47), (50, y50), (51, y51), (52, y52), (53, y53), (56, y56), (57, y57), (58, y58), (59, y59), (67, y67)] = [(0, y0), (1, y1), (2, z0), (4, y4), (6, y6), (8, y8), (20, y20), (32, y32), (34, y34), (35, y35), (36, y36), (37, y37), (47, y47), (50, y50), (51, y51), (52, y52), (53, y53), (56, y56), (57, y57), (58, y58), (59, y59), (67, y67)] := fun y0 y1 y2 y4 y6 y8 y20 y32 y34 y35 y36 y37 y47 y50 y51 y52 y53 y56 y57 y58 y59 y67 z0 => rfl
                  refine R_nil (tr _ _ _ _ _ _ _ _ _ _ _ _ _ _ _ _ _ _ _ _ _ _ _) ?_; clear tr
                  refine then_n ?_
                  refine at_ret rfl ?_
                  refine blk_r ?_
                  refine then_r ?_
                  refine then_r ?_
                  refine blk_r ?_
                  refine blk_r ?_
                  refine then_r ?_
                  refine then_r ?_
                  refine blk_r ?_
                  refine then_r ?_
                  refine fpure ?_
                  refine ⟨?_, rfl⟩
                  rw [shapeS, if_neg (by omega), if_neg (by omega), if_neg (fun hh => hh hq3), if_pos (fun hh => absurd (hh v (by omega) w (by omega)) (fun ho => absurd ho.1 (by omega)))]
                · try simp only [decide_eq_true_eq, decide_eq_false_iff_not, Bool.not_eq_true', Bool.not_eq_false', beq_iff_eq, beq_eq_false_iff_ne, ne_eq] at h9
                  refine Ry ?_
                  refine Rq ?_
                  refine Ry ?_
                  refine Rq ?_
                  refine Rq ?_
                  have tr : ∀ y0 y1 y2 y4 y6 y8 y20 y32 y34 y35 y36 y37 y47 y50 y51 y52 y53 y56 y57 y58 y59 y67 z0 z1 z2 z3 z4 z5 : AV, trim [(67, z5), (66, z4), (65, z3), (64, z2), (63, z1), (62, z0), (0, y0), (1, y1), (2, y2), (4, y4), (6, y6), (8, y8), (20, y20), (32, y32), (34, y34), (35, y35), (36, y36), (37, y37), (47, y47), (50, y50), (51, y51), (52, y52), (53, y53), (56, y56), (57, y57), (58, y58), (59, y59), (67, y67)] [(0, y0), (1, y1), (2, y2), (4, y4), (6, y6), (8, y8), (20, y20), (32, y32), (34, y34), (35, y35), (36, y36), (37, y37), (47, y47), (50, y50), (51, y51), (52, y52), (53, y53), (56, y56), (57, y57), (58, y58), (59, y59), (67, y67)] = [(0, y0), (1, y1), (2, y2), (4, y4), (6, y6), (8, y8), (20, y20), (32, y32), (34, y34), (35, y35), (36, y36), (37, y37), (47, y47), (50, y50), (51, y51), (52, y52), (53, y53), (56, y56), (57, y57), (58, y58), (59, y59), (67, z5)] := fun y0 y1 y2 y4 y6 y8 y20 y32 y34 y35 y36 y37 y47 y50 y51 y52 y53 y56 y57 y58 y59 y67 z0 z1 z2 z3 z4 z5 => rfl
                  refine R_nil (tr _ _ _ _ _ _ _ _ _ _ _ _ _ _ _ _ _ _ _ _ _ _ _ _ _ _ _ _) ?_; clear tr
                  refine then_n ?_
                  refine cdd (fun h10 => ?_) (fun h10 => ?_)
                  · try simp only [decide_eq_true_eq, decide_eq_false_iff_not, Bool.not_eq_true', Bool.not_eq_false', beq_iff_eq, beq_eq_false_iff_ne, ne_eq] at h10
                    refine at_seq rfl ?_
                    refine rg rfl ?_
                    refine Rq ?_
                    have tr : ∀ y0 y1 y2 y4 y6 y8 y20 y32 y34 y35 y36 y37 y47 y50 y51 y52 y53 y56 y57 y58 y59 y67 z0 : AV, trim [(2, z0), (0, y0), (1, y1), (2, y2), (4, y4), (6, y6), (8, y8), (20, y20), (32, y32), (34, y34), (35, y35), (36, y36), (37, y37), (47, y47), (50, y50), (51, y51), (52, y52), (53, y53), (56, y56), (57, y57), (58, y58), (59, y59), (67, y67)] [(0, y0), (1, y1), (2, y2), (4, y4), (6, y6), (8, y8), (20, y20), (32, y32), (34, y34), (35, y35), (36, y36), (37, y37), (47, y47), (50, y50), (51, y51), (52, y52), (53, y53), (56, y56), (57, y57), (58, y58), (59, y59), (67, y67)] = [(0, y0), (1, y1), (2, z0), (4, y4), (6, y6), (8, y8), (20, y20), (32, y32), (34, y34), (35, y35), (36, y36), (37, y37), (47, y47), (50, y50), (51, y51), (52, y52), (53, y53), (56, y56), (57, y57), (58, y58), (59, y59), (67, y67)] := fun y0 y1 y2 y4 y6 y8 y20 y32 y34 y35 y36 y37 y47 y50 y51 y52 y53 y56 y57 y58 y59 y67 z0 => rfl
                    refine R_nil (tr _ _ _ _ _ _ _ _ _ _ _ _ _ _ _ _ _ _ _ _ _ _ _) ?_; clear tr
                    refine then_n ?_
                    refine at_ret rfl ?_
                    refine blk_r ?_
                    refine then_r ?_
                    refine then_r ?_
                    refine blk_r ?_
                    refine blk_r ?_
                    refine then_r ?_
                    refine then_r ?_
                    refine blk_r ?_
                    refine then_r ?_
                    refine fpure ?_
                    refine ⟨?_, rfl⟩
                    rw [shapeS, if_neg (by omega), if_neg (by omega), if_neg (fun hh => hh hq3), if_pos (fun hh => absurd (hh v (by omega) w (by omega)) (fun ho => absurd ho.2 (by omega)))]
                  · try simp only [decide_eq_true_eq, decide_eq_false_iff_not, Bool.not_eq_true', Bool.not_eq_false', beq_iff_eq, beq_eq_false_iff_ne, ne_eq] at h10
                    refine at_skip rfl ?_
                    refine blk_n ?_
                    refine then_n ?_
                    refine rg rfl ?_
                    refine Rq ?_
                    refine Rq ?_
                    have tr : ∀ y0 y1 y2 y4 y6 y8 y20 y32 y34 y35 y36 y37 y47 y50 y51 y52 y53 y56 y57 y58 y59 y67 z0 z1 : AV, trim [(58, z1), (68, z0), (0, y0), (1, y1), (2, y2), (4, y4), (6, y6), (8, y8), (20, y20), (32, y32), (34, y34), (35, y35), (36, y36), (37, y37), (47, y47), (50, y50), (51, y51), (52, y52), (53, y53), (56, y56), (57, y57), (58, y58), (59, y59), (67, y67)] [(0, y0), (1, y1), (2, y2), (4, y4), (6, y6), (8, y8), (20, y20), (32, y32), (34, y34), (35, y35), (36, y36), (37, y37), (47, y47), (50, y50), (51, y51), (52, y52), (53, y53), (56, y56), (57, y57), (58, y58), (59, y59), (67, y67)] = [(0, y0), (1, y1), (2, y2), (4, y4), (6, y6), (8, y8), (20, y20), (32, y32), (34, y34), (35, y35), (36, y36), (37, y37), (47, y47), (50, y50), (51, y51), (52, y52), (53, y53), (56, y56), (57, y57), (58, z1), (59, y59), (67, y67)] := fun y0 y1 y2 y4 y6 y8 y20 y32 y34 y35 y36 y37 y47 y50 y51 y52 y53 y56 y57 y58 y59 y67 z0 z1 => rfl
                    refine R_nil (tr _ _ _ _ _ _ _ _ _ _ _ _ _ _ _ _ _ _ _ _ _ _ _ _) ?_; clear tr
                    refine then_n ?_
                    exact ⟨_, _, ⟨w + 1, _, _, _, _, rfl, rfl, rfl, by omega, by exact all_step hs ⟨by omega, by omega⟩⟩, by rfl, by omega⟩
              · try simp only [decide_eq_true_eq, decide_eq_false_iff_not, Bool.not_eq_true', Bool.not_eq_false', beq_iff_eq, beq_eq_false_iff_ne, ne_eq] at h8
                refine at_exit rfl ?_
                refine then_x ?_
                refine then_x ?_
                refine blk_x ?_
                refine blk_n ?_
                refine then_n ?_
                refine rg rfl ?_
                refine Rq ?_
                refine Rq ?_
                have tr : ∀ y0 y1 y2 y4 y6 y8 y20 y32 y34 y35 y36 y37 y47 y50 y51 y52 y53 y56 y57 y58 y59 y67 z0 z1 : AV, trim [(52, z1), (69, z0), (0, y0), (1, y1), (2, y2), (4, y4), (6, y6), (8, y8), (20, y20), (32, y32), (34, y34), (35, y35), (36, y36), (37, y37), (47, y47), (50, y50), (51, y51), (52, y52), (53, y53), (56, y56), (57, y57), (58, y58), (59, y59), (67, y67)] [(0, y0), (1, y1), (2, y2), (4, y4), (6, y6), (8, y8), (20, y20), (32, y32), (34, y34), (35, y35), (36, y36), (37, y37), (47, y47), (50, y50), (51, y51), (52, y52), (53, y53), (56, y56), (57, y57), (58, y58), (59, y59), (67, y67)] = [(0, y0), (1, y1), (2, y2), (4, y4), (6, y6), (8, y8), (20, y20), (32, y32), (34, y34), (35, y35), (36, y36), (37, y37), (47, y47), (50, y50), (51, y51), (52, z1), (53, y53), (56, y56), (57, y57), (58, y58), (59, y59), (67, y67)] := fun y0 y1 y2 y4 y6 y8 y20 y32 y34 y35 y36 y37 y47 y50 y51 y52 y53 y56 y57 y58 y59 y67 z0 z1 => rfl
                refine R_nil (tr _ _ _ _ _ _ _ _ _ _ _ _ _ _ _ _ _ _ _ _ _ _ _ _) ?_; clear tr
                refine then_n ?_
                exact ⟨_, _, ⟨v + 1, _, _, _, _, _, _, _, _, _, rfl, rfl, rfl, by omega, by exact all_step hr fun w hw => hs w (by omega)⟩, by rfl, by omega⟩
            · try simp only [decide_eq_true_eq, decide_eq_false_iff_not, Bool.not_eq_true', Bool.not_eq_false', beq_iff_eq, beq_eq_false_iff_ne, ne_eq] at h7
              refine at_exit rfl ?_
              refine then_x ?_
              refine then_x ?_
              refine blk_x ?_
              refine then_n ?_
              refine at_seq rfl ?_
              refine rg rfl ?_
              refine Rq ?_
              have tr : ∀ y0 y1 y2 y4 y6 y8 y20 y32 y34 y35 y36 y37 y47 y50 y51 y52 y53 y56 y57 y58 y59 y67 z0 : AV, trim [(2, z0), (0, y0), (1, y1), (2, y2), (4, y4), (6, y6), (8, y8), (20, y20), (32, y32), (34, y34), (35, y35), (36, y36), (37, y37), (47, y47), (50, y50), (51, y51), (52, y52), (53, y53), (56, y56), (57, y57), (58, y58), (59, y59), (67, y67)] [(0, y0), (1, y1), (2, y2), (4, y4), (6, y6), (8, y8), (20, y20), (32, y32), (34, y34), (35, y35), (36, y36), (37, y37), (47, y47), (50, y50), (51, y51), (52, y52), (53, y53), (56, y56), (57, y57), (58, y58), (59, y59), (67, y67)] = [(0, y0), (1, y1), (2, z0), (4, y4), (6, y6), (8, y8), (20, y20), (32, y32), (34, y34), (35, y35), (36, y36), (37, y37), (47, y47), (50, y50), (51, y51), (52, y52), (53, y53), (56, y56), (57, y57), (58, y58), (59, y59), (67, y67)] := fun y0 y1 y2 y4 y6 y8 y20 y32 y34 y35 y36 y37 y47 y50 y51 y52 y53 y56 y57 y58 y59 y67 z0 => rfl
              refine R_nil (tr _ _ _ _ _ _ _ _ _ _ _ _ _ _ _ _ _ _ _ _ _ _ _) ?_; clear tr
              refine then_n ?_
              refine at_ret rfl ?_
              refine fpure ?_
              refine ⟨?_, rfl⟩
              rw [shapeS, if_neg (by omega), if_neg (by omega), if_neg (fun hh => hh hq3), if_neg (fun hh => hh fun i hi => hr i (by omega))]

end Go.Proofs.Ytaoondlakhocnaa
