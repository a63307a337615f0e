/-
  Walks of chapters 52 and 53. The steps are written by program (walk.py).
-/
import Derived.Test.YtdicnojnkbmdlaaP
set_option linter.unusedSimpArgs false
set_option linter.unusedVariables false
set_option maxHeartbeats 40000000
set_option maxRecDepth 4000
namespace Go.Proofs.Ytdicnojnkbmdlaa
open Go Go.Am

theorem node_ok (lim : Nat) (H : Heap) (n s t : Int) (E : List Ed) (x : Int) :
    ACall sig lim 50 [.agg (graphC n s t E), AV.i x] H fun r H' => r = .v (.bool (decide (0 ≤ x ∧ x < n))) ∧ H' = H := by
  refine ACall_pure (fa := fa50) rfl rfl rfl rfl ?_
  have tr : ∀ a0 a1 : AV, env0 fa50.keep [a0, a1] = [(0, a0), (1, a1), (2, .any), (4, .any)] := fun a0 a1 => rfl
  refine W_to (tr _ _) ?_; clear tr
  refine at_seq rfl ?_
  refine rg rfl ?_
  refine R_box rfl (by simp (disch := first | omega | (simp only [List.length_map, List.length_append, List.length_set, List.length_cons, List.length_nil, List.length_take, List.length_drop]; omega)) only [go_sem, ↓reduceIte, Nat.reduceEqDiff, reduceCtorEq]; rfl) rfl rfl ?_
  refine Rq ?_
  have tr : ∀ y0 y1 y2 y4 z0 z1 : AV, trim [(4, z1), (2, z0), (0, y0), (1, y1), (2, y2), (4, y4)] [(0, y0), (1, y1), (2, y2), (4, y4)] = [(0, y0), (1, y1), (2, z0), (4, z1)] := fun y0 y1 y2 y4 z0 z1 => rfl
  refine R_nil (tr _ _ _ _ _ _) ?_; clear tr
  refine then_n ?_
  refine at_seq rfl ?_
  refine rg rfl ?_
  refine Rq ?_
  refine Rq ?_
  refine Rq ?_
  refine Rp_split (fun h1 => ?_) (fun h1 => ?_)
  · try simp only [decide_eq_true_eq, decide_eq_false_iff_not, Bool.not_eq_true', Bool.not_eq_false', beq_iff_eq, beq_eq_false_iff_ne, ne_eq] at h1
    refine Ry ?_
    refine Rq ?_
    refine Ry ?_
    refine Rq ?_
    refine Ry ?_
    refine Rq ?_
    refine Ry ?_
    refine Rq ?_
    refine Rq ?_
    refine Rq ?_
    have tr : ∀ y0 y1 y2 y4 z0 z1 z2 z3 z4 z5 z6 z7 z8 : AV, trim [(4, z8), (12, z7), (11, z6), (10, z5), (9, z4), (8, z3), (7, z2), (6, z1), (5, z0), (0, y0), (1, y1), (2, y2), (4, y4)] [(0, y0), (1, y1), (2, y2), (4, y4)] = [(0, y0), (1, y1), (2, y2), (4, z8)] := fun y0 y1 y2 y4 z0 z1 z2 z3 z4 z5 z6 z7 z8 => rfl
    refine R_nil (tr _ _ _ _ _ _ _ _ _ _ _ _ _) ?_; clear tr
    refine then_n ?_
    refine at_ret rfl ?_
    refine fpure ?_
    refine ⟨?_, rfl⟩
    congr 2
    exact decide_eq_decide.mpr (by omega)
  · try simp only [decide_eq_true_eq, decide_eq_false_iff_not, Bool.not_eq_true', Bool.not_eq_false', beq_iff_eq, beq_eq_false_iff_ne, ne_eq] at h1
    refine Rn ?_
    refine Rn ?_
    refine Rn ?_
    refine Rn ?_
    refine Rq ?_
    refine Rq ?_
    have tr : ∀ y0 y1 y2 y4 z0 z1 z2 z3 z4 z5 z6 z7 z8 : AV, trim [(4, z8), (12, z7), (11, z6), (10, z5), (9, z4), (8, z3), (7, z2), (6, z1), (5, z0), (0, y0), (1, y1), (2, y2), (4, y4)] [(0, y0), (1, y1), (2, y2), (4, y4)] = [(0, y0), (1, y1), (2, y2), (4, z8)] := fun y0 y1 y2 y4 z0 z1 z2 z3 z4 z5 z6 z7 z8 => rfl
    refine R_nil (tr _ _ _ _ _ _ _ _ _ _ _ _ _) ?_; clear tr
    refine then_n ?_
    refine at_ret rfl ?_
    refine fpure ?_
    refine ⟨?_, rfl⟩
    rw [decide_eq_false (by omega)]

theorem small_ok (lim : Nat) (H : Heap) (n s t : Int) (E : List Ed) :
    ACall sig lim 13 [.agg (graphC n s t E)] H fun r H' => r = .v (.bool (decide (E.length ≤ 200 ∧ n ≤ 200))) ∧ H' = H := by
  refine ACall_pure (fa := fa13) rfl rfl rfl rfl ?_
  have tr : ∀ a0 : AV, env0 fa13.keep [a0] = [(0, a0), (1, .any), (2, .any)] := fun a0 => rfl
  refine W_to (tr _) ?_; clear tr
  refine at_seq rfl ?_
  refine rg rfl ?_
  refine R_box rfl (by simp (disch := first | omega | (simp only [List.length_map, List.length_append, List.length_set, List.length_cons, List.length_nil, List.length_take, List.length_drop]; omega)) only [go_sem, ↓reduceIte, Nat.reduceEqDiff, reduceCtorEq]; rfl) rfl rfl ?_
  refine Rq ?_
  have tr : ∀ y0 y1 y2 z0 z1 : AV, trim [(2, z1), (1, z0), (0, y0), (1, y1), (2, y2)] [(0, y0), (1, y1), (2, y2)] = [(0, y0), (1, z0), (2, z1)] := fun y0 y1 y2 z0 z1 => rfl
  refine R_nil (tr _ _ _ _ _) ?_; clear tr
  refine then_n ?_
  refine at_seq rfl ?_
  refine rg rfl ?_
  refine Rq ?_
  refine Rq ?_
  refine Rq ?_
  refine Rq ?_
  refine Rq ?_
  refine Rp_split (fun h1 => ?_) (fun h1 => ?_)
  · try simp only [decide_eq_true_eq, decide_eq_false_iff_not, Bool.not_eq_true', Bool.not_eq_false', beq_iff_eq, beq_eq_false_iff_ne, ne_eq] at h1
    refine Ry ?_
    refine Rq ?_
    refine Ry ?_
    refine Rq ?_
    refine Ry ?_
    refine Rq ?_
    refine Rq ?_
    refine Rq ?_
    have tr : ∀ y0 y1 y2 z0 z1 z2 z3 z4 z5 z6 z7 z8 z9 : AV, trim [(2, z9), (11, z8), (10, z7), (9, z6), (8, z5), (7, z4), (6, z3), (5, z2), (4, z1), (3, z0), (0, y0), (1, y1), (2, y2)] [(0, y0), (1, y1), (2, y2)] = [(0, y0), (1, y1), (2, z9)] := fun y0 y1 y2 z0 z1 z2 z3 z4 z5 z6 z7 z8 z9 => rfl
    refine R_nil (tr _ _ _ _ _ _ _ _ _ _ _ _ _) ?_; clear tr
    refine then_n ?_
    refine at_ret rfl ?_
    refine fpure ?_
    refine ⟨?_, rfl⟩
    congr 2
    exact decide_eq_decide.mpr (by omega)
  · try simp only [decide_eq_true_eq, decide_eq_false_iff_not, Bool.not_eq_true', Bool.not_eq_false', beq_iff_eq, beq_eq_false_iff_ne, ne_eq] at h1
    refine Rn ?_
    refine Rn ?_
    refine Rn ?_
    refine Rq ?_
    refine Rq ?_
    have tr : ∀ y0 y1 y2 z0 z1 z2 z3 z4 z5 z6 z7 z8 z9 : AV, trim [(2, z9), (11, z8), (10, z7), (9, z6), (8, z5), (7, z4), (6, z3), (5, z2), (4, z1), (3, z0), (0, y0), (1, y1), (2, y2)] [(0, y0), (1, y1), (2, y2)] = [(0, y0), (1, y1), (2, z9)] := fun y0 y1 y2 z0 z1 z2 z3 z4 z5 z6 z7 z8 z9 => rfl
    refine R_nil (tr _ _ _ _ _ _ _ _ _ _ _ _ _) ?_; clear tr
    refine then_n ?_
    refine at_ret rfl ?_
    refine fpure ?_
    refine ⟨?_, rfl⟩
    rw [decide_eq_false (by omega)]

theorem check_ok (lim : Nat) (H : Heap) (n s t : Int) (E : List Ed) :
    ACall sig lim 21 [.agg (graphC n s t E)] H fun r H' => r = AV.i (gchkS n s t E) ∧ H' = H := by
  refine ACall_pure (fa := fa21) rfl rfl rfl rfl ?_
  have tr : ∀ a0 : AV, env0 fa21.keep [a0] = [(0, a0), (1, .any), (2, .any), (4, .any), (5, .any), (14, .any), (34, .any), (40, .any), (41, .any), (42, .any), (43, .any), (46, .any), (66, .any)] := fun a0 => rfl
  refine W_to (tr _) ?_; clear tr
  refine at_seq rfl ?_
  refine rg rfl ?_
  refine R_box rfl (by simp (disch := first | omega | (simp only [List.length_map, List.length_append, List.length_set, List.length_cons, List.length_nil, List.length_take, List.length_drop]; omega)) only [go_sem, ↓reduceIte, Nat.reduceEqDiff, reduceCtorEq]; rfl) rfl rfl ?_
  refine Rq ?_
  have tr : ∀ y0 y1 y2 y4 y5 y14 y34 y40 y41 y42 y43 y46 y66 z0 z1 : AV, trim [(2, z1), (1, z0), (0, y0), (1, y1), (2, y2), (4, y4), (5, y5), (14, y14), (34, y34), (40, y40), (41, y41), (42, y42), (43, y43), (46, y46), (66, y66)] [(0, y0), (1, y1), (2, y2), (4, y4), (5, y5), (14, y14), (34, y34), (40, y40), (41, y41), (42, y42), (43, y43), (46, y46), (66, y66)] = [(0, y0), (1, z0), (2, z1), (4, y4), (5, y5), (14, y14), (34, y34), (40, y40), (41, y41), (42, y42), (43, y43), (46, y46), (66, y66)] := fun y0 y1 y2 y4 y5 y14 y34 y40 y41 y42 y43 y46 y66 z0 z1 => rfl
  refine R_nil (tr _ _ _ _ _ _ _ _ _ _ _ _ _ _ _) ?_; clear tr
  refine then_n ?_
  refine at_seq rfl ?_
  refine at_block rfl ?_
  refine at_seq rfl ?_
  refine rg rfl ?_
  refine Rq ?_
  refine Rq ?_
  refine Rq ?_
  refine Rq ?_
  refine Rp_split (fun h1 => ?_) (fun h1 => ?_)
  · try simp only [decide_eq_true_eq, decide_eq_false_iff_not, Bool.not_eq_true', Bool.not_eq_false', beq_iff_eq, beq_eq_false_iff_ne, ne_eq] at h1
    refine Rn ?_
    refine Rn ?_
    refine Rn ?_
    refine Rq ?_
    refine Rq ?_
    have tr : ∀ y0 y1 y2 y4 y5 y14 y34 y40 y41 y42 y43 y46 y66 z0 z1 z2 z3 z4 z5 z6 z7 z8 : AV, trim [(5, z8), (13, z7), (12, z6), (11, z5), (10, z4), (9, z3), (8, z2), (7, z1), (6, z0), (0, y0), (1, y1), (2, y2), (4, y4), (5, y5), (14, y14), (34, y34), (40, y40), (41, y41), (42, y42), (43, y43), (46, y46), (66, y66)] [(0, y0), (1, y1), (2, y2), (4, y4), (5, y5), (14, y14), (34, y34), (40, y40), (41, y41), (42, y42), (43, y43), (46, y46), (66, y66)] = [(0, y0), (1, y1), (2, y2), (4, y4), (5, z8), (14, y14), (34, y34), (40, y40), (41, y41), (42, y42), (43, y43), (46, y46), (66, y66)] := fun y0 y1 y2 y4 y5 y14 y34 y40 y41 y42 y43 y46 y66 z0 z1 z2 z3 z4 z5 z6 z7 z8 => rfl
    refine R_nil (tr _ _ _ _ _ _ _ _ _ _ _ _ _ _ _ _ _ _ _ _ _ _) ?_; clear tr
    refine then_n ?_
    refine cdt ?_
    refine at_seq rfl ?_
    refine rg rfl ?_
    refine Rq ?_
    have tr : ∀ y0 y1 y2 y4 y5 y14 y34 y40 y41 y42 y43 y46 y66 z0 : AV, trim [(2, z0), (0, y0), (1, y1), (2, y2), (4, y4), (5, y5), (14, y14), (34, y34), (40, y40), (41, y41), (42, y42), (43, y43), (46, y46), (66, y66)] [(0, y0), (1, y1), (2, y2), (4, y4), (5, y5), (14, y14), (34, y34), (40, y40), (41, y41), (42, y42), (43, y43), (46, y46), (66, y66)] = [(0, y0), (1, y1), (2, z0), (4, y4), (5, y5), (14, y14), (34, y34), (40, y40), (41, y41), (42, y42), (43, y43), (46, y46), (66, y66)] := fun y0 y1 y2 y4 y5 y14 y34 y40 y41 y42 y43 y46 y66 z0 => rfl
    refine R_nil (tr _ _ _ _ _ _ _ _ _ _ _ _ _ _) ?_; clear tr
    refine then_n ?_
    refine at_ret rfl ?_
    refine blk_r ?_
    refine then_r ?_
    refine fpure ?_
    refine ⟨?_, rfl⟩
    rw [gchkS, if_pos (by omega)]
  · try simp only [decide_eq_true_eq, decide_eq_false_iff_not, Bool.not_eq_true', Bool.not_eq_false', beq_iff_eq, beq_eq_false_iff_ne, ne_eq] at h1
    refine Ry ?_
    refine Rq ?_
    refine Ry ?_
    refine Rq ?_
    refine Ry ?_
    refine Rq ?_
    refine Rq ?_
    refine Rq ?_
    have tr : ∀ y0 y1 y2 y4 y5 y14 y34 y40 y41 y42 y43 y46 y66 z0 z1 z2 z3 z4 z5 z6 z7 z8 : AV, trim [(5, z8), (13, z7), (12, z6), (11, z5), (10, z4), (9, z3), (8, z2), (7, z1), (6, z0), (0, y0), (1, y1), (2, y2), (4, y4), (5, y5), (14, y14), (34, y34), (40, y40), (41, y41), (42, y42), (43, y43), (46, y46), (66, y66)] [(0, y0), (1, y1), (2, y2), (4, y4), (5, y5), (14, y14), (34, y34), (40, y40), (41, y41), (42, y42), (43, y43), (46, y46), (66, y66)] = [(0, y0), (1, y1), (2, y2), (4, y4), (5, z8), (14, y14), (34, y34), (40, y40), (41, y41), (42, y42), (43, y43), (46, y46), (66, y66)] := fun y0 y1 y2 y4 y5 y14 y34 y40 y41 y42 y43 y46 y66 z0 z1 z2 z3 z4 z5 z6 z7 z8 => rfl
    refine R_nil (tr _ _ _ _ _ _ _ _ _ _ _ _ _ _ _ _ _ _ _ _ _ _) ?_; clear tr
    refine then_n ?_
    refine cdd (fun h2 => ?_) (fun h2 => ?_)
    · try simp only [decide_eq_true_eq, decide_eq_false_iff_not, Bool.not_eq_true', Bool.not_eq_false', beq_iff_eq, beq_eq_false_iff_ne, ne_eq] at h2
      refine at_seq rfl ?_
      refine rg rfl ?_
      refine Rq ?_
      have tr : ∀ y0 y1 y2 y4 y5 y14 y34 y40 y41 y42 y43 y46 y66 z0 : AV, trim [(2, z0), (0, y0), (1, y1), (2, y2), (4, y4), (5, y5), (14, y14), (34, y34), (40, y40), (41, y41), (42, y42), (43, y43), (46, y46), (66, y66)] [(0, y0), (1, y1), (2, y2), (4, y4), (5, y5), (14, y14), (34, y34), (40, y40), (41, y41), (42, y42), (43, y43), (46, y46), (66, y66)] = [(0, y0), (1, y1), (2, z0), (4, y4), (5, y5), (14, y14), (34, y34), (40, y40), (41, y41), (42, y42), (43, y43), (46, y46), (66, y66)] := fun y0 y1 y2 y4 y5 y14 y34 y40 y41 y42 y43 y46 y66 z0 => rfl
      refine R_nil (tr _ _ _ _ _ _ _ _ _ _ _ _ _ _) ?_; clear tr
      refine then_n ?_
      refine at_ret rfl ?_
      refine blk_r ?_
      refine then_r ?_
      refine fpure ?_
      refine ⟨?_, rfl⟩
      rw [gchkS, if_pos (by omega)]
    · try simp only [decide_eq_true_eq, decide_eq_false_iff_not, Bool.not_eq_true', Bool.not_eq_false', beq_iff_eq, beq_eq_false_iff_ne, ne_eq] at h2
      refine at_seq rfl ?_
      refine rg rfl ?_
      refine Rq ?_
      refine Rq ?_
      refine Rq ?_
      refine Rcall ?_
      refine ACall_eq (node_ok _ _ n s t E _) ?_
      refine Rq ?_
      refine Rq ?_
      refine Rp_split (fun h3 => ?_) (fun h3 => ?_)
      · try simp only [decide_eq_true_eq, decide_eq_false_iff_not, Bool.not_eq_true', Bool.not_eq_false', beq_iff_eq, beq_eq_false_iff_ne, ne_eq] at h3
        refine Rn ?_
        refine Rn ?_
        refine Rn ?_
        refine Rn ?_
        refine Rn ?_
        refine Rq ?_
        refine Rq ?_
        refine Rn ?_
        refine Rn ?_
        refine Rn ?_
        refine Rn ?_
        refine Rn ?_
        refine Rq ?_
        refine Rq ?_
        have tr : ∀ y0 y1 y2 y4 y5 y14 y34 y40 y41 y42 y43 y46 y66 z0 z1 z2 z3 z4 z5 z6 z7 z8 z9 z10 z11 z12 z13 z14 z15 z16 z17 z18 z19 : AV, trim [(14, z19), (33, z18), (32, z17), (31, z16), (30, z15), (29, z14), (28, z13), (27, z12), (26, z11), (25, z10), (24, z9), (23, z8), (22, z7), (21, z6), (20, z5), (19, z4), (18, z3), (17, z2), (16, z1), (15, z0), (0, y0), (1, y1), (2, y2), (4, y4), (5, y5), (14, y14), (34, y34), (40, y40), (41, y41), (42, y42), (43, y43), (46, y46), (66, y66)] [(0, y0), (1, y1), (2, y2), (4, y4), (5, y5), (14, y14), (34, y34), (40, y40), (41, y41), (42, y42), (43, y43), (46, y46), (66, y66)] = [(0, y0), (1, y1), (2, y2), (4, y4), (5, y5), (14, z19), (34, y34), (40, y40), (41, y41), (42, y42), (43, y43), (46, y46), (66, y66)] := fun y0 y1 y2 y4 y5 y14 y34 y40 y41 y42 y43 y46 y66 z0 z1 z2 z3 z4 z5 z6 z7 z8 z9 z10 z11 z12 z13 z14 z15 z16 z17 z18 z19 => rfl
        refine R_nil (tr _ _ _ _ _ _ _ _ _ _ _ _ _ _ _ _ _ _ _ _ _ _ _ _ _ _ _ _ _ _ _ _ _) ?_; clear tr
        refine then_n ?_
        refine cdt ?_
        refine at_seq rfl ?_
        refine rg rfl ?_
        refine Rq ?_
        have tr : ∀ y0 y1 y2 y4 y5 y14 y34 y40 y41 y42 y43 y46 y66 z0 : AV, trim [(2, z0), (0, y0), (1, y1), (2, y2), (4, y4), (5, y5), (14, y14), (34, y34), (40, y40), (41, y41), (42, y42), (43, y43), (46, y46), (66, y66)] [(0, y0), (1, y1), (2, y2), (4, y4), (5, y5), (14, y14), (34, y34), (40, y40), (41, y41), (42, y42), (43, y43), (46, y46), (66, y66)] = [(0, y0), (1, y1), (2, z0), (4, y4), (5, y5), (14, y14), (34, y34), (40, y40), (41, y41), (42, y42), (43, y43), (46, y46), (66, y66)] := fun y0 y1 y2 y4 y5 y14 y34 y40 y41 y42 y43 y46 y66 z0 => rfl
        refine R_nil (tr _ _ _ _ _ _ _ _ _ _ _ _ _ _) ?_; clear tr
        refine then_n ?_
        refine at_ret rfl ?_
        refine blk_r ?_
        refine then_r ?_
        refine fpure ?_
        refine ⟨?_, rfl⟩
        rw [gchkS, if_neg (by omega), if_pos (by omega)]
      · try simp only [decide_eq_true_eq, decide_eq_false_iff_not, Bool.not_eq_true', Bool.not_eq_false', beq_iff_eq, beq_eq_false_iff_ne, ne_eq] at h3
        refine Ry ?_
        refine Rq ?_
        refine Ry ?_
        refine Rq ?_
        refine Ry ?_
        refine Rq ?_
        refine Ry ?_
        refine Rcall ?_
        refine ACall_eq (node_ok _ _ n s t E _) ?_
        refine Ry ?_
        refine Rq ?_
        refine Rq ?_
        refine Rq ?_
        refine Rp_split (fun h4 => ?_) (fun h4 => ?_)
        · try simp only [decide_eq_true_eq, decide_eq_false_iff_not, Bool.not_eq_true', Bool.not_eq_false', beq_iff_eq, beq_eq_false_iff_ne, ne_eq] at h4
          refine Rn ?_
          refine Rn ?_
          refine Rn ?_
          refine Rn ?_
          refine Rn ?_
          refine Rq ?_
          refine Rq ?_
          have tr : ∀ y0 y1 y2 y4 y5 y14 y34 y40 y41 y42 y43 y46 y66 z0 z1 z2 z3 z4 z5 z6 z7 z8 z9 z10 z11 z12 z13 z14 z15 z16 z17 z18 z19 : AV, trim [(14, z19), (33, z18), (32, z17), (31, z16), (30, z15), (29, z14), (28, z13), (27, z12), (26, z11), (25, z10), (24, z9), (23, z8), (22, z7), (21, z6), (20, z5), (19, z4), (18, z3), (17, z2), (16, z1), (15, z0), (0, y0), (1, y1), (2, y2), (4, y4), (5, y5), (14, y14), (34, y34), (40, y40), (41, y41), (42, y42), (43, y43), (46, y46), (66, y66)] [(0, y0), (1, y1), (2, y2), (4, y4), (5, y5), (14, y14), (34, y34), (40, y40), (41, y41), (42, y42), (43, y43), (46, y46), (66, y66)] = [(0, y0), (1, y1), (2, y2), (4, y4), (5, y5), (14, z19), (34, y34), (40, y40), (41, y41), (42, y42), (43, y43), (46, y46), (66, y66)] := fun y0 y1 y2 y4 y5 y14 y34 y40 y41 y42 y43 y46 y66 z0 z1 z2 z3 z4 z5 z6 z7 z8 z9 z10 z11 z12 z13 z14 z15 z16 z17 z18 z19 => rfl
          refine R_nil (tr _ _ _ _ _ _ _ _ _ _ _ _ _ _ _ _ _ _ _ _ _ _ _ _ _ _ _ _ _ _ _ _ _) ?_; clear tr
          refine then_n ?_
          refine cdt ?_
          refine at_seq rfl ?_
          refine rg rfl ?_
          refine Rq ?_
          have tr : ∀ y0 y1 y2 y4 y5 y14 y34 y40 y41 y42 y43 y46 y66 z0 : AV, trim [(2, z0), (0, y0), (1, y1), (2, y2), (4, y4), (5, y5), (14, y14), (34, y34), (40, y40), (41, y41), (42, y42), (43, y43), (46, y46), (66, y66)] [(0, y0), (1, y1), (2, y2), (4, y4), (5, y5), (14, y14), (34, y34), (40, y40), (41, y41), (42, y42), (43, y43), (46, y46), (66, y66)] = [(0, y0), (1, y1), (2, z0), (4, y4), (5, y5), (14, y14), (34, y34), (40, y40), (41, y41), (42, y42), (43, y43), (46, y46), (66, y66)] := fun y0 y1 y2 y4 y5 y14 y34 y40 y41 y42 y43 y46 y66 z0 => rfl
          refine R_nil (tr _ _ _ _ _ _ _ _ _ _ _ _ _ _) ?_; clear tr
          refine then_n ?_
          refine at_ret rfl ?_
          refine blk_r ?_
          refine then_r ?_
          refine fpure ?_
          refine ⟨?_, rfl⟩
          rw [gchkS, if_neg (by omega), if_pos (by omega)]
        · try simp only [decide_eq_true_eq, decide_eq_false_iff_not, Bool.not_eq_true', Bool.not_eq_false', beq_iff_eq, beq_eq_false_iff_ne, ne_eq] at h4
          refine Ry ?_
          refine Rq ?_
          refine Ry ?_
          refine Rq ?_
          refine Ry ?_
          refine Rq ?_
          refine Ry ?_
          refine Rq ?_
          refine Ry ?_
          refine Rq ?_
          refine Rq ?_
          refine Rq ?_
          have tr : ∀ y0 y1 y2 y4 y5 y14 y34 y40 y41 y42 y43 y46 y66 z0 z1 z2 z3 z4 z5 z6 z7 z8 z9 z10 z11 z12 z13 z14 z15 z16 z17 z18 z19 : AV, trim [(14, z19), (33, z18), (32, z17), (31, z16), (30, z15), (29, z14), (28, z13), (27, z12), (26, z11), (25, z10), (24, z9), (23, z8), (22, z7), (21, z6), (20, z5), (19, z4), (18, z3), (17, z2), (16, z1), (15, z0), (0, y0), (1, y1), (2, y2), (4, y4), (5, y5), (14, y14), (34, y34), (40, y40), (41, y41), (42, y42), (43, y43), (46, y46), (66, y66)] [(0, y0), (1, y1), (2, y2), (4, y4), (5, y5), (14, y14), (34, y34), (40, y40), (41, y41), (42, y42), (43, y43), (46, y46), (66, y66)] = [(0, y0), (1, y1), (2, y2), (4, y4), (5, y5), (14, z19), (34, y34), (40, y40), (41, y41), (42, y42), (43, y43), (46, y46), (66, y66)] := fun y0 y1 y2 y4 y5 y14 y34 y40 y41 y42 y43 y46 y66 z0 z1 z2 z3 z4 z5 z6 z7 z8 z9 z10 z11 z12 z13 z14 z15 z16 z17 z18 z19 => rfl
          refine R_nil (tr _ _ _ _ _ _ _ _ _ _ _ _ _ _ _ _ _ _ _ _ _ _ _ _ _ _ _ _ _ _ _ _ _) ?_; clear tr
          refine then_n ?_
          refine cdd (fun h5 => ?_) (fun h5 => ?_)
          · try simp only [decide_eq_true_eq, decide_eq_false_iff_not, Bool.not_eq_true', Bool.not_eq_false', beq_iff_eq, beq_eq_false_iff_ne, ne_eq] at h5
            refine at_seq rfl ?_
            refine rg rfl ?_
            refine Rq ?_
            have tr : ∀ y0 y1 y2 y4 y5 y14 y34 y40 y41 y42 y43 y46 y66 z0 : AV, trim [(2, z0), (0, y0), (1, y1), (2, y2), (4, y4), (5, y5), (14, y14), (34, y34), (40, y40), (41, y41), (42, y42), (43, y43), (46, y46), (66, y66)] [(0, y0), (1, y1), (2, y2), (4, y4), (5, y5), (14, y14), (34, y34), (40, y40), (41, y41), (42, y42), (43, y43), (46, y46), (66, y66)] = [(0, y0), (1, y1), (2, z0), (4, y4), (5, y5), (14, y14), (34, y34), (40, y40), (41, y41), (42, y42), (43, y43), (46, y46), (66, y66)] := fun y0 y1 y2 y4 y5 y14 y34 y40 y41 y42 y43 y46 y66 z0 => rfl
            refine R_nil (tr _ _ _ _ _ _ _ _ _ _ _ _ _ _) ?_; clear tr
            refine then_n ?_
            refine at_ret rfl ?_
            refine blk_r ?_
            refine then_r ?_
            refine fpure ?_
            refine ⟨?_, rfl⟩
            rw [gchkS, if_neg (by omega), if_pos (by omega)]
          · try simp only [decide_eq_true_eq, decide_eq_false_iff_not, Bool.not_eq_true', Bool.not_eq_false', beq_iff_eq, beq_eq_false_iff_ne, ne_eq] at h5
            refine at_seq rfl ?_
            refine rg rfl ?_
            refine Rq ?_
            refine Rq ?_
            refine Rq ?_
            refine Rq ?_
            refine Rq ?_
            have tr : ∀ y0 y1 y2 y4 y5 y14 y34 y40 y41 y42 y43 y46 y66 z0 z1 z2 z3 z4 : AV, trim [(34, z4), (38, z3), (37, z2), (36, z1), (35, z0), (0, y0), (1, y1), (2, y2), (4, y4), (5, y5), (14, y14), (34, y34), (40, y40), (41, y41), (42, y42), (43, y43), (46, y46), (66, y66)] [(0, y0), (1, y1), (2, y2), (4, y4), (5, y5), (14, y14), (34, y34), (40, y40), (41, y41), (42, y42), (43, y43), (46, y46), (66, y66)] = [(0, y0), (1, y1), (2, y2), (4, y4), (5, y5), (14, y14), (34, z4), (40, y40), (41, y41), (42, y42), (43, y43), (46, y46), (66, y66)] := fun y0 y1 y2 y4 y5 y14 y34 y40 y41 y42 y43 y46 y66 z0 z1 z2 z3 z4 => rfl
            refine R_nil (tr _ _ _ _ _ _ _ _ _ _ _ _ _ _ _ _ _ _) ?_; clear tr
            refine then_n ?_
            refine cdd (fun h6 => ?_) (fun h6 => ?_)
            · try simp only [decide_eq_true_eq, decide_eq_false_iff_not, Bool.not_eq_true', Bool.not_eq_false', beq_iff_eq, beq_eq_false_iff_ne, ne_eq] at h6
              refine at_seq rfl ?_
              refine rg rfl ?_
              refine Rq ?_
              have tr : ∀ y0 y1 y2 y4 y5 y14 y34 y40 y41 y42 y43 y46 y66 z0 : AV, trim [(2, z0), (0, y0), (1, y1), (2, y2), (4, y4), (5, y5), (14, y14), (34, y34), (40, y40), (41, y41), (42, y42), (43, y43), (46, y46), (66, y66)] [(0, y0), (1, y1), (2, y2), (4, y4), (5, y5), (14, y14), (34, y34), (40, y40), (41, y41), (42, y42), (43, y43), (46, y46), (66, y66)] = [(0, y0), (1, y1), (2, z0), (4, y4), (5, y5), (14, y14), (34, y34), (40, y40), (41, y41), (42, y42), (43, y43), (46, y46), (66, y66)] := fun y0 y1 y2 y4 y5 y14 y34 y40 y41 y42 y43 y46 y66 z0 => rfl
              refine R_nil (tr _ _ _ _ _ _ _ _ _ _ _ _ _ _) ?_; clear tr
              refine then_n ?_
              refine at_ret rfl ?_
              refine blk_r ?_
              refine then_r ?_
              refine fpure ?_
              refine ⟨?_, rfl⟩
              rw [gchkS, if_neg (by omega), if_neg (by omega), if_pos (by omega)]
            · try simp only [decide_eq_true_eq, decide_eq_false_iff_not, Bool.not_eq_true', Bool.not_eq_false', beq_iff_eq, beq_eq_false_iff_ne, ne_eq] at h6
              refine at_skip rfl ?_
              refine blk_n ?_
              refine then_n ?_
              refine at_seq rfl ?_
              refine at_seq rfl ?_
              refine rg rfl ?_
              refine Rq ?_
              refine Rq ?_
              refine Rq ?_
              refine Rq ?_
              have tr : ∀ y0 y1 y2 y4 y5 y14 y34 y40 y41 y42 y43 y46 y66 z0 z1 z2 z3 : AV, trim [(42, z3), (41, z2), (40, z1), (39, z0), (0, y0), (1, y1), (2, y2), (4, y4), (5, y5), (14, y14), (34, y34), (40, y40), (41, y41), (42, y42), (43, y43), (46, y46), (66, y66)] [(0, y0), (1, y1), (2, y2), (4, y4), (5, y5), (14, y14), (34, y34), (40, y40), (41, y41), (42, y42), (43, y43), (46, y46), (66, y66)] = [(0, y0), (1, y1), (2, y2), (4, y4), (5, y5), (14, y14), (34, y34), (40, z1), (41, z2), (42, z3), (43, y43), (46, y46), (66, y66)] := fun y0 y1 y2 y4 y5 y14 y34 y40 y41 y42 y43 y46 y66 z0 z1 z2 z3 => rfl
              refine R_nil (tr _ _ _ _ _ _ _ _ _ _ _ _ _ _ _ _ _) ?_; clear tr
              refine then_n ?_
              refine at_block rfl ?_
              refine loop_n rfl (fun mm kv H' => ∃ u : Nat, ∃ X : Heap, ∃ x2 x4 x43 x46 x66 : AV, (kv = [(2, x2), (4, x4), (42, AV.i u), (43, x43), (46, x46), (66, x66)]) ∧ (mm = E.length - u) ∧ (H' = H ++ [some (graphC n s t E)] ++ X) ∧ (u ≤ E.length) ∧ (ferr (fun i => edErr n (gt E i)) u = 0)) ⟨0, [], _, _, _, _, _, rfl, rfl, by simp, by omega, by rfl⟩ (by rfl) ?_
              rintro mm kv H1 ⟨u, X, x2, x4, x43, x46, x66, rfl, rfl, hX, hu, hz⟩
              have tr : ∀ y0 y1 y2 y4 y5 y14 y34 y40 y41 y42 y43 y46 y66 z2 z4 z42 z43 z46 z66 : AV, upd [(0, y0), (1, y1), (2, y2), (4, y4), (5, y5), (14, y14), (34, y34), (40, y40), (41, y41), (42, y42), (43, y43), (46, y46), (66, y66)] [(2, z2), (4, z4), (42, z42), (43, z43), (46, z46), (66, z66)] = [(0, y0), (1, y1), (2, z2), (4, z4), (5, y5), (14, y14), (34, y34), (40, y40), (41, y41), (42, z42), (43, z43), (46, z46), (66, z66)] := fun y0 y1 y2 y4 y5 y14 y34 y40 y41 y42 y43 y46 y66 z2 z4 z42 z43 z46 z66 => rfl
              refine W_to (tr _ _ _ _ _ _ _ _ _ _ _ _ _ _ _ _ _ _ _) ?_; clear tr
              subst hX
              refine at_seq rfl ?_
              refine rg rfl ?_
              refine Rq ?_
              have tr : ∀ y0 y1 y2 y4 y5 y14 y34 y40 y41 y42 y43 y46 y66 z0 : AV, trim [(43, z0), (0, y0), (1, y1), (2, y2), (4, y4), (5, y5), (14, y14), (34, y34), (40, y40), (41, y41), (42, y42), (43, y43), (46, y46), (66, y66)] [(0, y0), (1, y1), (2, y2), (4, y4), (5, y5), (14, y14), (34, y34), (40, y40), (41, y41), (42, y42), (43, y43), (46, y46), (66, y66)] = [(0, y0), (1, y1), (2, y2), (4, y4), (5, y5), (14, y14), (34, y34), (40, y40), (41, y41), (42, y42), (43, z0), (46, y46), (66, y66)] := fun y0 y1 y2 y4 y5 y14 y34 y40 y41 y42 y43 y46 y66 z0 => rfl
              refine R_nil (tr _ _ _ _ _ _ _ _ _ _ _ _ _ _) ?_; clear tr
              refine then_n ?_
              refine at_seq rfl ?_
              refine cdd (fun h7 => ?_) (fun h7 => ?_)
              · try simp only [decide_eq_true_eq, decide_eq_false_iff_not, Bool.not_eq_true', Bool.not_eq_false', beq_iff_eq, beq_eq_false_iff_ne, ne_eq] at h7
                refine at_skip rfl ?_
                refine then_n ?_
                refine at_seq rfl ?_
                refine at_block rfl ?_
                refine at_seq rfl ?_
                refine rg rfl ?_
                refine Rq ?_
                refine Rq ?_
                refine R_alloc (by simp (disch := first | omega | (simp only [List.length_map, List.length_append, List.length_set, List.length_cons, List.length_nil, List.length_take, List.length_drop]; omega)) only [go_sem, ↓reduceIte, Nat.reduceEqDiff, reduceCtorEq]; rfl) rfl (by simp only [List.map_cons, List.map_nil]; rfl) ?_
                refine R_store ty66 (by simp (disch := first | omega | (simp only [List.length_map, List.length_append, List.length_set, List.length_cons, List.length_nil, List.length_take, List.length_drop]; omega)) only [go_sem, ↓reduceIte, Nat.reduceEqDiff, reduceCtorEq]; rfl) (by simp (disch := first | omega | (simp only [List.length_map, List.length_append, List.length_set, List.length_cons, List.length_nil, List.length_take, List.length_drop]; omega)) only [go_sem, ↓reduceIte, Nat.reduceEqDiff, reduceCtorEq]; rfl) (by simp (disch := first | omega | (simp only [List.length_map, List.length_append, List.length_set, List.length_cons, List.length_nil, List.length_take, List.length_drop]; omega)) only [go_sem, ↓reduceIte, Nat.reduceEqDiff, reduceCtorEq]; rfl) (by simp) (by rfl) (by simp (disch := first | omega | (simp only [List.length_map, List.length_append, List.length_set, List.length_cons, List.length_nil, List.length_take, List.length_drop]; omega)) only [go_sem, ↓reduceIte, Nat.reduceEqDiff, reduceCtorEq]; rfl) ?_
                have tr : ∀ y0 y1 y2 y4 y5 y14 y34 y40 y41 y42 y43 y46 y66 z0 z1 z2 : AV, trim [(4, z2), (45, z1), (44, z0), (0, y0), (1, y1), (2, y2), (4, y4), (5, y5), (14, y14), (34, y34), (40, y40), (41, y41), (42, y42), (43, y43), (46, y46), (66, y66)] [(0, y0), (1, y1), (2, y2), (4, y4), (5, y5), (14, y14), (34, y34), (40, y40), (41, y41), (42, y42), (43, y43), (46, y46), (66, y66)] = [(0, y0), (1, y1), (2, y2), (4, z2), (5, y5), (14, y14), (34, y34), (40, y40), (41, y41), (42, y42), (43, y43), (46, y46), (66, y66)] := fun y0 y1 y2 y4 y5 y14 y34 y40 y41 y42 y43 y46 y66 z0 z1 z2 => rfl
                refine R_nil (tr _ _ _ _ _ _ _ _ _ _ _ _ _ _ _ _) ?_; clear tr
                refine then_n ?_
                refine at_block rfl ?_
                refine at_seq rfl ?_
                refine rg rfl ?_
                refine Rq ?_
                refine Rq ?_
                refine Rq ?_
                refine Rcall ?_
                refine ACall_eq (node_ok _ _ n s t E _) ?_
                refine Rq ?_
                refine Rq ?_
                refine Rp_split (fun h8 => ?_) (fun h8 => ?_)
                · try simp only [decide_eq_true_eq, decide_eq_false_iff_not, Bool.not_eq_true', Bool.not_eq_false', beq_iff_eq, beq_eq_false_iff_ne, ne_eq] at h8
                  refine Rn ?_
                  refine Rn ?_
                  refine Rn ?_
                  refine Rn ?_
                  refine Rn ?_
                  refine Rq ?_
                  refine Rq ?_
                  refine Rn ?_
                  refine Rn ?_
                  refine Rn ?_
                  refine Rn ?_
                  refine Rn ?_
                  refine Rq ?_
                  refine Rq ?_
                  have tr : ∀ y0 y1 y2 y4 y5 y14 y34 y40 y41 y42 y43 y46 y66 z0 z1 z2 z3 z4 z5 z6 z7 z8 z9 z10 z11 z12 z13 z14 z15 z16 z17 z18 z19 : AV, trim [(46, z19), (65, z18), (64, z17), (63, z16), (62, z15), (61, z14), (60, z13), (59, z12), (58, z11), (57, z10), (56, z9), (55, z8), (54, z7), (53, z6), (52, z5), (51, z4), (50, z3), (49, z2), (48, z1), (47, z0), (0, y0), (1, y1), (2, y2), (4, y4), (5, y5), (14, y14), (34, y34), (40, y40), (41, y41), (42, y42), (43, y43), (46, y46), (66, y66)] [(0, y0), (1, y1), (2, y2), (4, y4), (5, y5), (14, y14), (34, y34), (40, y40), (41, y41), (42, y42), (43, y43), (46, y46), (66, y66)] = [(0, y0), (1, y1), (2, y2), (4, y4), (5, y5), (14, y14), (34, y34), (40, y40), (41, y41), (42, y42), (43, y43), (46, z19), (66, y66)] := fun y0 y1 y2 y4 y5 y14 y34 y40 y41 y42 y43 y46 y66 z0 z1 z2 z3 z4 z5 z6 z7 z8 z9 z10 z11 z12 z13 z14 z15 z16 z17 z18 z19 => rfl
                  refine R_nil (tr _ _ _ _ _ _ _ _ _ _ _ _ _ _ _ _ _ _ _ _ _ _ _ _ _ _ _ _ _ _ _ _ _) ?_; clear tr
                  refine then_n ?_
                  refine cdt ?_
                  refine at_seq rfl ?_
                  refine rg rfl ?_
                  refine Rq ?_
                  have tr : ∀ y0 y1 y2 y4 y5 y14 y34 y40 y41 y42 y43 y46 y66 z0 : AV, trim [(2, z0), (0, y0), (1, y1), (2, y2), (4, y4), (5, y5), (14, y14), (34, y34), (40, y40), (41, y41), (42, y42), (43, y43), (46, y46), (66, y66)] [(0, y0), (1, y1), (2, y2), (4, y4), (5, y5), (14, y14), (34, y34), (40, y40), (41, y41), (42, y42), (43, y43), (46, y46), (66, y66)] = [(0, y0), (1, y1), (2, z0), (4, y4), (5, y5), (14, y14), (34, y34), (40, y40), (41, y41), (42, y42), (43, y43), (46, y46), (66, y66)] := fun y0 y1 y2 y4 y5 y14 y34 y40 y41 y42 y43 y46 y66 z0 => rfl
                  refine R_nil (tr _ _ _ _ _ _ _ _ _ _ _ _ _ _) ?_; clear tr
                  refine then_n ?_
                  refine at_ret rfl ?_
                  refine blk_r ?_
                  refine blk_r ?_
                  refine then_r ?_
                  refine then_r ?_
                  refine blk_r ?_
                  refine then_r ?_
                  refine fpure ?_
                  refine ⟨?_, rfl⟩
                  have hse : edErr n (gt E u) = 1 := by unfold edErr; rw [if_pos (by omega)]
                  rw [gchkS, if_neg (by omega), if_neg (by omega), if_neg (by omega), ferr_at hz (by omega) _ (by omega), hse]
                · try simp only [decide_eq_true_eq, decide_eq_false_iff_not, Bool.not_eq_true', Bool.not_eq_false', beq_iff_eq, beq_eq_false_iff_ne, ne_eq] at h8
                  refine Ry ?_
                  refine Rq ?_
                  refine Ry ?_
                  refine Rq ?_
                  refine Ry ?_
                  refine Rq ?_
                  refine Ry ?_
                  refine Rcall ?_
                  refine ACall_eq (node_ok _ _ n s t E _) ?_
                  refine Ry ?_
                  refine Rq ?_
                  refine Rq ?_
                  refine Rq ?_
                  refine Rp_split (fun h9 => ?_) (fun h9 => ?_)
                  · try simp only [decide_eq_true_eq, decide_eq_false_iff_not, Bool.not_eq_true', Bool.not_eq_false', beq_iff_eq, beq_eq_false_iff_ne, ne_eq] at h9
                    refine Rn ?_
                    refine Rn ?_
                    refine Rn ?_
                    refine Rn ?_
                    refine Rn ?_
                    refine Rq ?_
                    refine Rq ?_
                    have tr : ∀ y0 y1 y2 y4 y5 y14 y34 y40 y41 y42 y43 y46 y66 z0 z1 z2 z3 z4 z5 z6 z7 z8 z9 z10 z11 z12 z13 z14 z15 z16 z17 z18 z19 : AV, trim [(46, z19), (65, z18), (64, z17), (63, z16), (62, z15), (61, z14), (60, z13), (59, z12), (58, z11), (57, z10), (56, z9), (55, z8), (54, z7), (53, z6), (52, z5), (51, z4), (50, z3), (49, z2), (48, z1), (47, z0), (0, y0), (1, y1), (2, y2), (4, y4), (5, y5), (14, y14), (34, y34), (40, y40), (41, y41), (42, y42), (43, y43), (46, y46), (66, y66)] [(0, y0), (1, y1), (2, y2), (4, y4), (5, y5), (14, y14), (34, y34), (40, y40), (41, y41), (42, y42), (43, y43), (46, y46), (66, y66)] = [(0, y0), (1, y1), (2, y2), (4, y4), (5, y5), (14, y14), (34, y34), (40, y40), (41, y41), (42, y42), (43, y43), (46, z19), (66, y66)] := fun y0 y1 y2 y4 y5 y14 y34 y40 y41 y42 y43 y46 y66 z0 z1 z2 z3 z4 z5 z6 z7 z8 z9 z10 z11 z12 z13 z14 z15 z16 z17 z18 z19 => rfl
                    refine R_nil (tr _ _ _ _ _ _ _ _ _ _ _ _ _ _ _ _ _ _ _ _ _ _ _ _ _ _ _ _ _ _ _ _ _) ?_; clear tr
                    refine then_n ?_
                    refine cdt ?_
                    refine at_seq rfl ?_
                    refine rg rfl ?_
                    refine Rq ?_
                    have tr : ∀ y0 y1 y2 y4 y5 y14 y34 y40 y41 y42 y43 y46 y66 z0 : AV, trim [(2, z0), (0, y0), (1, y1), (2, y2), (4, y4), (5, y5), (14, y14), (34, y34), (40, y40), (41, y41), (42, y42), (43, y43), (46, y46), (66, y66)] [(0, y0), (1, y1), (2, y2), (4, y4), (5, y5), (14, y14), (34, y34), (40, y40), (41, y41), (42, y42), (43, y43), (46, y46), (66, y66)] = [(0, y0), (1, y1), (2, z0), (4, y4), (5, y5), (14, y14), (34, y34), (40, y40), (41, y41), (42, y42), (43, y43), (46, y46), (66, y66)] := fun y0 y1 y2 y4 y5 y14 y34 y40 y41 y42 y43 y46 y66 z0 => rfl
                    refine R_nil (tr _ _ _ _ _ _ _ _ _ _ _ _ _ _) ?_; clear tr
                    refine then_n ?_
                    refine at_ret rfl ?_
                    refine blk_r ?_
                    refine blk_r ?_
                    refine then_r ?_
                    refine then_r ?_
                    refine blk_r ?_
                    refine then_r ?_
                    refine fpure ?_
                    refine ⟨?_, rfl⟩
                    have hse : edErr n (gt E u) = 1 := by unfold edErr; rw [if_pos (by omega)]
                    rw [gchkS, if_neg (by omega), if_neg (by omega), if_neg (by omega), ferr_at hz (by omega) _ (by omega), hse]
                  · try simp only [decide_eq_true_eq, decide_eq_false_iff_not, Bool.not_eq_true', Bool.not_eq_false', beq_iff_eq, beq_eq_false_iff_ne, ne_eq] at h9
                    refine Ry ?_
                    refine Rq ?_
                    refine Ry ?_
                    refine Rq ?_
                    refine Ry ?_
                    refine Rq ?_
                    refine Ry ?_
                    refine Rq ?_
                    refine Ry ?_
                    refine Rq ?_
                    refine Rq ?_
                    refine Rq ?_
                    have tr : ∀ y0 y1 y2 y4 y5 y14 y34 y40 y41 y42 y43 y46 y66 z0 z1 z2 z3 z4 z5 z6 z7 z8 z9 z10 z11 z12 z13 z14 z15 z16 z17 z18 z19 : AV, trim [(46, z19), (65, z18), (64, z17), (63, z16), (62, z15), (61, z14), (60, z13), (59, z12), (58, z11), (57, z10), (56, z9), (55, z8), (54, z7), (53, z6), (52, z5), (51, z4), (50, z3), (49, z2), (48, z1), (47, z0), (0, y0), (1, y1), (2, y2), (4, y4), (5, y5), (14, y14), (34, y34), (40, y40), (41, y41), (42, y42), (43, y43), (46, y46), (66, y66)] [(0, y0), (1, y1), (2, y2), (4, y4), (5, y5), (14, y14), (34, y34), (40, y40), (41, y41), (42, y42), (43, y43), (46, y46), (66, y66)] = [(0, y0), (1, y1), (2, y2), (4, y4), (5, y5), (14, y14), (34, y34), (40, y40), (41, y41), (42, y42), (43, y43), (46, z19), (66, y66)] := fun y0 y1 y2 y4 y5 y14 y34 y40 y41 y42 y43 y46 y66 z0 z1 z2 z3 z4 z5 z6 z7 z8 z9 z10 z11 z12 z13 z14 z15 z16 z17 z18 z19 => rfl
                    refine R_nil (tr _ _ _ _ _ _ _ _ _ _ _ _ _ _ _ _ _ _ _ _ _ _ _ _ _ _ _ _ _ _ _ _ _) ?_; clear tr
                    refine then_n ?_
                    refine cdd (fun h10 => ?_) (fun h10 => ?_)
                    · try simp only [decide_eq_true_eq, decide_eq_false_iff_not, Bool.not_eq_true', Bool.not_eq_false', beq_iff_eq, beq_eq_false_iff_ne, ne_eq] at h10
                      refine at_seq rfl ?_
                      refine rg rfl ?_
                      refine Rq ?_
                      have tr : ∀ y0 y1 y2 y4 y5 y14 y34 y40 y41 y42 y43 y46 y66 z0 : AV, trim [(2, z0), (0, y0), (1, y1), (2, y2), (4, y4), (5, y5), (14, y14), (34, y34), (40, y40), (41, y41), (42, y42), (43, y43), (46, y46), (66, y66)] [(0, y0), (1, y1), (2, y2), (4, y4), (5, y5), (14, y14), (34, y34), (40, y40), (41, y41), (42, y42), (43, y43), (46, y46), (66, y66)] = [(0, y0), (1, y1), (2, z0), (4, y4), (5, y5), (14, y14), (34, y34), (40, y40), (41, y41), (42, y42), (43, y43), (46, y46), (66, y66)] := fun y0 y1 y2 y4 y5 y14 y34 y40 y41 y42 y43 y46 y66 z0 => rfl
                      refine R_nil (tr _ _ _ _ _ _ _ _ _ _ _ _ _ _) ?_; clear tr
                      refine then_n ?_
                      refine at_ret rfl ?_
                      refine blk_r ?_
                      refine blk_r ?_
                      refine then_r ?_
                      refine then_r ?_
                      refine blk_r ?_
                      refine then_r ?_
                      refine fpure ?_
                      refine ⟨?_, rfl⟩
                      have hse : edErr n (gt E u) = 1 := by unfold edErr; rw [if_pos (by omega)]
                      rw [gchkS, if_neg (by omega), if_neg (by omega), if_neg (by omega), ferr_at hz (by omega) _ (by omega), hse]
                    · try simp only [decide_eq_true_eq, decide_eq_false_iff_not, Bool.not_eq_true', Bool.not_eq_false', beq_iff_eq, beq_eq_false_iff_ne, ne_eq] at h10
                      refine at_seq rfl ?_
                      refine rg rfl ?_
                      refine Rq ?_
                      refine Rq ?_
                      refine Rq ?_
                      refine Rq ?_
                      refine Rp_split (fun h11 => ?_) (fun h11 => ?_)
                      · try simp only [decide_eq_true_eq, decide_eq_false_iff_not, Bool.not_eq_true', Bool.not_eq_false', beq_iff_eq, beq_eq_false_iff_ne, ne_eq] at h11
                        refine Rn ?_
                        refine Rn ?_
                        refine Rn ?_
                        refine Rq ?_
                        refine Rq ?_
                        have tr : ∀ y0 y1 y2 y4 y5 y14 y34 y40 y41 y42 y43 y46 y66 z0 z1 z2 z3 z4 z5 z6 z7 z8 : AV, trim [(66, z8), (74, z7), (73, z6), (72, z5), (71, z4), (70, z3), (69, z2), (68, z1), (67, z0), (0, y0), (1, y1), (2, y2), (4, y4), (5, y5), (14, y14), (34, y34), (40, y40), (41, y41), (42, y42), (43, y43), (46, y46), (66, y66)] [(0, y0), (1, y1), (2, y2), (4, y4), (5, y5), (14, y14), (34, y34), (40, y40), (41, y41), (42, y42), (43, y43), (46, y46), (66, y66)] = [(0, y0), (1, y1), (2, y2), (4, y4), (5, y5), (14, y14), (34, y34), (40, y40), (41, y41), (42, y42), (43, y43), (46, y46), (66, z8)] := fun y0 y1 y2 y4 y5 y14 y34 y40 y41 y42 y43 y46 y66 z0 z1 z2 z3 z4 z5 z6 z7 z8 => rfl
                        refine R_nil (tr _ _ _ _ _ _ _ _ _ _ _ _ _ _ _ _ _ _ _ _ _ _) ?_; clear tr
                        refine then_n ?_
                        refine cdt ?_
                        refine at_seq rfl ?_
                        refine rg rfl ?_
                        refine Rq ?_
                        have tr : ∀ y0 y1 y2 y4 y5 y14 y34 y40 y41 y42 y43 y46 y66 z0 : AV, trim [(2, z0), (0, y0), (1, y1), (2, y2), (4, y4), (5, y5), (14, y14), (34, y34), (40, y40), (41, y41), (42, y42), (43, y43), (46, y46), (66, y66)] [(0, y0), (1, y1), (2, y2), (4, y4), (5, y5), (14, y14), (34, y34), (40, y40), (41, y41), (42, y42), (43, y43), (46, y46), (66, y66)] = [(0, y0), (1, y1), (2, z0), (4, y4), (5, y5), (14, y14), (34, y34), (40, y40), (41, y41), (42, y42), (43, y43), (46, y46), (66, y66)] := fun y0 y1 y2 y4 y5 y14 y34 y40 y41 y42 y43 y46 y66 z0 => rfl
                        refine R_nil (tr _ _ _ _ _ _ _ _ _ _ _ _ _ _) ?_; clear tr
                        refine then_n ?_
                        refine at_ret rfl ?_
                        refine blk_r ?_
                        refine blk_r ?_
                        refine then_r ?_
                        refine then_r ?_
                        refine blk_r ?_
                        refine then_r ?_
                        refine fpure ?_
                        refine ⟨?_, rfl⟩
                        have hse : edErr n (gt E u) = 2 := by unfold edErr; rw [if_neg (by omega), if_pos (by omega)]
                        rw [gchkS, if_neg (by omega), if_neg (by omega), if_neg (by omega), ferr_at hz (by omega) _ (by omega), hse]
                      · try simp only [decide_eq_true_eq, decide_eq_false_iff_not, Bool.not_eq_true', Bool.not_eq_false', beq_iff_eq, beq_eq_false_iff_ne, ne_eq] at h11
                        refine Ry ?_
                        refine Rq ?_
                        refine Ry ?_
                        refine Rq ?_
                        refine Ry ?_
                        refine Rq ?_
                        refine Rq ?_
                        refine Rq ?_
                        have tr : ∀ y0 y1 y2 y4 y5 y14 y34 y40 y41 y42 y43 y46 y66 z0 z1 z2 z3 z4 z5 z6 z7 z8 : AV, trim [(66, z8), (74, z7), (73, z6), (72, z5), (71, z4), (70, z3), (69, z2), (68, z1), (67, z0), (0, y0), (1, y1), (2, y2), (4, y4), (5, y5), (14, y14), (34, y34), (40, y40), (41, y41), (42, y42), (43, y43), (46, y46), (66, y66)] [(0, y0), (1, y1), (2, y2), (4, y4), (5, y5), (14, y14), (34, y34), (40, y40), (41, y41), (42, y42), (43, y43), (46, y46), (66, y66)] = [(0, y0), (1, y1), (2, y2), (4, y4), (5, y5), (14, y14), (34, y34), (40, y40), (41, y41), (42, y42), (43, y43), (46, y46), (66, z8)] := fun y0 y1 y2 y4 y5 y14 y34 y40 y41 y42 y43 y46 y66 z0 z1 z2 z3 z4 z5 z6 z7 z8 => rfl
                        refine R_nil (tr _ _ _ _ _ _ _ _ _ _ _ _ _ _ _ _ _ _ _ _ _ _) ?_; clear tr
                        refine then_n ?_
                        refine cdd (fun h12 => ?_) (fun h12 => ?_)
                        · try simp only [decide_eq_true_eq, decide_eq_false_iff_not, Bool.not_eq_true', Bool.not_eq_false', beq_iff_eq, beq_eq_false_iff_ne, ne_eq] at h12
                          refine at_seq rfl ?_
                          refine rg rfl ?_
                          refine Rq ?_
                          have tr : ∀ y0 y1 y2 y4 y5 y14 y34 y40 y41 y42 y43 y46 y66 z0 : AV, trim [(2, z0), (0, y0), (1, y1), (2, y2), (4, y4), (5, y5), (14, y14), (34, y34), (40, y40), (41, y41), (42, y42), (43, y43), (46, y46), (66, y66)] [(0, y0), (1, y1), (2, y2), (4, y4), (5, y5), (14, y14), (34, y34), (40, y40), (41, y41), (42, y42), (43, y43), (46, y46), (66, y66)] = [(0, y0), (1, y1), (2, z0), (4, y4), (5, y5), (14, y14), (34, y34), (40, y40), (41, y41), (42, y42), (43, y43), (46, y46), (66, y66)] := fun y0 y1 y2 y4 y5 y14 y34 y40 y41 y42 y43 y46 y66 z0 => rfl
                          refine R_nil (tr _ _ _ _ _ _ _ _ _ _ _ _ _ _) ?_; clear tr
                          refine then_n ?_
                          refine at_ret rfl ?_
                          refine blk_r ?_
                          refine blk_r ?_
                          refine then_r ?_
                          refine then_r ?_
                          refine blk_r ?_
                          refine then_r ?_
                          refine fpure ?_
                          refine ⟨?_, rfl⟩
                          have hse : edErr n (gt E u) = 2 := by unfold edErr; rw [if_neg (by omega), if_pos (by omega)]
                          rw [gchkS, if_neg (by omega), if_neg (by omega), if_neg (by omega), ferr_at hz (by omega) _ (by omega), hse]
                        · try simp only [decide_eq_true_eq, decide_eq_false_iff_not, Bool.not_eq_true', Bool.not_eq_false', beq_iff_eq, beq_eq_false_iff_ne, ne_eq] at h12
                          refine at_skip rfl ?_
                          refine blk_n ?_
                          refine blk_n ?_
                          refine then_n ?_
                          refine rg rfl ?_
                          refine Rq ?_
                          refine Rq ?_
                          have tr : ∀ y0 y1 y2 y4 y5 y14 y34 y40 y41 y42 y43 y46 y66 z0 z1 : AV, trim [(42, z1), (75, z0), (0, y0), (1, y1), (2, y2), (4, y4), (5, y5), (14, y14), (34, y34), (40, y40), (41, y41), (42, y42), (43, y43), (46, y46), (66, y66)] [(0, y0), (1, y1), (2, y2), (4, y4), (5, y5), (14, y14), (34, y34), (40, y40), (41, y41), (42, y42), (43, y43), (46, y46), (66, y66)] = [(0, y0), (1, y1), (2, y2), (4, y4), (5, y5), (14, y14), (34, y34), (40, y40), (41, y41), (42, z1), (43, y43), (46, y46), (66, y66)] := fun y0 y1 y2 y4 y5 y14 y34 y40 y41 y42 y43 y46 y66 z0 z1 => rfl
                          refine R_nil (tr _ _ _ _ _ _ _ _ _ _ _ _ _ _ _) ?_; clear tr
                          refine then_n ?_
                          have hok : edErr n (gt E u) = 0 := by unfold edErr; rw [if_neg (by omega), if_neg (by omega)]
                          exact ⟨_, _, ⟨u + 1, X ++ [some (edC (gt E u))], _, _, _, _, _, rfl, rfl, by simp; rfl, by omega, by exact ferr_ok hz hok⟩, by rfl, by omega⟩
              · try simp only [decide_eq_true_eq, decide_eq_false_iff_not, Bool.not_eq_true', Bool.not_eq_false', beq_iff_eq, beq_eq_false_iff_ne, ne_eq] at h7
                refine at_exit rfl ?_
                refine then_x ?_
                refine then_x ?_
                refine blk_x ?_
                refine then_n ?_
                refine at_seq rfl ?_
                refine rg rfl ?_
                refine Rq ?_
                have tr : ∀ y0 y1 y2 y4 y5 y14 y34 y40 y41 y42 y43 y46 y66 z0 : AV, trim [(2, z0), (0, y0), (1, y1), (2, y2), (4, y4), (5, y5), (14, y14), (34, y34), (40, y40), (41, y41), (42, y42), (43, y43), (46, y46), (66, y66)] [(0, y0), (1, y1), (2, y2), (4, y4), (5, y5), (14, y14), (34, y34), (40, y40), (41, y41), (42, y42), (43, y43), (46, y46), (66, y66)] = [(0, y0), (1, y1), (2, z0), (4, y4), (5, y5), (14, y14), (34, y34), (40, y40), (41, y41), (42, y42), (43, y43), (46, y46), (66, y66)] := fun y0 y1 y2 y4 y5 y14 y34 y40 y41 y42 y43 y46 y66 z0 => rfl
                refine R_nil (tr _ _ _ _ _ _ _ _ _ _ _ _ _ _) ?_; clear tr
                refine then_n ?_
                refine at_ret rfl ?_
                refine fpure ?_
                refine ⟨?_, rfl⟩
                rw [gchkS, if_neg (by omega), if_neg (by omega), if_neg (by omega), show ferr (fun i => edErr n (gt E i)) E.length = 0 by rw [show E.length = u by omega]; exact hz]

theorem rcheck_ok (lim : Nat) (H : Heap) (n s t : Int) (E : List Ed) :
    ACall sig lim 22 [.agg (graphC n s t E)] H fun r H' => r = AV.i (gchkS n s t E) ∧ H' = H := by
  refine ACall_pure (fa := fa22) rfl rfl rfl rfl ?_
  have tr : ∀ a0 : AV, env0 fa22.keep [a0] = [(0, a0), (1, .any), (2, .any), (4, .any), (5, .any), (14, .any), (44, .any), (50, .any), (51, .any), (52, .any), (53, .any), (84, .any), (92, .any)] := fun a0 => rfl
  refine W_to (tr _) ?_; clear tr
  refine at_seq rfl ?_
  refine rg rfl ?_
  refine R_box rfl (by simp (disch := first | omega | (simp only [List.length_map, List.length_append, List.length_set, List.length_cons, List.length_nil, List.length_take, List.length_drop]; omega)) only [go_sem, ↓reduceIte, Nat.reduceEqDiff, reduceCtorEq]; rfl) rfl rfl ?_
  refine Rq ?_
  have tr : ∀ y0 y1 y2 y4 y5 y14 y44 y50 y51 y52 y53 y84 y92 z0 z1 : AV, trim [(2, z1), (1, z0), (0, y0), (1, y1), (2, y2), (4, y4), (5, y5), (14, y14), (44, y44), (50, y50), (51, y51), (52, y52), (53, y53), (84, y84), (92, y92)] [(0, y0), (1, y1), (2, y2), (4, y4), (5, y5), (14, y14), (44, y44), (50, y50), (51, y51), (52, y52), (53, y53), (84, y84), (92, y92)] = [(0, y0), (1, z0), (2, z1), (4, y4), (5, y5), (14, y14), (44, y44), (50, y50), (51, y51), (52, y52), (53, y53), (84, y84), (92, y92)] := fun y0 y1 y2 y4 y5 y14 y44 y50 y51 y52 y53 y84 y92 z0 z1 => rfl
  refine R_nil (tr _ _ _ _ _ _ _ _ _ _ _ _ _ _ _) ?_; clear tr
  refine then_n ?_
  refine at_seq rfl ?_
  refine at_block rfl ?_
  refine at_seq rfl ?_
  refine rg rfl ?_
  refine Rq ?_
  refine Rq ?_
  refine Rq ?_
  refine Rq ?_
  refine Rp_split (fun h1 => ?_) (fun h1 => ?_)
  · try simp only [decide_eq_true_eq, decide_eq_false_iff_not, Bool.not_eq_true', Bool.not_eq_false', beq_iff_eq, beq_eq_false_iff_ne, ne_eq] at h1
    refine Rn ?_
    refine Rn ?_
    refine Rn ?_
    refine Rq ?_
    refine Rq ?_
    have tr : ∀ y0 y1 y2 y4 y5 y14 y44 y50 y51 y52 y53 y84 y92 z0 z1 z2 z3 z4 z5 z6 z7 z8 : AV, trim [(5, z8), (13, z7), (12, z6), (11, z5), (10, z4), (9, z3), (8, z2), (7, z1), (6, z0), (0, y0), (1, y1), (2, y2), (4, y4), (5, y5), (14, y14), (44, y44), (50, y50), (51, y51), (52, y52), (53, y53), (84, y84), (92, y92)] [(0, y0), (1, y1), (2, y2), (4, y4), (5, y5), (14, y14), (44, y44), (50, y50), (51, y51), (52, y52), (53, y53), (84, y84), (92, y92)] = [(0, y0), (1, y1), (2, y2), (4, y4), (5, z8), (14, y14), (44, y44), (50, y50), (51, y51), (52, y52), (53, y53), (84, y84), (92, y92)] := fun y0 y1 y2 y4 y5 y14 y44 y50 y51 y52 y53 y84 y92 z0 z1 z2 z3 z4 z5 z6 z7 z8 => rfl
    refine R_nil (tr _ _ _ _ _ _ _ _ _ _ _ _ _ _ _ _ _ _ _ _ _ _) ?_; clear tr
    refine then_n ?_
    refine cdt ?_
    refine at_seq rfl ?_
    refine rg rfl ?_
    refine Rq ?_
    have tr : ∀ y0 y1 y2 y4 y5 y14 y44 y50 y51 y52 y53 y84 y92 z0 : AV, trim [(2, z0), (0, y0), (1, y1), (2, y2), (4, y4), (5, y5), (14, y14), (44, y44), (50, y50), (51, y51), (52, y52), (53, y53), (84, y84), (92, y92)] [(0, y0), (1, y1), (2, y2), (4, y4), (5, y5), (14, y14), (44, y44), (50, y50), (51, y51), (52, y52), (53, y53), (84, y84), (92, y92)] = [(0, y0), (1, y1), (2, z0), (4, y4), (5, y5), (14, y14), (44, y44), (50, y50), (51, y51), (52, y52), (53, y53), (84, y84), (92, y92)] := fun y0 y1 y2 y4 y5 y14 y44 y50 y51 y52 y53 y84 y92 z0 => rfl
    refine R_nil (tr _ _ _ _ _ _ _ _ _ _ _ _ _ _) ?_; clear tr
    refine then_n ?_
    refine at_ret rfl ?_
    refine blk_r ?_
    refine then_r ?_
    refine fpure ?_
    refine ⟨?_, rfl⟩
    rw [gchkS, if_pos (by omega)]
  · try simp only [decide_eq_true_eq, decide_eq_false_iff_not, Bool.not_eq_true', Bool.not_eq_false', beq_iff_eq, beq_eq_false_iff_ne, ne_eq] at h1
    refine Ry ?_
    refine Rq ?_
    refine Ry ?_
    refine Rq ?_
    refine Ry ?_
    refine Rq ?_
    refine Rq ?_
    refine Rq ?_
    have tr : ∀ y0 y1 y2 y4 y5 y14 y44 y50 y51 y52 y53 y84 y92 z0 z1 z2 z3 z4 z5 z6 z7 z8 : AV, trim [(5, z8), (13, z7), (12, z6), (11, z5), (10, z4), (9, z3), (8, z2), (7, z1), (6, z0), (0, y0), (1, y1), (2, y2), (4, y4), (5, y5), (14, y14), (44, y44), (50, y50), (51, y51), (52, y52), (53, y53), (84, y84), (92, y92)] [(0, y0), (1, y1), (2, y2), (4, y4), (5, y5), (14, y14), (44, y44), (50, y50), (51, y51), (52, y52), (53, y53), (84, y84), (92, y92)] = [(0, y0), (1, y1), (2, y2), (4, y4), (5, z8), (14, y14), (44, y44), (50, y50), (51, y51), (52, y52), (53, y53), (84, y84), (92, y92)] := fun y0 y1 y2 y4 y5 y14 y44 y50 y51 y52 y53 y84 y92 z0 z1 z2 z3 z4 z5 z6 z7 z8 => rfl
    refine R_nil (tr _ _ _ _ _ _ _ _ _ _ _ _ _ _ _ _ _ _ _ _ _ _) ?_; clear tr
    refine then_n ?_
    refine cdd (fun h2 => ?_) (fun h2 => ?_)
    · try simp only [decide_eq_true_eq, decide_eq_false_iff_not, Bool.not_eq_true', Bool.not_eq_false', beq_iff_eq, beq_eq_false_iff_ne, ne_eq] at h2
      refine at_seq rfl ?_
      refine rg rfl ?_
      refine Rq ?_
      have tr : ∀ y0 y1 y2 y4 y5 y14 y44 y50 y51 y52 y53 y84 y92 z0 : AV, trim [(2, z0), (0, y0), (1, y1), (2, y2), (4, y4), (5, y5), (14, y14), (44, y44), (50, y50), (51, y51), (52, y52), (53, y53), (84, y84), (92, y92)] [(0, y0), (1, y1), (2, y2), (4, y4), (5, y5), (14, y14), (44, y44), (50, y50), (51, y51), (52, y52), (53, y53), (84, y84), (92, y92)] = [(0, y0), (1, y1), (2, z0), (4, y4), (5, y5), (14, y14), (44, y44), (50, y50), (51, y51), (52, y52), (53, y53), (84, y84), (92, y92)] := fun y0 y1 y2 y4 y5 y14 y44 y50 y51 y52 y53 y84 y92 z0 => rfl
      refine R_nil (tr _ _ _ _ _ _ _ _ _ _ _ _ _ _) ?_; clear tr
      refine then_n ?_
      refine at_ret rfl ?_
      refine blk_r ?_
      refine then_r ?_
      refine fpure ?_
      refine ⟨?_, rfl⟩
      rw [gchkS, if_pos (by omega)]
    · try simp only [decide_eq_true_eq, decide_eq_false_iff_not, Bool.not_eq_true', Bool.not_eq_false', beq_iff_eq, beq_eq_false_iff_ne, ne_eq] at h2
      refine at_seq rfl ?_
      refine rg rfl ?_
      refine Rq ?_
      refine Rq ?_
      refine Rq ?_
      refine Rq ?_
      refine Rp_split (fun h3 => ?_) (fun h3 => ?_)
      · try simp only [decide_eq_true_eq, decide_eq_false_iff_not, Bool.not_eq_true', Bool.not_eq_false', beq_iff_eq, beq_eq_false_iff_ne, ne_eq] at h3
        refine Rn ?_
        refine Rn ?_
        refine Rn ?_
        refine Rn ?_
        refine Rn ?_
        refine Rq ?_
        refine Rq ?_
        refine Rn ?_
        refine Rn ?_
        refine Rn ?_
        refine Rq ?_
        refine Rq ?_
        refine Rn ?_
        refine Rn ?_
        refine Rn ?_
        refine Rn ?_
        refine Rn ?_
        refine Rq ?_
        refine Rq ?_
        refine Rn ?_
        refine Rn ?_
        refine Rn ?_
        refine Rn ?_
        refine Rn ?_
        refine Rq ?_
        refine Rq ?_
        have tr : ∀ y0 y1 y2 y4 y5 y14 y44 y50 y51 y52 y53 y84 y92 z0 z1 z2 z3 z4 z5 z6 z7 z8 z9 z10 z11 z12 z13 z14 z15 z16 z17 z18 z19 z20 z21 z22 z23 z24 z25 z26 z27 z28 z29 : AV, trim [(14, z29), (43, z28), (42, z27), (41, z26), (40, z25), (39, z24), (38, z23), (37, z22), (36, z21), (35, z20), (34, z19), (33, z18), (32, z17), (31, z16), (30, z15), (29, z14), (28, z13), (27, z12), (26, z11), (25, z10), (24, z9), (23, z8), (22, z7), (21, z6), (20, z5), (19, z4), (18, z3), (17, z2), (16, z1), (15, z0), (0, y0), (1, y1), (2, y2), (4, y4), (5, y5), (14, y14), (44, y44), (50, y50), (51, y51), (52, y52), (53, y53), (84, y84), (92, y92)] [(0, y0), (1, y1), (2, y2), (4, y4), (5, y5), (14, y14), (44, y44), (50, y50), (51, y51), (52, y52), (53, y53), (84, y84), (92, y92)] = [(0, y0), (1, y1), (2, y2), (4, y4), (5, y5), (14, z29), (44, y44), (50, y50), (51, y51), (52, y52), (53, y53), (84, y84), (92, y92)] := fun y0 y1 y2 y4 y5 y14 y44 y50 y51 y52 y53 y84 y92 z0 z1 z2 z3 z4 z5 z6 z7 z8 z9 z10 z11 z12 z13 z14 z15 z16 z17 z18 z19 z20 z21 z22 z23 z24 z25 z26 z27 z28 z29 => rfl
        refine R_nil (tr _ _ _ _ _ _ _ _ _ _ _ _ _ _ _ _ _ _ _ _ _ _ _ _ _ _ _ _ _ _ _ _ _ _ _ _ _ _ _ _ _ _ _) ?_; clear tr
        refine then_n ?_
        refine cdt ?_
        refine at_seq rfl ?_
        refine rg rfl ?_
        refine Rq ?_
        have tr : ∀ y0 y1 y2 y4 y5 y14 y44 y50 y51 y52 y53 y84 y92 z0 : AV, trim [(2, z0), (0, y0), (1, y1), (2, y2), (4, y4), (5, y5), (14, y14), (44, y44), (50, y50), (51, y51), (52, y52), (53, y53), (84, y84), (92, y92)] [(0, y0), (1, y1), (2, y2), (4, y4), (5, y5), (14, y14), (44, y44), (50, y50), (51, y51), (52, y52), (53, y53), (84, y84), (92, y92)] = [(0, y0), (1, y1), (2, z0), (4, y4), (5, y5), (14, y14), (44, y44), (50, y50), (51, y51), (52, y52), (53, y53), (84, y84), (92, y92)] := fun y0 y1 y2 y4 y5 y14 y44 y50 y51 y52 y53 y84 y92 z0 => rfl
        refine R_nil (tr _ _ _ _ _ _ _ _ _ _ _ _ _ _) ?_; clear tr
        refine then_n ?_
        refine at_ret rfl ?_
        refine blk_r ?_
        refine then_r ?_
        refine fpure ?_
        refine ⟨?_, rfl⟩
        rw [gchkS, if_neg (by omega), if_pos (by omega)]
      · try simp only [decide_eq_true_eq, decide_eq_false_iff_not, Bool.not_eq_true', Bool.not_eq_false', beq_iff_eq, beq_eq_false_iff_ne, ne_eq] at h3
        refine Ry ?_
        refine Rq ?_
        refine Ry ?_
        refine Rq ?_
        refine Ry ?_
        refine Rq ?_
        refine Ry ?_
        refine Rq ?_
        refine Ry ?_
        refine Rq ?_
        refine Rq ?_
        refine Rq ?_
        refine Rp_split (fun h4 => ?_) (fun h4 => ?_)
        · try simp only [decide_eq_true_eq, decide_eq_false_iff_not, Bool.not_eq_true', Bool.not_eq_false', beq_iff_eq, beq_eq_false_iff_ne, ne_eq] at h4
          refine Rn ?_
          refine Rn ?_
          refine Rn ?_
          refine Rq ?_
          refine Rq ?_
          refine Rn ?_
          refine Rn ?_
          refine Rn ?_
          refine Rn ?_
          refine Rn ?_
          refine Rq ?_
          refine Rq ?_
          refine Rn ?_
          refine Rn ?_
          refine Rn ?_
          refine Rn ?_
          refine Rn ?_
          refine Rq ?_
          refine Rq ?_
          have tr : ∀ y0 y1 y2 y4 y5 y14 y44 y50 y51 y52 y53 y84 y92 z0 z1 z2 z3 z4 z5 z6 z7 z8 z9 z10 z11 z12 z13 z14 z15 z16 z17 z18 z19 z20 z21 z22 z23 z24 z25 z26 z27 z28 z29 : AV, trim [(14, z29), (43, z28), (42, z27), (41, z26), (40, z25), (39, z24), (38, z23), (37, z22), (36, z21), (35, z20), (34, z19), (33, z18), (32, z17), (31, z16), (30, z15), (29, z14), (28, z13), (27, z12), (26, z11), (25, z10), (24, z9), (23, z8), (22, z7), (21, z6), (20, z5), (19, z4), (18, z3), (17, z2), (16, z1), (15, z0), (0, y0), (1, y1), (2, y2), (4, y4), (5, y5), (14, y14), (44, y44), (50, y50), (51, y51), (52, y52), (53, y53), (84, y84), (92, y92)] [(0, y0), (1, y1), (2, y2), (4, y4), (5, y5), (14, y14), (44, y44), (50, y50), (51, y51), (52, y52), (53, y53), (84, y84), (92, y92)] = [(0, y0), (1, y1), (2, y2), (4, y4), (5, y5), (14, z29), (44, y44), (50, y50), (51, y51), (52, y52), (53, y53), (84, y84), (92, y92)] := fun y0 y1 y2 y4 y5 y14 y44 y50 y51 y52 y53 y84 y92 z0 z1 z2 z3 z4 z5 z6 z7 z8 z9 z10 z11 z12 z13 z14 z15 z16 z17 z18 z19 z20 z21 z22 z23 z24 z25 z26 z27 z28 z29 => rfl
          refine R_nil (tr _ _ _ _ _ _ _ _ _ _ _ _ _ _ _ _ _ _ _ _ _ _ _ _ _ _ _ _ _ _ _ _ _ _ _ _ _ _ _ _ _ _ _) ?_; clear tr
          refine then_n ?_
          refine cdt ?_
          refine at_seq rfl ?_
          refine rg rfl ?_
          refine Rq ?_
          have tr : ∀ y0 y1 y2 y4 y5 y14 y44 y50 y51 y52 y53 y84 y92 z0 : AV, trim [(2, z0), (0, y0), (1, y1), (2, y2), (4, y4), (5, y5), (14, y14), (44, y44), (50, y50), (51, y51), (52, y52), (53, y53), (84, y84), (92, y92)] [(0, y0), (1, y1), (2, y2), (4, y4), (5, y5), (14, y14), (44, y44), (50, y50), (51, y51), (52, y52), (53, y53), (84, y84), (92, y92)] = [(0, y0), (1, y1), (2, z0), (4, y4), (5, y5), (14, y14), (44, y44), (50, y50), (51, y51), (52, y52), (53, y53), (84, y84), (92, y92)] := fun y0 y1 y2 y4 y5 y14 y44 y50 y51 y52 y53 y84 y92 z0 => rfl
          refine R_nil (tr _ _ _ _ _ _ _ _ _ _ _ _ _ _) ?_; clear tr
          refine then_n ?_
          refine at_ret rfl ?_
          refine blk_r ?_
          refine then_r ?_
          refine fpure ?_
          refine ⟨?_, rfl⟩
          rw [gchkS, if_neg (by omega), if_pos (by omega)]
        · try simp only [decide_eq_true_eq, decide_eq_false_iff_not, Bool.not_eq_true', Bool.not_eq_false', beq_iff_eq, beq_eq_false_iff_ne, ne_eq] at h4
          refine Ry ?_
          refine Rq ?_
          refine Ry ?_
          refine Rq ?_
          refine Ry ?_
          refine Rq ?_
          refine Rq ?_
          refine Rq ?_
          refine Rp_split (fun h5 => ?_) (fun h5 => ?_)
          · try simp only [decide_eq_true_eq, decide_eq_false_iff_not, Bool.not_eq_true', Bool.not_eq_false', beq_iff_eq, beq_eq_false_iff_ne, ne_eq] at h5
            refine Rn ?_
            refine Rn ?_
            refine Rn ?_
            refine Rn ?_
            refine Rn ?_
            refine Rq ?_
            refine Rq ?_
            refine Rn ?_
            refine Rn ?_
            refine Rn ?_
            refine Rn ?_
            refine Rn ?_
            refine Rq ?_
            refine Rq ?_
            have tr : ∀ y0 y1 y2 y4 y5 y14 y44 y50 y51 y52 y53 y84 y92 z0 z1 z2 z3 z4 z5 z6 z7 z8 z9 z10 z11 z12 z13 z14 z15 z16 z17 z18 z19 z20 z21 z22 z23 z24 z25 z26 z27 z28 z29 : AV, trim [(14, z29), (43, z28), (42, z27), (41, z26), (40, z25), (39, z24), (38, z23), (37, z22), (36, z21), (35, z20), (34, z19), (33, z18), (32, z17), (31, z16), (30, z15), (29, z14), (28, z13), (27, z12), (26, z11), (25, z10), (24, z9), (23, z8), (22, z7), (21, z6), (20, z5), (19, z4), (18, z3), (17, z2), (16, z1), (15, z0), (0, y0), (1, y1), (2, y2), (4, y4), (5, y5), (14, y14), (44, y44), (50, y50), (51, y51), (52, y52), (53, y53), (84, y84), (92, y92)] [(0, y0), (1, y1), (2, y2), (4, y4), (5, y5), (14, y14), (44, y44), (50, y50), (51, y51), (52, y52), (53, y53), (84, y84), (92, y92)] = [(0, y0), (1, y1), (2, y2), (4, y4), (5, y5), (14, z29), (44, y44), (50, y50), (51, y51), (52, y52), (53, y53), (84, y84), (92, y92)] := fun y0 y1 y2 y4 y5 y14 y44 y50 y51 y52 y53 y84 y92 z0 z1 z2 z3 z4 z5 z6 z7 z8 z9 z10 z11 z12 z13 z14 z15 z16 z17 z18 z19 z20 z21 z22 z23 z24 z25 z26 z27 z28 z29 => rfl
            refine R_nil (tr _ _ _ _ _ _ _ _ _ _ _ _ _ _ _ _ _ _ _ _ _ _ _ _ _ _ _ _ _ _ _ _ _ _ _ _ _ _ _ _ _ _ _) ?_; clear tr
            refine then_n ?_
            refine cdt ?_
            refine at_seq rfl ?_
            refine rg rfl ?_
            refine Rq ?_
            have tr : ∀ y0 y1 y2 y4 y5 y14 y44 y50 y51 y52 y53 y84 y92 z0 : AV, trim [(2, z0), (0, y0), (1, y1), (2, y2), (4, y4), (5, y5), (14, y14), (44, y44), (50, y50), (51, y51), (52, y52), (53, y53), (84, y84), (92, y92)] [(0, y0), (1, y1), (2, y2), (4, y4), (5, y5), (14, y14), (44, y44), (50, y50), (51, y51), (52, y52), (53, y53), (84, y84), (92, y92)] = [(0, y0), (1, y1), (2, z0), (4, y4), (5, y5), (14, y14), (44, y44), (50, y50), (51, y51), (52, y52), (53, y53), (84, y84), (92, y92)] := fun y0 y1 y2 y4 y5 y14 y44 y50 y51 y52 y53 y84 y92 z0 => rfl
            refine R_nil (tr _ _ _ _ _ _ _ _ _ _ _ _ _ _) ?_; clear tr
            refine then_n ?_
            refine at_ret rfl ?_
            refine blk_r ?_
            refine then_r ?_
            refine fpure ?_
            refine ⟨?_, rfl⟩
            rw [gchkS, if_neg (by omega), if_pos (by omega)]
          · try simp only [decide_eq_true_eq, decide_eq_false_iff_not, Bool.not_eq_true', Bool.not_eq_false', beq_iff_eq, beq_eq_false_iff_ne, ne_eq] at h5
            refine Ry ?_
            refine Rq ?_
            refine Ry ?_
            refine Rq ?_
            refine Ry ?_
            refine Rq ?_
            refine Ry ?_
            refine Rq ?_
            refine Ry ?_
            refine Rq ?_
            refine Rq ?_
            refine Rq ?_
            refine Rp_split (fun h6 => ?_) (fun h6 => ?_)
            · try simp only [decide_eq_true_eq, decide_eq_false_iff_not, Bool.not_eq_true', Bool.not_eq_false', beq_iff_eq, beq_eq_false_iff_ne, ne_eq] at h6
              refine Rn ?_
              refine Rn ?_
              refine Rn ?_
              refine Rn ?_
              refine Rn ?_
              refine Rq ?_
              refine Rq ?_
              have tr : ∀ y0 y1 y2 y4 y5 y14 y44 y50 y51 y52 y53 y84 y92 z0 z1 z2 z3 z4 z5 z6 z7 z8 z9 z10 z11 z12 z13 z14 z15 z16 z17 z18 z19 z20 z21 z22 z23 z24 z25 z26 z27 z28 z29 : AV, trim [(14, z29), (43, z28), (42, z27), (41, z26), (40, z25), (39, z24), (38, z23), (37, z22), (36, z21), (35, z20), (34, z19), (33, z18), (32, z17), (31, z16), (30, z15), (29, z14), (28, z13), (27, z12), (26, z11), (25, z10), (24, z9), (23, z8), (22, z7), (21, z6), (20, z5), (19, z4), (18, z3), (17, z2), (16, z1), (15, z0), (0, y0), (1, y1), (2, y2), (4, y4), (5, y5), (14, y14), (44, y44), (50, y50), (51, y51), (52, y52), (53, y53), (84, y84), (92, y92)] [(0, y0), (1, y1), (2, y2), (4, y4), (5, y5), (14, y14), (44, y44), (50, y50), (51, y51), (52, y52), (53, y53), (84, y84), (92, y92)] = [(0, y0), (1, y1), (2, y2), (4, y4), (5, y5), (14, z29), (44, y44), (50, y50), (51, y51), (52, y52), (53, y53), (84, y84), (92, y92)] := fun y0 y1 y2 y4 y5 y14 y44 y50 y51 y52 y53 y84 y92 z0 z1 z2 z3 z4 z5 z6 z7 z8 z9 z10 z11 z12 z13 z14 z15 z16 z17 z18 z19 z20 z21 z22 z23 z24 z25 z26 z27 z28 z29 => rfl
              refine R_nil (tr _ _ _ _ _ _ _ _ _ _ _ _ _ _ _ _ _ _ _ _ _ _ _ _ _ _ _ _ _ _ _ _ _ _ _ _ _ _ _ _ _ _ _) ?_; clear tr
              refine then_n ?_
              refine cdt ?_
              refine at_seq rfl ?_
              refine rg rfl ?_
              refine Rq ?_
              have tr : ∀ y0 y1 y2 y4 y5 y14 y44 y50 y51 y52 y53 y84 y92 z0 : AV, trim [(2, z0), (0, y0), (1, y1), (2, y2), (4, y4), (5, y5), (14, y14), (44, y44), (50, y50), (51, y51), (52, y52), (53, y53), (84, y84), (92, y92)] [(0, y0), (1, y1), (2, y2), (4, y4), (5, y5), (14, y14), (44, y44), (50, y50), (51, y51), (52, y52), (53, y53), (84, y84), (92, y92)] = [(0, y0), (1, y1), (2, z0), (4, y4), (5, y5), (14, y14), (44, y44), (50, y50), (51, y51), (52, y52), (53, y53), (84, y84), (92, y92)] := fun y0 y1 y2 y4 y5 y14 y44 y50 y51 y52 y53 y84 y92 z0 => rfl
              refine R_nil (tr _ _ _ _ _ _ _ _ _ _ _ _ _ _) ?_; clear tr
              refine then_n ?_
              refine at_ret rfl ?_
              refine blk_r ?_
              refine then_r ?_
              refine fpure ?_
              refine ⟨?_, rfl⟩
              rw [gchkS, if_neg (by omega), if_pos (by omega)]
            · try simp only [decide_eq_true_eq, decide_eq_false_iff_not, Bool.not_eq_true', Bool.not_eq_false', beq_iff_eq, beq_eq_false_iff_ne, ne_eq] at h6
              refine Ry ?_
              refine Rq ?_
              refine Ry ?_
              refine Rq ?_
              refine Ry ?_
              refine Rq ?_
              refine Ry ?_
              refine Rq ?_
              refine Ry ?_
              refine Rq ?_
              refine Rq ?_
              refine Rq ?_
              have tr : ∀ y0 y1 y2 y4 y5 y14 y44 y50 y51 y52 y53 y84 y92 z0 z1 z2 z3 z4 z5 z6 z7 z8 z9 z10 z11 z12 z13 z14 z15 z16 z17 z18 z19 z20 z21 z22 z23 z24 z25 z26 z27 z28 z29 : AV, trim [(14, z29), (43, z28), (42, z27), (41, z26), (40, z25), (39, z24), (38, z23), (37, z22), (36, z21), (35, z20), (34, z19), (33, z18), (32, z17), (31, z16), (30, z15), (29, z14), (28, z13), (27, z12), (26, z11), (25, z10), (24, z9), (23, z8), (22, z7), (21, z6), (20, z5), (19, z4), (18, z3), (17, z2), (16, z1), (15, z0), (0, y0), (1, y1), (2, y2), (4, y4), (5, y5), (14, y14), (44, y44), (50, y50), (51, y51), (52, y52), (53, y53), (84, y84), (92, y92)] [(0, y0), (1, y1), (2, y2), (4, y4), (5, y5), (14, y14), (44, y44), (50, y50), (51, y51), (52, y52), (53, y53), (84, y84), (92, y92)] = [(0, y0), (1, y1), (2, y2), (4, y4), (5, y5), (14, z29), (44, y44), (50, y50), (51, y51), (52, y52), (53, y53), (84, y84), (92, y92)] := fun y0 y1 y2 y4 y5 y14 y44 y50 y51 y52 y53 y84 y92 z0 z1 z2 z3 z4 z5 z6 z7 z8 z9 z10 z11 z12 z13 z14 z15 z16 z17 z18 z19 z20 z21 z22 z23 z24 z25 z26 z27 z28 z29 => rfl
              refine R_nil (tr _ _ _ _ _ _ _ _ _ _ _ _ _ _ _ _ _ _ _ _ _ _ _ _ _ _ _ _ _ _ _ _ _ _ _ _ _ _ _ _ _ _ _) ?_; clear tr
              refine then_n ?_
              refine cdd (fun h7 => ?_) (fun h7 => ?_)
              · try simp only [decide_eq_true_eq, decide_eq_false_iff_not, Bool.not_eq_true', Bool.not_eq_false', beq_iff_eq, beq_eq_false_iff_ne, ne_eq] at h7
                refine at_seq rfl ?_
                refine rg rfl ?_
                refine Rq ?_
                have tr : ∀ y0 y1 y2 y4 y5 y14 y44 y50 y51 y52 y53 y84 y92 z0 : AV, trim [(2, z0), (0, y0), (1, y1), (2, y2), (4, y4), (5, y5), (14, y14), (44, y44), (50, y50), (51, y51), (52, y52), (53, y53), (84, y84), (92, y92)] [(0, y0), (1, y1), (2, y2), (4, y4), (5, y5), (14, y14), (44, y44), (50, y50), (51, y51), (52, y52), (53, y53), (84, y84), (92, y92)] = [(0, y0), (1, y1), (2, z0), (4, y4), (5, y5), (14, y14), (44, y44), (50, y50), (51, y51), (52, y52), (53, y53), (84, y84), (92, y92)] := fun y0 y1 y2 y4 y5 y14 y44 y50 y51 y52 y53 y84 y92 z0 => rfl
                refine R_nil (tr _ _ _ _ _ _ _ _ _ _ _ _ _ _) ?_; clear tr
                refine then_n ?_
                refine at_ret rfl ?_
                refine blk_r ?_
                refine then_r ?_
                refine fpure ?_
                refine ⟨?_, rfl⟩
                rw [gchkS, if_neg (by omega), if_pos (by omega)]
              · try simp only [decide_eq_true_eq, decide_eq_false_iff_not, Bool.not_eq_true', Bool.not_eq_false', beq_iff_eq, beq_eq_false_iff_ne, ne_eq] at h7
                refine at_seq rfl ?_
                refine rg rfl ?_
                refine Rq ?_
                refine Rq ?_
                refine Rq ?_
                refine Rq ?_
                refine Rq ?_
                have tr : ∀ y0 y1 y2 y4 y5 y14 y44 y50 y51 y52 y53 y84 y92 z0 z1 z2 z3 z4 : AV, trim [(44, z4), (48, z3), (47, z2), (46, z1), (45, z0), (0, y0), (1, y1), (2, y2), (4, y4), (5, y5), (14, y14), (44, y44), (50, y50), (51, y51), (52, y52), (53, y53), (84, y84), (92, y92)] [(0, y0), (1, y1), (2, y2), (4, y4), (5, y5), (14, y14), (44, y44), (50, y50), (51, y51), (52, y52), (53, y53), (84, y84), (92, y92)] = [(0, y0), (1, y1), (2, y2), (4, y4), (5, y5), (14, y14), (44, z4), (50, y50), (51, y51), (52, y52), (53, y53), (84, y84), (92, y92)] := fun y0 y1 y2 y4 y5 y14 y44 y50 y51 y52 y53 y84 y92 z0 z1 z2 z3 z4 => rfl
                refine R_nil (tr _ _ _ _ _ _ _ _ _ _ _ _ _ _ _ _ _ _) ?_; clear tr
                refine then_n ?_
                refine cdd (fun h8 => ?_) (fun h8 => ?_)
                · try simp only [decide_eq_true_eq, decide_eq_false_iff_not, Bool.not_eq_true', Bool.not_eq_false', beq_iff_eq, beq_eq_false_iff_ne, ne_eq] at h8
                  refine at_seq rfl ?_
                  refine rg rfl ?_
                  refine Rq ?_
                  have tr : ∀ y0 y1 y2 y4 y5 y14 y44 y50 y51 y52 y53 y84 y92 z0 : AV, trim [(2, z0), (0, y0), (1, y1), (2, y2), (4, y4), (5, y5), (14, y14), (44, y44), (50, y50), (51, y51), (52, y52), (53, y53), (84, y84), (92, y92)] [(0, y0), (1, y1), (2, y2), (4, y4), (5, y5), (14, y14), (44, y44), (50, y50), (51, y51), (52, y52), (53, y53), (84, y84), (92, y92)] = [(0, y0), (1, y1), (2, z0), (4, y4), (5, y5), (14, y14), (44, y44), (50, y50), (51, y51), (52, y52), (53, y53), (84, y84), (92, y92)] := fun y0 y1 y2 y4 y5 y14 y44 y50 y51 y52 y53 y84 y92 z0 => rfl
                  refine R_nil (tr _ _ _ _ _ _ _ _ _ _ _ _ _ _) ?_; clear tr
                  refine then_n ?_
                  refine at_ret rfl ?_
                  refine blk_r ?_
                  refine then_r ?_
                  refine fpure ?_
                  refine ⟨?_, rfl⟩
                  rw [gchkS, if_neg (by omega), if_neg (by omega), if_pos (by omega)]
                · try simp only [decide_eq_true_eq, decide_eq_false_iff_not, Bool.not_eq_true', Bool.not_eq_false', beq_iff_eq, beq_eq_false_iff_ne, ne_eq] at h8
                  refine at_skip rfl ?_
                  refine blk_n ?_
                  refine then_n ?_
                  refine at_seq rfl ?_
                  refine at_seq rfl ?_
                  refine rg rfl ?_
                  refine Rq ?_
                  refine Rq ?_
                  refine Rq ?_
                  refine Rq ?_
                  have tr : ∀ y0 y1 y2 y4 y5 y14 y44 y50 y51 y52 y53 y84 y92 z0 z1 z2 z3 : AV, trim [(52, z3), (51, z2), (50, z1), (49, z0), (0, y0), (1, y1), (2, y2), (4, y4), (5, y5), (14, y14), (44, y44), (50, y50), (51, y51), (52, y52), (53, y53), (84, y84), (92, y92)] [(0, y0), (1, y1), (2, y2), (4, y4), (5, y5), (14, y14), (44, y44), (50, y50), (51, y51), (52, y52), (53, y53), (84, y84), (92, y92)] = [(0, y0), (1, y1), (2, y2), (4, y4), (5, y5), (14, y14), (44, y44), (50, z1), (51, z2), (52, z3), (53, y53), (84, y84), (92, y92)] := fun y0 y1 y2 y4 y5 y14 y44 y50 y51 y52 y53 y84 y92 z0 z1 z2 z3 => rfl
                  refine R_nil (tr _ _ _ _ _ _ _ _ _ _ _ _ _ _ _ _ _) ?_; clear tr
                  refine then_n ?_
                  refine at_block rfl ?_
                  refine loop_n rfl (fun mm kv H' => ∃ u : Nat, ∃ X : Heap, ∃ x2 x4 x53 x84 x92 : AV, (kv = [(2, x2), (4, x4), (52, AV.i u), (53, x53), (84, x84), (92, x92)]) ∧ (mm = E.length - u) ∧ (H' = H ++ [some (graphC n s t E)] ++ X) ∧ (u ≤ E.length) ∧ (ferr (fun i => edErr n (gt E i)) u = 0)) ⟨0, [], _, _, _, _, _, rfl, rfl, by simp, by omega, by rfl⟩ (by rfl) ?_
                  rintro mm kv H1 ⟨u, X, x2, x4, x53, x84, x92, rfl, rfl, hX, hu, hz⟩
                  have tr : ∀ y0 y1 y2 y4 y5 y14 y44 y50 y51 y52 y53 y84 y92 z2 z4 z52 z53 z84 z92 : AV, upd [(0, y0), (1, y1), (2, y2), (4, y4), (5, y5), (14, y14), (44, y44), (50, y50), (51, y51), (52, y52), (53, y53), (84, y84), (92, y92)] [(2, z2), (4, z4), (52, z52), (53, z53), (84, z84), (92, z92)] = [(0, y0), (1, y1), (2, z2), (4, z4), (5, y5), (14, y14), (44, y44), (50, y50), (51, y51), (52, z52), (53, z53), (84, z84), (92, z92)] := fun y0 y1 y2 y4 y5 y14 y44 y50 y51 y52 y53 y84 y92 z2 z4 z52 z53 z84 z92 => rfl
                  refine W_to (tr _ _ _ _ _ _ _ _ _ _ _ _ _ _ _ _ _ _ _) ?_; clear tr
                  subst hX
                  refine at_seq rfl ?_
                  refine rg rfl ?_
                  refine Rq ?_
                  have tr : ∀ y0 y1 y2 y4 y5 y14 y44 y50 y51 y52 y53 y84 y92 z0 : AV, trim [(53, z0), (0, y0), (1, y1), (2, y2), (4, y4), (5, y5), (14, y14), (44, y44), (50, y50), (51, y51), (52, y52), (53, y53), (84, y84), (92, y92)] [(0, y0), (1, y1), (2, y2), (4, y4), (5, y5), (14, y14), (44, y44), (50, y50), (51, y51), (52, y52), (53, y53), (84, y84), (92, y92)] = [(0, y0), (1, y1), (2, y2), (4, y4), (5, y5), (14, y14), (44, y44), (50, y50), (51, y51), (52, y52), (53, z0), (84, y84), (92, y92)] := fun y0 y1 y2 y4 y5 y14 y44 y50 y51 y52 y53 y84 y92 z0 => rfl
                  refine R_nil (tr _ _ _ _ _ _ _ _ _ _ _ _ _ _) ?_; clear tr
                  refine then_n ?_
                  refine at_seq rfl ?_
                  refine cdd (fun h9 => ?_) (fun h9 => ?_)
                  · try simp only [decide_eq_true_eq, decide_eq_false_iff_not, Bool.not_eq_true', Bool.not_eq_false', beq_iff_eq, beq_eq_false_iff_ne, ne_eq] at h9
                    refine at_skip rfl ?_
                    refine then_n ?_
                    refine at_seq rfl ?_
                    refine at_block rfl ?_
                    refine at_seq rfl ?_
                    refine rg rfl ?_
                    refine Rq ?_
                    refine Rq ?_
                    refine R_alloc (by simp (disch := first | omega | (simp only [List.length_map, List.length_append, List.length_set, List.length_cons, List.length_nil, List.length_take, List.length_drop]; omega)) only [go_sem, ↓reduceIte, Nat.reduceEqDiff, reduceCtorEq]; rfl) rfl (by simp only [List.map_cons, List.map_nil]; rfl) ?_
                    refine R_store ty66 (by simp (disch := first | omega | (simp only [List.length_map, List.length_append, List.length_set, List.length_cons, List.length_nil, List.length_take, List.length_drop]; omega)) only [go_sem, ↓reduceIte, Nat.reduceEqDiff, reduceCtorEq]; rfl) (by simp (disch := first | omega | (simp only [List.length_map, List.length_append, List.length_set, List.length_cons, List.length_nil, List.length_take, List.length_drop]; omega)) only [go_sem, ↓reduceIte, Nat.reduceEqDiff, reduceCtorEq]; rfl) (by simp (disch := first | omega | (simp only [List.length_map, List.length_append, List.length_set, List.length_cons, List.length_nil, List.length_take, List.length_drop]; omega)) only [go_sem, ↓reduceIte, Nat.reduceEqDiff, reduceCtorEq]; rfl) (by simp) (by rfl) (by simp (disch := first | omega | (simp only [List.length_map, List.length_append, List.length_set, List.length_cons, List.length_nil, List.length_take, List.length_drop]; omega)) only [go_sem, ↓reduceIte, Nat.reduceEqDiff, reduceCtorEq]; rfl) ?_
                    have tr : ∀ y0 y1 y2 y4 y5 y14 y44 y50 y51 y52 y53 y84 y92 z0 z1 z2 : AV, trim [(4, z2), (55, z1), (54, z0), (0, y0), (1, y1), (2, y2), (4, y4), (5, y5), (14, y14), (44, y44), (50, y50), (51, y51), (52, y52), (53, y53), (84, y84), (92, y92)] [(0, y0), (1, y1), (2, y2), (4, y4), (5, y5), (14, y14), (44, y44), (50, y50), (51, y51), (52, y52), (53, y53), (84, y84), (92, y92)] = [(0, y0), (1, y1), (2, y2), (4, z2), (5, y5), (14, y14), (44, y44), (50, y50), (51, y51), (52, y52), (53, y53), (84, y84), (92, y92)] := fun y0 y1 y2 y4 y5 y14 y44 y50 y51 y52 y53 y84 y92 z0 z1 z2 => rfl
                    refine R_nil (tr _ _ _ _ _ _ _ _ _ _ _ _ _ _ _ _) ?_; clear tr
                    refine then_n ?_
                    refine at_seq rfl ?_
                    refine at_seq rfl ?_
                    refine rg rfl ?_
                    refine Rq ?_
                    refine Rq ?_
                    refine Rq ?_
                    refine Rq ?_
                    refine Rp_split (fun h10 => ?_) (fun h10 => ?_)
                    · try simp only [decide_eq_true_eq, decide_eq_false_iff_not, Bool.not_eq_true', Bool.not_eq_false', beq_iff_eq, beq_eq_false_iff_ne, ne_eq] at h10
                      refine Rn ?_
                      refine Rn ?_
                      refine Rn ?_
                      refine Rn ?_
                      refine Rn ?_
                      refine Rq ?_
                      refine Rq ?_
                      refine Rn ?_
                      refine Rn ?_
                      refine Rn ?_
                      refine Rq ?_
                      refine Rq ?_
                      refine Rn ?_
                      refine Rn ?_
                      refine Rn ?_
                      refine Rn ?_
                      refine Rn ?_
                      refine Rq ?_
                      refine Rq ?_
                      refine Rn ?_
                      refine Rn ?_
                      refine Rn ?_
                      refine Rn ?_
                      refine Rn ?_
                      refine Rq ?_
                      have tr : ∀ y0 y1 y2 y4 y5 y14 y44 y50 y51 y52 y53 y84 y92 z0 z1 z2 z3 z4 z5 z6 z7 z8 z9 z10 z11 z12 z13 z14 z15 z16 z17 z18 z19 z20 z21 z22 z23 z24 z25 z26 z27 z28 : AV, trim [(84, z28), (83, z27), (82, z26), (81, z25), (80, z24), (79, z23), (78, z22), (77, z21), (76, z20), (75, z19), (74, z18), (73, z17), (72, z16), (71, z15), (70, z14), (69, z13), (68, z12), (67, z11), (66, z10), (65, z9), (64, z8), (63, z7), (62, z6), (61, z5), (60, z4), (59, z3), (58, z2), (57, z1), (56, z0), (0, y0), (1, y1), (2, y2), (4, y4), (5, y5), (14, y14), (44, y44), (50, y50), (51, y51), (52, y52), (53, y53), (84, y84), (92, y92)] [(0, y0), (1, y1), (2, y2), (4, y4), (5, y5), (14, y14), (44, y44), (50, y50), (51, y51), (52, y52), (53, y53), (84, y84), (92, y92)] = [(0, y0), (1, y1), (2, y2), (4, y4), (5, y5), (14, y14), (44, y44), (50, y50), (51, y51), (52, y52), (53, y53), (84, z28), (92, y92)] := fun y0 y1 y2 y4 y5 y14 y44 y50 y51 y52 y53 y84 y92 z0 z1 z2 z3 z4 z5 z6 z7 z8 z9 z10 z11 z12 z13 z14 z15 z16 z17 z18 z19 z20 z21 z22 z23 z24 z25 z26 z27 z28 => rfl
                      refine R_nil (tr _ _ _ _ _ _ _ _ _ _ _ _ _ _ _ _ _ _ _ _ _ _ _ _ _ _ _ _ _ _ _ _ _ _ _ _ _ _ _ _ _ _) ?_; clear tr
                      refine then_n ?_
                      refine cdt ?_
                      refine at_seq rfl ?_
                      refine rg rfl ?_
                      refine Rq ?_
                      have tr : ∀ y0 y1 y2 y4 y5 y14 y44 y50 y51 y52 y53 y84 y92 z0 : AV, trim [(2, z0), (0, y0), (1, y1), (2, y2), (4, y4), (5, y5), (14, y14), (44, y44), (50, y50), (51, y51), (52, y52), (53, y53), (84, y84), (92, y92)] [(0, y0), (1, y1), (2, y2), (4, y4), (5, y5), (14, y14), (44, y44), (50, y50), (51, y51), (52, y52), (53, y53), (84, y84), (92, y92)] = [(0, y0), (1, y1), (2, z0), (4, y4), (5, y5), (14, y14), (44, y44), (50, y50), (51, y51), (52, y52), (53, y53), (84, y84), (92, y92)] := fun y0 y1 y2 y4 y5 y14 y44 y50 y51 y52 y53 y84 y92 z0 => rfl
                      refine R_nil (tr _ _ _ _ _ _ _ _ _ _ _ _ _ _) ?_; clear tr
                      refine then_n ?_
                      refine at_ret rfl ?_
                      refine then_r ?_
                      refine blk_r ?_
                      refine then_r ?_
                      refine then_r ?_
                      refine blk_r ?_
                      refine then_r ?_
                      refine fpure ?_
                      refine ⟨?_, rfl⟩
                      have hse : edErr n (gt E u) = 1 := by unfold edErr; rw [if_pos (by omega)]
                      rw [gchkS, if_neg (by omega), if_neg (by omega), if_neg (by omega), ferr_at hz (by omega) _ (by omega), hse]
                    · try simp only [decide_eq_true_eq, decide_eq_false_iff_not, Bool.not_eq_true', Bool.not_eq_false', beq_iff_eq, beq_eq_false_iff_ne, ne_eq] at h10
                      refine Ry ?_
                      refine Rq ?_
                      refine Ry ?_
                      refine Rq ?_
                      refine Ry ?_
                      refine Rq ?_
                      refine Ry ?_
                      refine Rq ?_
                      refine Ry ?_
                      refine Rq ?_
                      refine Rq ?_
                      refine Rq ?_
                      refine Rp_split (fun h11 => ?_) (fun h11 => ?_)
                      · try simp only [decide_eq_true_eq, decide_eq_false_iff_not, Bool.not_eq_true', Bool.not_eq_false', beq_iff_eq, beq_eq_false_iff_ne, ne_eq] at h11
                        refine Rn ?_
                        refine Rn ?_
                        refine Rn ?_
                        refine Rq ?_
                        refine Rq ?_
                        refine Rn ?_
                        refine Rn ?_
                        refine Rn ?_
                        refine Rn ?_
                        refine Rn ?_
                        refine Rq ?_
                        refine Rq ?_
                        refine Rn ?_
                        refine Rn ?_
                        refine Rn ?_
                        refine Rn ?_
                        refine Rn ?_
                        refine Rq ?_
                        have tr : ∀ y0 y1 y2 y4 y5 y14 y44 y50 y51 y52 y53 y84 y92 z0 z1 z2 z3 z4 z5 z6 z7 z8 z9 z10 z11 z12 z13 z14 z15 z16 z17 z18 z19 z20 z21 z22 z23 z24 z25 z26 z27 z28 : AV, trim [(84, z28), (83, z27), (82, z26), (81, z25), (80, z24), (79, z23), (78, z22), (77, z21), (76, z20), (75, z19), (74, z18), (73, z17), (72, z16), (71, z15), (70, z14), (69, z13), (68, z12), (67, z11), (66, z10), (65, z9), (64, z8), (63, z7), (62, z6), (61, z5), (60, z4), (59, z3), (58, z2), (57, z1), (56, z0), (0, y0), (1, y1), (2, y2), (4, y4), (5, y5), (14, y14), (44, y44), (50, y50), (51, y51), (52, y52), (53, y53), (84, y84), (92, y92)] [(0, y0), (1, y1), (2, y2), (4, y4), (5, y5), (14, y14), (44, y44), (50, y50), (51, y51), (52, y52), (53, y53), (84, y84), (92, y92)] = [(0, y0), (1, y1), (2, y2), (4, y4), (5, y5), (14, y14), (44, y44), (50, y50), (51, y51), (52, y52), (53, y53), (84, z28), (92, y92)] := fun y0 y1 y2 y4 y5 y14 y44 y50 y51 y52 y53 y84 y92 z0 z1 z2 z3 z4 z5 z6 z7 z8 z9 z10 z11 z12 z13 z14 z15 z16 z17 z18 z19 z20 z21 z22 z23 z24 z25 z26 z27 z28 => rfl
                        refine R_nil (tr _ _ _ _ _ _ _ _ _ _ _ _ _ _ _ _ _ _ _ _ _ _ _ _ _ _ _ _ _ _ _ _ _ _ _ _ _ _ _ _ _ _) ?_; clear tr
                        refine then_n ?_
                        refine cdt ?_
                        refine at_seq rfl ?_
                        refine rg rfl ?_
                        refine Rq ?_
                        have tr : ∀ y0 y1 y2 y4 y5 y14 y44 y50 y51 y52 y53 y84 y92 z0 : AV, trim [(2, z0), (0, y0), (1, y1), (2, y2), (4, y4), (5, y5), (14, y14), (44, y44), (50, y50), (51, y51), (52, y52), (53, y53), (84, y84), (92, y92)] [(0, y0), (1, y1), (2, y2), (4, y4), (5, y5), (14, y14), (44, y44), (50, y50), (51, y51), (52, y52), (53, y53), (84, y84), (92, y92)] = [(0, y0), (1, y1), (2, z0), (4, y4), (5, y5), (14, y14), (44, y44), (50, y50), (51, y51), (52, y52), (53, y53), (84, y84), (92, y92)] := fun y0 y1 y2 y4 y5 y14 y44 y50 y51 y52 y53 y84 y92 z0 => rfl
                        refine R_nil (tr _ _ _ _ _ _ _ _ _ _ _ _ _ _) ?_; clear tr
                        refine then_n ?_
                        refine at_ret rfl ?_
                        refine then_r ?_
                        refine blk_r ?_
                        refine then_r ?_
                        refine then_r ?_
                        refine blk_r ?_
                        refine then_r ?_
                        refine fpure ?_
                        refine ⟨?_, rfl⟩
                        have hse : edErr n (gt E u) = 1 := by unfold edErr; rw [if_pos (by omega)]
                        rw [gchkS, if_neg (by omega), if_neg (by omega), if_neg (by omega), ferr_at hz (by omega) _ (by omega), hse]
                      · try simp only [decide_eq_true_eq, decide_eq_false_iff_not, Bool.not_eq_true', Bool.not_eq_false', beq_iff_eq, beq_eq_false_iff_ne, ne_eq] at h11
                        refine Ry ?_
                        refine Rq ?_
                        refine Ry ?_
                        refine Rq ?_
                        refine Ry ?_
                        refine Rq ?_
                        refine Rq ?_
                        refine Rq ?_
                        refine Rp_split (fun h12 => ?_) (fun h12 => ?_)
                        · try simp only [decide_eq_true_eq, decide_eq_false_iff_not, Bool.not_eq_true', Bool.not_eq_false', beq_iff_eq, beq_eq_false_iff_ne, ne_eq] at h12
                          refine Rn ?_
                          refine Rn ?_
                          refine Rn ?_
                          refine Rn ?_
                          refine Rn ?_
                          refine Rq ?_
                          refine Rq ?_
                          refine Rn ?_
                          refine Rn ?_
                          refine Rn ?_
                          refine Rn ?_
                          refine Rn ?_
                          refine Rq ?_
                          have tr : ∀ y0 y1 y2 y4 y5 y14 y44 y50 y51 y52 y53 y84 y92 z0 z1 z2 z3 z4 z5 z6 z7 z8 z9 z10 z11 z12 z13 z14 z15 z16 z17 z18 z19 z20 z21 z22 z23 z24 z25 z26 z27 z28 : AV, trim [(84, z28), (83, z27), (82, z26), (81, z25), (80, z24), (79, z23), (78, z22), (77, z21), (76, z20), (75, z19), (74, z18), (73, z17), (72, z16), (71, z15), (70, z14), (69, z13), (68, z12), (67, z11), (66, z10), (65, z9), (64, z8), (63, z7), (62, z6), (61, z5), (60, z4), (59, z3), (58, z2), (57, z1), (56, z0), (0, y0), (1, y1), (2, y2), (4, y4), (5, y5), (14, y14), (44, y44), (50, y50), (51, y51), (52, y52), (53, y53), (84, y84), (92, y92)] [(0, y0), (1, y1), (2, y2), (4, y4), (5, y5), (14, y14), (44, y44), (50, y50), (51, y51), (52, y52), (53, y53), (84, y84), (92, y92)] = [(0, y0), (1, y1), (2, y2), (4, y4), (5, y5), (14, y14), (44, y44), (50, y50), (51, y51), (52, y52), (53, y53), (84, z28), (92, y92)] := fun y0 y1 y2 y4 y5 y14 y44 y50 y51 y52 y53 y84 y92 z0 z1 z2 z3 z4 z5 z6 z7 z8 z9 z10 z11 z12 z13 z14 z15 z16 z17 z18 z19 z20 z21 z22 z23 z24 z25 z26 z27 z28 => rfl
                          refine R_nil (tr _ _ _ _ _ _ _ _ _ _ _ _ _ _ _ _ _ _ _ _ _ _ _ _ _ _ _ _ _ _ _ _ _ _ _ _ _ _ _ _ _ _) ?_; clear tr
                          refine then_n ?_
                          refine cdt ?_
                          refine at_seq rfl ?_
                          refine rg rfl ?_
                          refine Rq ?_
                          have tr : ∀ y0 y1 y2 y4 y5 y14 y44 y50 y51 y52 y53 y84 y92 z0 : AV, trim [(2, z0), (0, y0), (1, y1), (2, y2), (4, y4), (5, y5), (14, y14), (44, y44), (50, y50), (51, y51), (52, y52), (53, y53), (84, y84), (92, y92)] [(0, y0), (1, y1), (2, y2), (4, y4), (5, y5), (14, y14), (44, y44), (50, y50), (51, y51), (52, y52), (53, y53), (84, y84), (92, y92)] = [(0, y0), (1, y1), (2, z0), (4, y4), (5, y5), (14, y14), (44, y44), (50, y50), (51, y51), (52, y52), (53, y53), (84, y84), (92, y92)] := fun y0 y1 y2 y4 y5 y14 y44 y50 y51 y52 y53 y84 y92 z0 => rfl
                          refine R_nil (tr _ _ _ _ _ _ _ _ _ _ _ _ _ _) ?_; clear tr
                          refine then_n ?_
                          refine at_ret rfl ?_
                          refine then_r ?_
                          refine blk_r ?_
                          refine then_r ?_
                          refine then_r ?_
                          refine blk_r ?_
                          refine then_r ?_
                          refine fpure ?_
                          refine ⟨?_, rfl⟩
                          have hse : edErr n (gt E u) = 1 := by unfold edErr; rw [if_pos (by omega)]
                          rw [gchkS, if_neg (by omega), if_neg (by omega), if_neg (by omega), ferr_at hz (by omega) _ (by omega), hse]
                        · try simp only [decide_eq_true_eq, decide_eq_false_iff_not, Bool.not_eq_true', Bool.not_eq_false', beq_iff_eq, beq_eq_false_iff_ne, ne_eq] at h12
                          refine Ry ?_
                          refine Rq ?_
                          refine Ry ?_
                          refine Rq ?_
                          refine Ry ?_
                          refine Rq ?_
                          refine Ry ?_
                          refine Rq ?_
                          refine Ry ?_
                          refine Rq ?_
                          refine Rq ?_
                          refine Rq ?_
                          refine Rp_split (fun h13 => ?_) (fun h13 => ?_)
                          · try simp only [decide_eq_true_eq, decide_eq_false_iff_not, Bool.not_eq_true', Bool.not_eq_false', beq_iff_eq, beq_eq_false_iff_ne, ne_eq] at h13
                            refine Rn ?_
                            refine Rn ?_
                            refine Rn ?_
                            refine Rn ?_
                            refine Rn ?_
                            refine Rq ?_
                            have tr : ∀ y0 y1 y2 y4 y5 y14 y44 y50 y51 y52 y53 y84 y92 z0 z1 z2 z3 z4 z5 z6 z7 z8 z9 z10 z11 z12 z13 z14 z15 z16 z17 z18 z19 z20 z21 z22 z23 z24 z25 z26 z27 z28 : AV, trim [(84, z28), (83, z27), (82, z26), (81, z25), (80, z24), (79, z23), (78, z22), (77, z21), (76, z20), (75, z19), (74, z18), (73, z17), (72, z16), (71, z15), (70, z14), (69, z13), (68, z12), (67, z11), (66, z10), (65, z9), (64, z8), (63, z7), (62, z6), (61, z5), (60, z4), (59, z3), (58, z2), (57, z1), (56, z0), (0, y0), (1, y1), (2, y2), (4, y4), (5, y5), (14, y14), (44, y44), (50, y50), (51, y51), (52, y52), (53, y53), (84, y84), (92, y92)] [(0, y0), (1, y1), (2, y2), (4, y4), (5, y5), (14, y14), (44, y44), (50, y50), (51, y51), (52, y52), (53, y53), (84, y84), (92, y92)] = [(0, y0), (1, y1), (2, y2), (4, y4), (5, y5), (14, y14), (44, y44), (50, y50), (51, y51), (52, y52), (53, y53), (84, z28), (92, y92)] := fun y0 y1 y2 y4 y5 y14 y44 y50 y51 y52 y53 y84 y92 z0 z1 z2 z3 z4 z5 z6 z7 z8 z9 z10 z11 z12 z13 z14 z15 z16 z17 z18 z19 z20 z21 z22 z23 z24 z25 z26 z27 z28 => rfl
                            refine R_nil (tr _ _ _ _ _ _ _ _ _ _ _ _ _ _ _ _ _ _ _ _ _ _ _ _ _ _ _ _ _ _ _ _ _ _ _ _ _ _ _ _ _ _) ?_; clear tr
                            refine then_n ?_
                            refine cdt ?_
                            refine at_seq rfl ?_
                            refine rg rfl ?_
                            refine Rq ?_
                            have tr : ∀ y0 y1 y2 y4 y5 y14 y44 y50 y51 y52 y53 y84 y92 z0 : AV, trim [(2, z0), (0, y0), (1, y1), (2, y2), (4, y4), (5, y5), (14, y14), (44, y44), (50, y50), (51, y51), (52, y52), (53, y53), (84, y84), (92, y92)] [(0, y0), (1, y1), (2, y2), (4, y4), (5, y5), (14, y14), (44, y44), (50, y50), (51, y51), (52, y52), (53, y53), (84, y84), (92, y92)] = [(0, y0), (1, y1), (2, z0), (4, y4), (5, y5), (14, y14), (44, y44), (50, y50), (51, y51), (52, y52), (53, y53), (84, y84), (92, y92)] := fun y0 y1 y2 y4 y5 y14 y44 y50 y51 y52 y53 y84 y92 z0 => rfl
                            refine R_nil (tr _ _ _ _ _ _ _ _ _ _ _ _ _ _) ?_; clear tr
                            refine then_n ?_
                            refine at_ret rfl ?_
                            refine then_r ?_
                            refine blk_r ?_
                            refine then_r ?_
                            refine then_r ?_
                            refine blk_r ?_
                            refine then_r ?_
                            refine fpure ?_
                            refine ⟨?_, rfl⟩
                            have hse : edErr n (gt E u) = 1 := by unfold edErr; rw [if_pos (by omega)]
                            rw [gchkS, if_neg (by omega), if_neg (by omega), if_neg (by omega), ferr_at hz (by omega) _ (by omega), hse]
                          · try simp only [decide_eq_true_eq, decide_eq_false_iff_not, Bool.not_eq_true', Bool.not_eq_false', beq_iff_eq, beq_eq_false_iff_ne, ne_eq] at h13
                            refine Ry ?_
                            refine Rq ?_
                            refine Ry ?_
                            refine Rq ?_
                            refine Ry ?_
                            refine Rq ?_
                            refine Ry ?_
                            refine Rq ?_
                            refine Ry ?_
                            refine Rq ?_
                            refine Rq ?_
                            have tr : ∀ y0 y1 y2 y4 y5 y14 y44 y50 y51 y52 y53 y84 y92 z0 z1 z2 z3 z4 z5 z6 z7 z8 z9 z10 z11 z12 z13 z14 z15 z16 z17 z18 z19 z20 z21 z22 z23 z24 z25 z26 z27 z28 : AV, trim [(84, z28), (83, z27), (82, z26), (81, z25), (80, z24), (79, z23), (78, z22), (77, z21), (76, z20), (75, z19), (74, z18), (73, z17), (72, z16), (71, z15), (70, z14), (69, z13), (68, z12), (67, z11), (66, z10), (65, z9), (64, z8), (63, z7), (62, z6), (61, z5), (60, z4), (59, z3), (58, z2), (57, z1), (56, z0), (0, y0), (1, y1), (2, y2), (4, y4), (5, y5), (14, y14), (44, y44), (50, y50), (51, y51), (52, y52), (53, y53), (84, y84), (92, y92)] [(0, y0), (1, y1), (2, y2), (4, y4), (5, y5), (14, y14), (44, y44), (50, y50), (51, y51), (52, y52), (53, y53), (84, y84), (92, y92)] = [(0, y0), (1, y1), (2, y2), (4, y4), (5, y5), (14, y14), (44, y44), (50, y50), (51, y51), (52, y52), (53, y53), (84, z28), (92, y92)] := fun y0 y1 y2 y4 y5 y14 y44 y50 y51 y52 y53 y84 y92 z0 z1 z2 z3 z4 z5 z6 z7 z8 z9 z10 z11 z12 z13 z14 z15 z16 z17 z18 z19 z20 z21 z22 z23 z24 z25 z26 z27 z28 => rfl
                            refine R_nil (tr _ _ _ _ _ _ _ _ _ _ _ _ _ _ _ _ _ _ _ _ _ _ _ _ _ _ _ _ _ _ _ _ _ _ _ _ _ _ _ _ _ _) ?_; clear tr
                            refine then_n ?_
                            refine cdd (fun h14 => ?_) (fun h14 => ?_)
                            · try simp only [decide_eq_true_eq, decide_eq_false_iff_not, Bool.not_eq_true', Bool.not_eq_false', beq_iff_eq, beq_eq_false_iff_ne, ne_eq] at h14
                              refine at_seq rfl ?_
                              refine rg rfl ?_
                              refine Rq ?_
                              have tr : ∀ y0 y1 y2 y4 y5 y14 y44 y50 y51 y52 y53 y84 y92 z0 : AV, trim [(2, z0), (0, y0), (1, y1), (2, y2), (4, y4), (5, y5), (14, y14), (44, y44), (50, y50), (51, y51), (52, y52), (53, y53), (84, y84), (92, y92)] [(0, y0), (1, y1), (2, y2), (4, y4), (5, y5), (14, y14), (44, y44), (50, y50), (51, y51), (52, y52), (53, y53), (84, y84), (92, y92)] = [(0, y0), (1, y1), (2, z0), (4, y4), (5, y5), (14, y14), (44, y44), (50, y50), (51, y51), (52, y52), (53, y53), (84, y84), (92, y92)] := fun y0 y1 y2 y4 y5 y14 y44 y50 y51 y52 y53 y84 y92 z0 => rfl
                              refine R_nil (tr _ _ _ _ _ _ _ _ _ _ _ _ _ _) ?_; clear tr
                              refine then_n ?_
                              refine at_ret rfl ?_
                              refine then_r ?_
                              refine blk_r ?_
                              refine then_r ?_
                              refine then_r ?_
                              refine blk_r ?_
                              refine then_r ?_
                              refine fpure ?_
                              refine ⟨?_, rfl⟩
                              have hse : edErr n (gt E u) = 1 := by unfold edErr; rw [if_pos (by omega)]
                              rw [gchkS, if_neg (by omega), if_neg (by omega), if_neg (by omega), ferr_at hz (by omega) _ (by omega), hse]
                            · try simp only [decide_eq_true_eq, decide_eq_false_iff_not, Bool.not_eq_true', Bool.not_eq_false', beq_iff_eq, beq_eq_false_iff_ne, ne_eq] at h14
                              refine at_skip rfl ?_
                              refine then_n ?_
                              refine at_seq rfl ?_
                              refine rg rfl ?_
                              refine Rq ?_
                              refine Rq ?_
                              refine Rq ?_
                              refine Rq ?_
                              refine Rp_split (fun h15 => ?_) (fun h15 => ?_)
                              · try simp only [decide_eq_true_eq, decide_eq_false_iff_not, Bool.not_eq_true', Bool.not_eq_false', beq_iff_eq, beq_eq_false_iff_ne, ne_eq] at h15
                                refine Rn ?_
                                refine Rn ?_
                                refine Rn ?_
                                refine Rq ?_
                                have tr : ∀ y0 y1 y2 y4 y5 y14 y44 y50 y51 y52 y53 y84 y92 z0 z1 z2 z3 z4 z5 z6 z7 : AV, trim [(92, z7), (91, z6), (90, z5), (89, z4), (88, z3), (87, z2), (86, z1), (85, z0), (0, y0), (1, y1), (2, y2), (4, y4), (5, y5), (14, y14), (44, y44), (50, y50), (51, y51), (52, y52), (53, y53), (84, y84), (92, y92)] [(0, y0), (1, y1), (2, y2), (4, y4), (5, y5), (14, y14), (44, y44), (50, y50), (51, y51), (52, y52), (53, y53), (84, y84), (92, y92)] = [(0, y0), (1, y1), (2, y2), (4, y4), (5, y5), (14, y14), (44, y44), (50, y50), (51, y51), (52, y52), (53, y53), (84, y84), (92, z7)] := fun y0 y1 y2 y4 y5 y14 y44 y50 y51 y52 y53 y84 y92 z0 z1 z2 z3 z4 z5 z6 z7 => rfl
                                refine R_nil (tr _ _ _ _ _ _ _ _ _ _ _ _ _ _ _ _ _ _ _ _ _) ?_; clear tr
                                refine then_n ?_
                                refine cdt ?_
                                refine at_seq rfl ?_
                                refine rg rfl ?_
                                refine Rq ?_
                                have tr : ∀ y0 y1 y2 y4 y5 y14 y44 y50 y51 y52 y53 y84 y92 z0 : AV, trim [(2, z0), (0, y0), (1, y1), (2, y2), (4, y4), (5, y5), (14, y14), (44, y44), (50, y50), (51, y51), (52, y52), (53, y53), (84, y84), (92, y92)] [(0, y0), (1, y1), (2, y2), (4, y4), (5, y5), (14, y14), (44, y44), (50, y50), (51, y51), (52, y52), (53, y53), (84, y84), (92, y92)] = [(0, y0), (1, y1), (2, z0), (4, y4), (5, y5), (14, y14), (44, y44), (50, y50), (51, y51), (52, y52), (53, y53), (84, y84), (92, y92)] := fun y0 y1 y2 y4 y5 y14 y44 y50 y51 y52 y53 y84 y92 z0 => rfl
                                refine R_nil (tr _ _ _ _ _ _ _ _ _ _ _ _ _ _) ?_; clear tr
                                refine then_n ?_
                                refine at_ret rfl ?_
                                refine blk_r ?_
                                refine then_r ?_
                                refine then_r ?_
                                refine blk_r ?_
                                refine then_r ?_
                                refine fpure ?_
                                refine ⟨?_, rfl⟩
                                have hse : edErr n (gt E u) = 2 := by unfold edErr; rw [if_neg (by omega), if_pos (by omega)]
                                rw [gchkS, if_neg (by omega), if_neg (by omega), if_neg (by omega), ferr_at hz (by omega) _ (by omega), hse]
                              · try simp only [decide_eq_true_eq, decide_eq_false_iff_not, Bool.not_eq_true', Bool.not_eq_false', beq_iff_eq, beq_eq_false_iff_ne, ne_eq] at h15
                                refine Ry ?_
                                refine Rq ?_
                                refine Ry ?_
                                refine Rq ?_
                                refine Ry ?_
                                refine Rq ?_
                                refine Rq ?_
                                have tr : ∀ y0 y1 y2 y4 y5 y14 y44 y50 y51 y52 y53 y84 y92 z0 z1 z2 z3 z4 z5 z6 z7 : AV, trim [(92, z7), (91, z6), (90, z5), (89, z4), (88, z3), (87, z2), (86, z1), (85, z0), (0, y0), (1, y1), (2, y2), (4, y4), (5, y5), (14, y14), (44, y44), (50, y50), (51, y51), (52, y52), (53, y53), (84, y84), (92, y92)] [(0, y0), (1, y1), (2, y2), (4, y4), (5, y5), (14, y14), (44, y44), (50, y50), (51, y51), (52, y52), (53, y53), (84, y84), (92, y92)] = [(0, y0), (1, y1), (2, y2), (4, y4), (5, y5), (14, y14), (44, y44), (50, y50), (51, y51), (52, y52), (53, y53), (84, y84), (92, z7)] := fun y0 y1 y2 y4 y5 y14 y44 y50 y51 y52 y53 y84 y92 z0 z1 z2 z3 z4 z5 z6 z7 => rfl
                                refine R_nil (tr _ _ _ _ _ _ _ _ _ _ _ _ _ _ _ _ _ _ _ _ _) ?_; clear tr
                                refine then_n ?_
                                refine cdd (fun h16 => ?_) (fun h16 => ?_)
                                · try simp only [decide_eq_true_eq, decide_eq_false_iff_not, Bool.not_eq_true', Bool.not_eq_false', beq_iff_eq, beq_eq_false_iff_ne, ne_eq] at h16
                                  refine at_seq rfl ?_
                                  refine rg rfl ?_
                                  refine Rq ?_
                                  have tr : ∀ y0 y1 y2 y4 y5 y14 y44 y50 y51 y52 y53 y84 y92 z0 : AV, trim [(2, z0), (0, y0), (1, y1), (2, y2), (4, y4), (5, y5), (14, y14), (44, y44), (50, y50), (51, y51), (52, y52), (53, y53), (84, y84), (92, y92)] [(0, y0), (1, y1), (2, y2), (4, y4), (5, y5), (14, y14), (44, y44), (50, y50), (51, y51), (52, y52), (53, y53), (84, y84), (92, y92)] = [(0, y0), (1, y1), (2, z0), (4, y4), (5, y5), (14, y14), (44, y44), (50, y50), (51, y51), (52, y52), (53, y53), (84, y84), (92, y92)] := fun y0 y1 y2 y4 y5 y14 y44 y50 y51 y52 y53 y84 y92 z0 => rfl
                                  refine R_nil (tr _ _ _ _ _ _ _ _ _ _ _ _ _ _) ?_; clear tr
                                  refine then_n ?_
                                  refine at_ret rfl ?_
                                  refine blk_r ?_
                                  refine then_r ?_
                                  refine then_r ?_
                                  refine blk_r ?_
                                  refine then_r ?_
                                  refine fpure ?_
                                  refine ⟨?_, rfl⟩
                                  have hse : edErr n (gt E u) = 2 := by unfold edErr; rw [if_neg (by omega), if_pos (by omega)]
                                  rw [gchkS, if_neg (by omega), if_neg (by omega), if_neg (by omega), ferr_at hz (by omega) _ (by omega), hse]
                                · try simp only [decide_eq_true_eq, decide_eq_false_iff_not, Bool.not_eq_true', Bool.not_eq_false', beq_iff_eq, beq_eq_false_iff_ne, ne_eq] at h16
                                  refine at_skip rfl ?_
                                  refine blk_n ?_
                                  refine then_n ?_
                                  refine rg rfl ?_
                                  refine Rq ?_
                                  refine Rq ?_
                                  have tr : ∀ y0 y1 y2 y4 y5 y14 y44 y50 y51 y52 y53 y84 y92 z0 z1 : AV, trim [(52, z1), (93, z0), (0, y0), (1, y1), (2, y2), (4, y4), (5, y5), (14, y14), (44, y44), (50, y50), (51, y51), (52, y52), (53, y53), (84, y84), (92, y92)] [(0, y0), (1, y1), (2, y2), (4, y4), (5, y5), (14, y14), (44, y44), (50, y50), (51, y51), (52, y52), (53, y53), (84, y84), (92, y92)] = [(0, y0), (1, y1), (2, y2), (4, y4), (5, y5), (14, y14), (44, y44), (50, y50), (51, y51), (52, z1), (53, y53), (84, y84), (92, y92)] := fun y0 y1 y2 y4 y5 y14 y44 y50 y51 y52 y53 y84 y92 z0 z1 => rfl
                                  refine R_nil (tr _ _ _ _ _ _ _ _ _ _ _ _ _ _ _) ?_; clear tr
                                  refine then_n ?_
                                  have hok : edErr n (gt E u) = 0 := by unfold edErr; rw [if_neg (by omega), if_neg (by omega)]
                                  exact ⟨_, _, ⟨u + 1, X ++ [some (edC (gt E u))], _, _, _, _, _, rfl, rfl, by simp; rfl, by omega, by exact ferr_ok hz hok⟩, by rfl, by omega⟩
                  · try simp only [decide_eq_true_eq, decide_eq_false_iff_not, Bool.not_eq_true', Bool.not_eq_false', beq_iff_eq, beq_eq_false_iff_ne, ne_eq] at h9
                    refine at_exit rfl ?_
                    refine then_x ?_
                    refine then_x ?_
                    refine blk_x ?_
                    refine then_n ?_
                    refine at_seq rfl ?_
                    refine rg rfl ?_
                    refine Rq ?_
                    have tr : ∀ y0 y1 y2 y4 y5 y14 y44 y50 y51 y52 y53 y84 y92 z0 : AV, trim [(2, z0), (0, y0), (1, y1), (2, y2), (4, y4), (5, y5), (14, y14), (44, y44), (50, y50), (51, y51), (52, y52), (53, y53), (84, y84), (92, y92)] [(0, y0), (1, y1), (2, y2), (4, y4), (5, y5), (14, y14), (44, y44), (50, y50), (51, y51), (52, y52), (53, y53), (84, y84), (92, y92)] = [(0, y0), (1, y1), (2, z0), (4, y4), (5, y5), (14, y14), (44, y44), (50, y50), (51, y51), (52, y52), (53, y53), (84, y84), (92, y92)] := fun y0 y1 y2 y4 y5 y14 y44 y50 y51 y52 y53 y84 y92 z0 => rfl
                    refine R_nil (tr _ _ _ _ _ _ _ _ _ _ _ _ _ _) ?_; clear tr
                    refine then_n ?_
                    refine at_ret rfl ?_
                    refine fpure ?_
                    refine ⟨?_, rfl⟩
                    rw [gchkS, if_neg (by omega), if_neg (by omega), if_neg (by omega), show ferr (fun i => edErr n (gt E i)) E.length = 0 by rw [show E.length = u by omega]; exact hz]

end Go.Proofs.Ytdicnojnkbmdlaa
