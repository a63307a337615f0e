/-
  Walks of chapters 52 and 53. The steps are written by program (walk.py).
-/
import Derived.Test.YtdicnojnkbmdlaaRA
set_option linter.unusedSimpArgs false
set_option linter.unusedVariables false
set_option maxHeartbeats 40000000
set_option maxRecDepth 4000
namespace Go.Proofs.Ytdicnojnkbmdlaa
open Go Go.Am

theorem cap_ok (lim : Nat) (H : Heap) (n s t : Int) (E : List Ed) (cut : List Bool) :
    ACall sig lim 19 [.agg (graphC n s t E), boolsAV cut] H fun r H' => r = .tup [AV.i (capS n s t E cut).1, AV.i (capS n s t E cut).2] ∧ H' = H := by
  refine ACall_pure (fa := fa19) rfl rfl rfl rfl ?_
  have tr : ∀ a0 a1 : AV, env0 fa19.keep [a0, a1] = [(0, a0), (1, a1), (2, .any), (4, .any), (5, .any), (6, .any), (7, .any), (9, .any), (13, .any), (34, .any), (36, .any), (37, .any), (38, .any), (39, .any), (54, .any)] := fun a0 a1 => rfl
  refine W_to (tr _ _) ?_; clear tr
  refine at_seq rfl ?_
  refine rg rfl ?_
  refine R_box rfl (by simp (disch := first | omega | (simp only [List.length_map, List.length_append, List.length_set, List.length_cons, List.length_nil, List.length_take, List.length_drop]; omega)) only [go_sem, ↓reduceIte, Nat.reduceEqDiff, reduceCtorEq]; rfl) rfl rfl ?_
  refine Rq ?_
  refine Rq ?_
  have tr : ∀ y0 y1 y2 y4 y5 y6 y7 y9 y13 y34 y36 y37 y38 y39 y54 z0 z1 z2 : AV, trim [(5, z2), (4, z1), (2, z0), (0, y0), (1, y1), (2, y2), (4, y4), (5, y5), (6, y6), (7, y7), (9, y9), (13, y13), (34, y34), (36, y36), (37, y37), (38, y38), (39, y39), (54, y54)] [(0, y0), (1, y1), (2, y2), (4, y4), (5, y5), (6, y6), (7, y7), (9, y9), (13, y13), (34, y34), (36, y36), (37, y37), (38, y38), (39, y39), (54, y54)] = [(0, y0), (1, y1), (2, z0), (4, z1), (5, z2), (6, y6), (7, y7), (9, y9), (13, y13), (34, y34), (36, y36), (37, y37), (38, y38), (39, y39), (54, y54)] := fun y0 y1 y2 y4 y5 y6 y7 y9 y13 y34 y36 y37 y38 y39 y54 z0 z1 z2 => rfl
  refine R_nil (tr _ _ _ _ _ _ _ _ _ _ _ _ _ _ _ _ _ _) ?_; clear tr
  refine then_n ?_
  refine at_seq rfl ?_
  refine at_seq rfl ?_
  refine rg rfl ?_
  refine Rq ?_
  refine Rcall ?_
  refine ACall_eq (check_ok _ _ n s t E) ?_
  refine Rq ?_
  have tr : ∀ y0 y1 y2 y4 y5 y6 y7 y9 y13 y34 y36 y37 y38 y39 y54 z0 z1 z2 : AV, trim [(6, z2), (11, z1), (10, z0), (0, y0), (1, y1), (2, y2), (4, y4), (5, y5), (6, y6), (7, y7), (9, y9), (13, y13), (34, y34), (36, y36), (37, y37), (38, y38), (39, y39), (54, y54)] [(0, y0), (1, y1), (2, y2), (4, y4), (5, y5), (6, y6), (7, y7), (9, y9), (13, y13), (34, y34), (36, y36), (37, y37), (38, y38), (39, y39), (54, y54)] = [(0, y0), (1, y1), (2, y2), (4, y4), (5, y5), (6, z2), (7, y7), (9, y9), (13, y13), (34, y34), (36, y36), (37, y37), (38, y38), (39, y39), (54, y54)] := fun y0 y1 y2 y4 y5 y6 y7 y9 y13 y34 y36 y37 y38 y39 y54 z0 z1 z2 => rfl
  refine R_nil (tr _ _ _ _ _ _ _ _ _ _ _ _ _ _ _ _ _ _) ?_; clear tr
  refine then_n ?_
  refine at_seq rfl ?_
  refine rg rfl ?_
  refine Rq ?_
  refine Rq ?_
  have tr : ∀ y0 y1 y2 y4 y5 y6 y7 y9 y13 y34 y36 y37 y38 y39 y54 z0 z1 : AV, trim [(13, z1), (12, z0), (0, y0), (1, y1), (2, y2), (4, y4), (5, y5), (6, y6), (7, y7), (9, y9), (13, y13), (34, y34), (36, y36), (37, y37), (38, y38), (39, y39), (54, y54)] [(0, y0), (1, y1), (2, y2), (4, y4), (5, y5), (6, y6), (7, y7), (9, y9), (13, y13), (34, y34), (36, y36), (37, y37), (38, y38), (39, y39), (54, y54)] = [(0, y0), (1, y1), (2, y2), (4, y4), (5, y5), (6, y6), (7, y7), (9, y9), (13, z1), (34, y34), (36, y36), (37, y37), (38, y38), (39, y39), (54, y54)] := fun y0 y1 y2 y4 y5 y6 y7 y9 y13 y34 y36 y37 y38 y39 y54 z0 z1 => rfl
  refine R_nil (tr _ _ _ _ _ _ _ _ _ _ _ _ _ _ _ _ _) ?_; clear tr
  refine then_n ?_
  refine cdd (fun h1 => ?_) (fun h1 => ?_)
  · try simp only [decide_eq_true_eq, decide_eq_false_iff_not, Bool.not_eq_true', Bool.not_eq_false', beq_iff_eq, beq_eq_false_iff_ne, ne_eq] at h1
    refine at_seq rfl ?_
    refine rg rfl ?_
    refine Rq ?_
    refine Rq ?_
    refine Rq ?_
    have tr : ∀ y0 y1 y2 y4 y5 y6 y7 y9 y13 y34 y36 y37 y38 y39 y54 z0 z1 z2 : AV, trim [(5, z2), (4, z1), (14, z0), (0, y0), (1, y1), (2, y2), (4, y4), (5, y5), (6, y6), (7, y7), (9, y9), (13, y13), (34, y34), (36, y36), (37, y37), (38, y38), (39, y39), (54, y54)] [(0, y0), (1, y1), (2, y2), (4, y4), (5, y5), (6, y6), (7, y7), (9, y9), (13, y13), (34, y34), (36, y36), (37, y37), (38, y38), (39, y39), (54, y54)] = [(0, y0), (1, y1), (2, y2), (4, z1), (5, z2), (6, y6), (7, y7), (9, y9), (13, y13), (34, y34), (36, y36), (37, y37), (38, y38), (39, y39), (54, y54)] := fun y0 y1 y2 y4 y5 y6 y7 y9 y13 y34 y36 y37 y38 y39 y54 z0 z1 z2 => rfl
    refine R_nil (tr _ _ _ _ _ _ _ _ _ _ _ _ _ _ _ _ _ _) ?_; clear tr
    refine then_n ?_
    refine at_ret rfl ?_
    refine then_r ?_
    refine fpure ?_
    refine ⟨?_, rfl⟩
    rw [capS, if_pos (by assumption)]
  · try simp only [decide_eq_true_eq, decide_eq_false_iff_not, Bool.not_eq_true', Bool.not_eq_false', beq_iff_eq, beq_eq_false_iff_ne, ne_eq] at h1
    refine at_skip rfl ?_
    refine then_n ?_
    refine at_seq rfl ?_
    refine at_seq rfl ?_
    refine rg rfl ?_
    have g := gok_of (by assumption : gchkS n s t E = 0)
    obtain ⟨g1, g2, g3, g4, g5, g6, g7, g8, ge⟩ := g
    refine Rq ?_
    refine Rq ?_
    refine Rq ?_
    refine Rq ?_
    refine Rq ?_
    refine Rq ?_
    refine Rp_split (fun h2 => ?_) (fun h2 => ?_)
    · try simp only [decide_eq_true_eq, decide_eq_false_iff_not, Bool.not_eq_true', Bool.not_eq_false', beq_iff_eq, beq_eq_false_iff_ne, ne_eq] at h2
      refine Rn ?_
      refine Rn ?_
      refine Rn ?_
      refine Rn ?_
      refine Rn ?_
      refine Rn ?_
      refine Rq ?_
      refine Rq ?_
      refine Rn ?_
      refine Rn ?_
      refine Rn ?_
      refine Rn ?_
      refine Rn ?_
      refine Rq ?_
      have tr : ∀ y0 y1 y2 y4 y5 y6 y7 y9 y13 y34 y36 y37 y38 y39 y54 z0 z1 z2 z3 z4 z5 z6 z7 z8 z9 z10 z11 z12 z13 z14 z15 z16 z17 z18 z19 : AV, trim [(34, z19), (33, z18), (32, z17), (31, z16), (30, z15), (29, z14), (28, z13), (27, z12), (26, z11), (25, z10), (24, z9), (23, z8), (22, z7), (21, z6), (20, z5), (19, z4), (18, z3), (17, z2), (16, z1), (15, z0), (0, y0), (1, y1), (2, y2), (4, y4), (5, y5), (6, y6), (7, y7), (9, y9), (13, y13), (34, y34), (36, y36), (37, y37), (38, y38), (39, y39), (54, y54)] [(0, y0), (1, y1), (2, y2), (4, y4), (5, y5), (6, y6), (7, y7), (9, y9), (13, y13), (34, y34), (36, y36), (37, y37), (38, y38), (39, y39), (54, y54)] = [(0, y0), (1, y1), (2, y2), (4, y4), (5, y5), (6, y6), (7, y7), (9, y9), (13, y13), (34, z19), (36, y36), (37, y37), (38, y38), (39, y39), (54, y54)] := fun y0 y1 y2 y4 y5 y6 y7 y9 y13 y34 y36 y37 y38 y39 y54 z0 z1 z2 z3 z4 z5 z6 z7 z8 z9 z10 z11 z12 z13 z14 z15 z16 z17 z18 z19 => rfl
      refine R_nil (tr _ _ _ _ _ _ _ _ _ _ _ _ _ _ _ _ _ _ _ _ _ _ _ _ _ _ _ _ _ _ _ _ _ _ _) ?_; clear tr
      refine then_n ?_
      refine cdt ?_
      refine at_seq rfl ?_
      refine rg rfl ?_
      refine Rq ?_
      refine Rq ?_
      have tr : ∀ y0 y1 y2 y4 y5 y6 y7 y9 y13 y34 y36 y37 y38 y39 y54 z0 z1 : AV, trim [(5, z1), (4, z0), (0, y0), (1, y1), (2, y2), (4, y4), (5, y5), (6, y6), (7, y7), (9, y9), (13, y13), (34, y34), (36, y36), (37, y37), (38, y38), (39, y39), (54, y54)] [(0, y0), (1, y1), (2, y2), (4, y4), (5, y5), (6, y6), (7, y7), (9, y9), (13, y13), (34, y34), (36, y36), (37, y37), (38, y38), (39, y39), (54, y54)] = [(0, y0), (1, y1), (2, y2), (4, z0), (5, z1), (6, y6), (7, y7), (9, y9), (13, y13), (34, y34), (36, y36), (37, y37), (38, y38), (39, y39), (54, y54)] := fun y0 y1 y2 y4 y5 y6 y7 y9 y13 y34 y36 y37 y38 y39 y54 z0 z1 => rfl
      refine R_nil (tr _ _ _ _ _ _ _ _ _ _ _ _ _ _ _ _ _) ?_; clear tr
      refine then_n ?_
      refine at_ret rfl ?_
      refine then_r ?_
      refine fpure ?_
      refine ⟨?_, rfl⟩
      rw [capS, if_neg (fun hh => hh (by assumption)), if_pos (Or.inl (by omega))]
    · try simp only [decide_eq_true_eq, decide_eq_false_iff_not, Bool.not_eq_true', Bool.not_eq_false', beq_iff_eq, beq_eq_false_iff_ne, ne_eq] at h2
      refine Ry ?_
      refine Rq ?_
      refine Ry ?_
      refine Rq ?_
      refine Ry ?_
      refine Rq ?_
      refine Ry ?_
      refine Rq ?_
      refine Ry ?_
      refine Rq ?_
      refine Ry ?_
      refine Rq ?_
      refine Rq ?_
      refine Rq ?_
      refine Rp_split (fun h3 => ?_) (fun h3 => ?_)
      · try simp only [decide_eq_true_eq, decide_eq_false_iff_not, Bool.not_eq_true', Bool.not_eq_false', beq_iff_eq, beq_eq_false_iff_ne, ne_eq] at h3
        refine Rn ?_
        refine Rn ?_
        refine Rn ?_
        refine Rn ?_
        refine Rn ?_
        refine Rq ?_
        have tr : ∀ y0 y1 y2 y4 y5 y6 y7 y9 y13 y34 y36 y37 y38 y39 y54 z0 z1 z2 z3 z4 z5 z6 z7 z8 z9 z10 z11 z12 z13 z14 z15 z16 z17 z18 z19 : AV, trim [(34, z19), (33, z18), (32, z17), (31, z16), (30, z15), (29, z14), (28, z13), (27, z12), (26, z11), (25, z10), (24, z9), (23, z8), (22, z7), (21, z6), (20, z5), (19, z4), (18, z3), (17, z2), (16, z1), (15, z0), (0, y0), (1, y1), (2, y2), (4, y4), (5, y5), (6, y6), (7, y7), (9, y9), (13, y13), (34, y34), (36, y36), (37, y37), (38, y38), (39, y39), (54, y54)] [(0, y0), (1, y1), (2, y2), (4, y4), (5, y5), (6, y6), (7, y7), (9, y9), (13, y13), (34, y34), (36, y36), (37, y37), (38, y38), (39, y39), (54, y54)] = [(0, y0), (1, y1), (2, y2), (4, y4), (5, y5), (6, y6), (7, y7), (9, y9), (13, y13), (34, z19), (36, y36), (37, y37), (38, y38), (39, y39), (54, y54)] := fun y0 y1 y2 y4 y5 y6 y7 y9 y13 y34 y36 y37 y38 y39 y54 z0 z1 z2 z3 z4 z5 z6 z7 z8 z9 z10 z11 z12 z13 z14 z15 z16 z17 z18 z19 => rfl
        refine R_nil (tr _ _ _ _ _ _ _ _ _ _ _ _ _ _ _ _ _ _ _ _ _ _ _ _ _ _ _ _ _ _ _ _ _ _ _) ?_; clear tr
        refine then_n ?_
        refine cdt ?_
        refine at_seq rfl ?_
        refine rg rfl ?_
        refine Rq ?_
        refine Rq ?_
        have tr : ∀ y0 y1 y2 y4 y5 y6 y7 y9 y13 y34 y36 y37 y38 y39 y54 z0 z1 : AV, trim [(5, z1), (4, z0), (0, y0), (1, y1), (2, y2), (4, y4), (5, y5), (6, y6), (7, y7), (9, y9), (13, y13), (34, y34), (36, y36), (37, y37), (38, y38), (39, y39), (54, y54)] [(0, y0), (1, y1), (2, y2), (4, y4), (5, y5), (6, y6), (7, y7), (9, y9), (13, y13), (34, y34), (36, y36), (37, y37), (38, y38), (39, y39), (54, y54)] = [(0, y0), (1, y1), (2, y2), (4, z0), (5, z1), (6, y6), (7, y7), (9, y9), (13, y13), (34, y34), (36, y36), (37, y37), (38, y38), (39, y39), (54, y54)] := fun y0 y1 y2 y4 y5 y6 y7 y9 y13 y34 y36 y37 y38 y39 y54 z0 z1 => rfl
        refine R_nil (tr _ _ _ _ _ _ _ _ _ _ _ _ _ _ _ _ _) ?_; clear tr
        refine then_n ?_
        refine at_ret rfl ?_
        refine then_r ?_
        refine fpure ?_
        refine ⟨?_, rfl⟩
        rw [capS, if_neg (fun hh => hh (by assumption)), if_pos (Or.inr (Or.inl (by assumption)))]
      · try simp only [decide_eq_true_eq, decide_eq_false_iff_not, Bool.not_eq_true', Bool.not_eq_false', beq_iff_eq, beq_eq_false_iff_ne, ne_eq] at h3
        refine Ry ?_
        refine Rq ?_
        refine Ry ?_
        refine Rq ?_
        refine Ry ?_
        refine Rq ?_
        refine Ry ?_
        refine Rq ?_
        refine Ry ?_
        refine Rq ?_
        refine Rq ?_
        have tr : ∀ y0 y1 y2 y4 y5 y6 y7 y9 y13 y34 y36 y37 y38 y39 y54 z0 z1 z2 z3 z4 z5 z6 z7 z8 z9 z10 z11 z12 z13 z14 z15 z16 z17 z18 z19 : AV, trim [(34, z19), (33, z18), (32, z17), (31, z16), (30, z15), (29, z14), (28, z13), (27, z12), (26, z11), (25, z10), (24, z9), (23, z8), (22, z7), (21, z6), (20, z5), (19, z4), (18, z3), (17, z2), (16, z1), (15, z0), (0, y0), (1, y1), (2, y2), (4, y4), (5, y5), (6, y6), (7, y7), (9, y9), (13, y13), (34, y34), (36, y36), (37, y37), (38, y38), (39, y39), (54, y54)] [(0, y0), (1, y1), (2, y2), (4, y4), (5, y5), (6, y6), (7, y7), (9, y9), (13, y13), (34, y34), (36, y36), (37, y37), (38, y38), (39, y39), (54, y54)] = [(0, y0), (1, y1), (2, y2), (4, y4), (5, y5), (6, y6), (7, y7), (9, y9), (13, y13), (34, z19), (36, y36), (37, y37), (38, y38), (39, y39), (54, y54)] := fun y0 y1 y2 y4 y5 y6 y7 y9 y13 y34 y36 y37 y38 y39 y54 z0 z1 z2 z3 z4 z5 z6 z7 z8 z9 z10 z11 z12 z13 z14 z15 z16 z17 z18 z19 => rfl
        refine R_nil (tr _ _ _ _ _ _ _ _ _ _ _ _ _ _ _ _ _ _ _ _ _ _ _ _ _ _ _ _ _ _ _ _ _ _ _) ?_; clear tr
        refine then_n ?_
        refine cdd (fun h4 => ?_) (fun h4 => ?_)
        · try simp only [decide_eq_true_eq, decide_eq_false_iff_not, Bool.not_eq_true', Bool.not_eq_false', beq_iff_eq, beq_eq_false_iff_ne, ne_eq] at h4
          refine at_seq rfl ?_
          refine rg rfl ?_
          refine Rq ?_
          refine Rq ?_
          have tr : ∀ y0 y1 y2 y4 y5 y6 y7 y9 y13 y34 y36 y37 y38 y39 y54 z0 z1 : AV, trim [(5, z1), (4, z0), (0, y0), (1, y1), (2, y2), (4, y4), (5, y5), (6, y6), (7, y7), (9, y9), (13, y13), (34, y34), (36, y36), (37, y37), (38, y38), (39, y39), (54, y54)] [(0, y0), (1, y1), (2, y2), (4, y4), (5, y5), (6, y6), (7, y7), (9, y9), (13, y13), (34, y34), (36, y36), (37, y37), (38, y38), (39, y39), (54, y54)] = [(0, y0), (1, y1), (2, y2), (4, z0), (5, z1), (6, y6), (7, y7), (9, y9), (13, y13), (34, y34), (36, y36), (37, y37), (38, y38), (39, y39), (54, y54)] := fun y0 y1 y2 y4 y5 y6 y7 y9 y13 y34 y36 y37 y38 y39 y54 z0 z1 => rfl
          refine R_nil (tr _ _ _ _ _ _ _ _ _ _ _ _ _ _ _ _ _) ?_; clear tr
          refine then_n ?_
          refine at_ret rfl ?_
          refine then_r ?_
          refine fpure ?_
          refine ⟨?_, rfl⟩
          rw [capS, if_neg (fun hh => hh (by assumption)), if_pos (Or.inr (Or.inr (by assumption)))]
        · try simp only [decide_eq_true_eq, decide_eq_false_iff_not, Bool.not_eq_true', Bool.not_eq_false', beq_iff_eq, beq_eq_false_iff_ne, ne_eq] at h4
          refine at_skip rfl ?_
          refine then_n ?_
          refine at_seq rfl ?_
          refine rg rfl ?_
          refine Rq ?_
          have tr : ∀ y0 y1 y2 y4 y5 y6 y7 y9 y13 y34 y36 y37 y38 y39 y54 z0 : AV, trim [(7, z0), (0, y0), (1, y1), (2, y2), (4, y4), (5, y5), (6, y6), (7, y7), (9, y9), (13, y13), (34, y34), (36, y36), (37, y37), (38, y38), (39, y39), (54, y54)] [(0, y0), (1, y1), (2, y2), (4, y4), (5, y5), (6, y6), (7, y7), (9, y9), (13, y13), (34, y34), (36, y36), (37, y37), (38, y38), (39, y39), (54, y54)] = [(0, y0), (1, y1), (2, y2), (4, y4), (5, y5), (6, y6), (7, z0), (9, y9), (13, y13), (34, y34), (36, y36), (37, y37), (38, y38), (39, y39), (54, y54)] := fun y0 y1 y2 y4 y5 y6 y7 y9 y13 y34 y36 y37 y38 y39 y54 z0 => rfl
          refine R_nil (tr _ _ _ _ _ _ _ _ _ _ _ _ _ _ _ _) ?_; clear tr
          refine then_n ?_
          refine at_seq rfl ?_
          refine at_seq rfl ?_
          refine rg rfl ?_
          refine Rq ?_
          refine Rq ?_
          refine Rq ?_
          refine Rq ?_
          have tr : ∀ y0 y1 y2 y4 y5 y6 y7 y9 y13 y34 y36 y37 y38 y39 y54 z0 z1 z2 z3 : AV, trim [(38, z3), (37, z2), (36, z1), (35, z0), (0, y0), (1, y1), (2, y2), (4, y4), (5, y5), (6, y6), (7, y7), (9, y9), (13, y13), (34, y34), (36, y36), (37, y37), (38, y38), (39, y39), (54, y54)] [(0, y0), (1, y1), (2, y2), (4, y4), (5, y5), (6, y6), (7, y7), (9, y9), (13, y13), (34, y34), (36, y36), (37, y37), (38, y38), (39, y39), (54, y54)] = [(0, y0), (1, y1), (2, y2), (4, y4), (5, y5), (6, y6), (7, y7), (9, y9), (13, y13), (34, y34), (36, z1), (37, z2), (38, z3), (39, y39), (54, y54)] := fun y0 y1 y2 y4 y5 y6 y7 y9 y13 y34 y36 y37 y38 y39 y54 z0 z1 z2 z3 => rfl
          refine R_nil (tr _ _ _ _ _ _ _ _ _ _ _ _ _ _ _ _ _ _ _) ?_; clear tr
          refine then_n ?_
          refine at_block rfl ?_
          refine loop_n rfl (fun mm kv H' => ∃ u : Nat, ∃ c : Int, ∃ X : Heap, ∃ x9 x39 x54 : AV, (kv = [(7, AV.i c), (9, x9), (38, AV.i u), (39, x39), (54, x54)]) ∧ (mm = E.length - u) ∧ (H' = H ++ [some (graphC n s t E)] ++ X) ∧ (u ≤ E.length) ∧ (c = capN E cut u)) ⟨0, 0, [], _, _, _, rfl, rfl, by simp, by omega, by rfl⟩ (by rfl) ?_
          rintro mm kv H1 ⟨u, c, X, x9, x39, x54, rfl, rfl, hX, hu, hc⟩
          have tr : ∀ y0 y1 y2 y4 y5 y6 y7 y9 y13 y34 y36 y37 y38 y39 y54 z7 z9 z38 z39 z54 : AV, upd [(0, y0), (1, y1), (2, y2), (4, y4), (5, y5), (6, y6), (7, y7), (9, y9), (13, y13), (34, y34), (36, y36), (37, y37), (38, y38), (39, y39), (54, y54)] [(7, z7), (9, z9), (38, z38), (39, z39), (54, z54)] = [(0, y0), (1, y1), (2, y2), (4, y4), (5, y5), (6, y6), (7, z7), (9, z9), (13, y13), (34, y34), (36, y36), (37, y37), (38, z38), (39, z39), (54, z54)] := fun y0 y1 y2 y4 y5 y6 y7 y9 y13 y34 y36 y37 y38 y39 y54 z7 z9 z38 z39 z54 => rfl
          refine W_to (tr _ _ _ _ _ _ _ _ _ _ _ _ _ _ _ _ _ _ _ _) ?_; clear tr
          subst hX
          have hcr := capN_rng (cut := cut) (fun i hi => (ge i hi).2.2.2.2.2) u hu
          refine at_seq rfl ?_
          refine rg rfl ?_
          refine Rq ?_
          have tr : ∀ y0 y1 y2 y4 y5 y6 y7 y9 y13 y34 y36 y37 y38 y39 y54 z0 : AV, trim [(39, z0), (0, y0), (1, y1), (2, y2), (4, y4), (5, y5), (6, y6), (7, y7), (9, y9), (13, y13), (34, y34), (36, y36), (37, y37), (38, y38), (39, y39), (54, y54)] [(0, y0), (1, y1), (2, y2), (4, y4), (5, y5), (6, y6), (7, y7), (9, y9), (13, y13), (34, y34), (36, y36), (37, y37), (38, y38), (39, y39), (54, y54)] = [(0, y0), (1, y1), (2, y2), (4, y4), (5, y5), (6, y6), (7, y7), (9, y9), (13, y13), (34, y34), (36, y36), (37, y37), (38, y38), (39, z0), (54, y54)] := fun y0 y1 y2 y4 y5 y6 y7 y9 y13 y34 y36 y37 y38 y39 y54 z0 => rfl
          refine R_nil (tr _ _ _ _ _ _ _ _ _ _ _ _ _ _ _ _) ?_; clear tr
          refine then_n ?_
          refine at_seq rfl ?_
          refine cdd (fun h5 => ?_) (fun h5 => ?_)
          · try simp only [decide_eq_true_eq, decide_eq_false_iff_not, Bool.not_eq_true', Bool.not_eq_false', beq_iff_eq, beq_eq_false_iff_ne, ne_eq] at h5
            refine at_skip rfl ?_
            refine then_n ?_
            refine at_seq rfl ?_
            refine at_block rfl ?_
            refine at_seq rfl ?_
            refine rg rfl ?_
            refine Rq ?_
            refine Rq ?_
            refine R_alloc (by simp (disch := first | omega | (simp only [List.length_map, List.length_append, List.length_set, List.length_cons, List.length_nil, List.length_take, List.length_drop]; omega)) only [go_sem, ↓reduceIte, Nat.reduceEqDiff, reduceCtorEq]; rfl) rfl (by simp only [List.map_cons, List.map_nil]; rfl) ?_
            refine R_store ty66 (by simp (disch := first | omega | (simp only [List.length_map, List.length_append, List.length_set, List.length_cons, List.length_nil, List.length_take, List.length_drop]; omega)) only [go_sem, ↓reduceIte, Nat.reduceEqDiff, reduceCtorEq]; rfl) (by simp (disch := first | omega | (simp only [List.length_map, List.length_append, List.length_set, List.length_cons, List.length_nil, List.length_take, List.length_drop]; omega)) only [go_sem, ↓reduceIte, Nat.reduceEqDiff, reduceCtorEq]; rfl) (by simp (disch := first | omega | (simp only [List.length_map, List.length_append, List.length_set, List.length_cons, List.length_nil, List.length_take, List.length_drop]; omega)) only [go_sem, ↓reduceIte, Nat.reduceEqDiff, reduceCtorEq]; rfl) (by simp) (by rfl) (by simp (disch := first | omega | (simp only [List.length_map, List.length_append, List.length_set, List.length_cons, List.length_nil, List.length_take, List.length_drop]; omega)) only [go_sem, ↓reduceIte, Nat.reduceEqDiff, reduceCtorEq]; rfl) ?_
            have tr : ∀ y0 y1 y2 y4 y5 y6 y7 y9 y13 y34 y36 y37 y38 y39 y54 z0 z1 z2 : AV, trim [(9, z2), (41, z1), (40, z0), (0, y0), (1, y1), (2, y2), (4, y4), (5, y5), (6, y6), (7, y7), (9, y9), (13, y13), (34, y34), (36, y36), (37, y37), (38, y38), (39, y39), (54, y54)] [(0, y0), (1, y1), (2, y2), (4, y4), (5, y5), (6, y6), (7, y7), (9, y9), (13, y13), (34, y34), (36, y36), (37, y37), (38, y38), (39, y39), (54, y54)] = [(0, y0), (1, y1), (2, y2), (4, y4), (5, y5), (6, y6), (7, y7), (9, z2), (13, y13), (34, y34), (36, y36), (37, y37), (38, y38), (39, y39), (54, y54)] := fun y0 y1 y2 y4 y5 y6 y7 y9 y13 y34 y36 y37 y38 y39 y54 z0 z1 z2 => rfl
            refine R_nil (tr _ _ _ _ _ _ _ _ _ _ _ _ _ _ _ _ _ _) ?_; clear tr
            refine then_n ?_
            refine at_seq rfl ?_
            refine rg rfl ?_
            have he := ge u (by omega)
            refine Rq ?_
            refine Rq ?_
            refine Rq ?_
            refine Rq ?_
            refine Rq ?_
            refine Rq ?_
            refine Rp_split (fun h6 => ?_) (fun h6 => ?_)
            · try simp only [decide_eq_true_eq, decide_eq_false_iff_not, Bool.not_eq_true', Bool.not_eq_false', beq_iff_eq, beq_eq_false_iff_ne, ne_eq] at h6
              refine Ry ?_
              refine Rq ?_
              refine Ry ?_
              refine Rq ?_
              refine Ry ?_
              refine Rq ?_
              refine Ry ?_
              refine Rq ?_
              refine Ry ?_
              refine Rq ?_
              refine Ry ?_
              refine Rq ?_
              refine Rq ?_
              have tr : ∀ y0 y1 y2 y4 y5 y6 y7 y9 y13 y34 y36 y37 y38 y39 y54 z0 z1 z2 z3 z4 z5 z6 z7 z8 z9 z10 z11 z12 : AV, trim [(54, z12), (53, z11), (52, z10), (51, z9), (50, z8), (49, z7), (48, z6), (47, z5), (46, z4), (45, z3), (44, z2), (43, z1), (42, z0), (0, y0), (1, y1), (2, y2), (4, y4), (5, y5), (6, y6), (7, y7), (9, y9), (13, y13), (34, y34), (36, y36), (37, y37), (38, y38), (39, y39), (54, y54)] [(0, y0), (1, y1), (2, y2), (4, y4), (5, y5), (6, y6), (7, y7), (9, y9), (13, y13), (34, y34), (36, y36), (37, y37), (38, y38), (39, y39), (54, y54)] = [(0, y0), (1, y1), (2, y2), (4, y4), (5, y5), (6, y6), (7, y7), (9, y9), (13, y13), (34, y34), (36, y36), (37, y37), (38, y38), (39, y39), (54, z12)] := fun y0 y1 y2 y4 y5 y6 y7 y9 y13 y34 y36 y37 y38 y39 y54 z0 z1 z2 z3 z4 z5 z6 z7 z8 z9 z10 z11 z12 => rfl
              refine R_nil (tr _ _ _ _ _ _ _ _ _ _ _ _ _ _ _ _ _ _ _ _ _ _ _ _ _ _ _ _) ?_; clear tr
              refine then_n ?_
              refine cdd (fun h7 => ?_) (fun h7 => ?_)
              · try simp only [decide_eq_true_eq, decide_eq_false_iff_not, Bool.not_eq_true', Bool.not_eq_false', beq_iff_eq, beq_eq_false_iff_ne, ne_eq] at h7
                refine rg rfl ?_
                refine Rq ?_
                refine Rq ?_
                refine Rq ?_
                refine Rq ?_
                refine Rq ?_
                have tr : ∀ y0 y1 y2 y4 y5 y6 y7 y9 y13 y34 y36 y37 y38 y39 y54 z0 z1 z2 z3 z4 : AV, trim [(7, z4), (58, z3), (57, z2), (56, z1), (55, z0), (0, y0), (1, y1), (2, y2), (4, y4), (5, y5), (6, y6), (7, y7), (9, y9), (13, y13), (34, y34), (36, y36), (37, y37), (38, y38), (39, y39), (54, y54)] [(0, y0), (1, y1), (2, y2), (4, y4), (5, y5), (6, y6), (7, y7), (9, y9), (13, y13), (34, y34), (36, y36), (37, y37), (38, y38), (39, y39), (54, y54)] = [(0, y0), (1, y1), (2, y2), (4, y4), (5, y5), (6, y6), (7, z4), (9, y9), (13, y13), (34, y34), (36, y36), (37, y37), (38, y38), (39, y39), (54, y54)] := fun y0 y1 y2 y4 y5 y6 y7 y9 y13 y34 y36 y37 y38 y39 y54 z0 z1 z2 z3 z4 => rfl
                refine R_nil (tr _ _ _ _ _ _ _ _ _ _ _ _ _ _ _ _ _ _ _ _) ?_; clear tr
                refine blk_n ?_
                refine then_n ?_
                refine rg rfl ?_
                refine Rq ?_
                refine Rq ?_
                have tr : ∀ y0 y1 y2 y4 y5 y6 y7 y9 y13 y34 y36 y37 y38 y39 y54 z0 z1 : AV, trim [(38, z1), (59, z0), (0, y0), (1, y1), (2, y2), (4, y4), (5, y5), (6, y6), (7, y7), (9, y9), (13, y13), (34, y34), (36, y36), (37, y37), (38, y38), (39, y39), (54, y54)] [(0, y0), (1, y1), (2, y2), (4, y4), (5, y5), (6, y6), (7, y7), (9, y9), (13, y13), (34, y34), (36, y36), (37, y37), (38, y38), (39, y39), (54, y54)] = [(0, y0), (1, y1), (2, y2), (4, y4), (5, y5), (6, y6), (7, y7), (9, y9), (13, y13), (34, y34), (36, y36), (37, y37), (38, z1), (39, y39), (54, y54)] := fun y0 y1 y2 y4 y5 y6 y7 y9 y13 y34 y36 y37 y38 y39 y54 z0 z1 => rfl
                refine R_nil (tr _ _ _ _ _ _ _ _ _ _ _ _ _ _ _ _ _) ?_; clear tr
                refine then_n ?_
                exact ⟨_, _, ⟨u + 1, c + (gt E u).c, X ++ [some (edC (gt E u))], _, _, _, rfl, rfl, by simp; rfl, by omega, by rw [capN, hc]; first | rw [if_pos ⟨by assumption, by assumption⟩] | (rw [if_neg (by intro hh; simp_all)]; omega)⟩, by rfl, by omega⟩
              · try simp only [decide_eq_true_eq, decide_eq_false_iff_not, Bool.not_eq_true', Bool.not_eq_false', beq_iff_eq, beq_eq_false_iff_ne, ne_eq] at h7
                refine at_skip rfl ?_
                refine blk_n ?_
                refine then_n ?_
                refine rg rfl ?_
                refine Rq ?_
                refine Rq ?_
                have tr : ∀ y0 y1 y2 y4 y5 y6 y7 y9 y13 y34 y36 y37 y38 y39 y54 z0 z1 : AV, trim [(38, z1), (59, z0), (0, y0), (1, y1), (2, y2), (4, y4), (5, y5), (6, y6), (7, y7), (9, y9), (13, y13), (34, y34), (36, y36), (37, y37), (38, y38), (39, y39), (54, y54)] [(0, y0), (1, y1), (2, y2), (4, y4), (5, y5), (6, y6), (7, y7), (9, y9), (13, y13), (34, y34), (36, y36), (37, y37), (38, y38), (39, y39), (54, y54)] = [(0, y0), (1, y1), (2, y2), (4, y4), (5, y5), (6, y6), (7, y7), (9, y9), (13, y13), (34, y34), (36, y36), (37, y37), (38, z1), (39, y39), (54, y54)] := fun y0 y1 y2 y4 y5 y6 y7 y9 y13 y34 y36 y37 y38 y39 y54 z0 z1 => rfl
                refine R_nil (tr _ _ _ _ _ _ _ _ _ _ _ _ _ _ _ _ _) ?_; clear tr
                refine then_n ?_
                exact ⟨_, _, ⟨u + 1, c, X ++ [some (edC (gt E u))], _, _, _, rfl, rfl, by simp; rfl, by omega, by rw [capN, hc]; first | rw [if_pos ⟨by assumption, by assumption⟩] | (rw [if_neg (by intro hh; simp_all)]; omega)⟩, by rfl, by omega⟩
            · try simp only [decide_eq_true_eq, decide_eq_false_iff_not, Bool.not_eq_true', Bool.not_eq_false', beq_iff_eq, beq_eq_false_iff_ne, ne_eq] at h6
              refine Rn ?_
              refine Rn ?_
              refine Rn ?_
              refine Rn ?_
              refine Rn ?_
              refine Rn ?_
              refine Rq ?_
              have tr : ∀ y0 y1 y2 y4 y5 y6 y7 y9 y13 y34 y36 y37 y38 y39 y54 z0 z1 z2 z3 z4 z5 z6 z7 z8 z9 z10 z11 z12 : AV, trim [(54, z12), (53, z11), (52, z10), (51, z9), (50, z8), (49, z7), (48, z6), (47, z5), (46, z4), (45, z3), (44, z2), (43, z1), (42, z0), (0, y0), (1, y1), (2, y2), (4, y4), (5, y5), (6, y6), (7, y7), (9, y9), (13, y13), (34, y34), (36, y36), (37, y37), (38, y38), (39, y39), (54, y54)] [(0, y0), (1, y1), (2, y2), (4, y4), (5, y5), (6, y6), (7, y7), (9, y9), (13, y13), (34, y34), (36, y36), (37, y37), (38, y38), (39, y39), (54, y54)] = [(0, y0), (1, y1), (2, y2), (4, y4), (5, y5), (6, y6), (7, y7), (9, y9), (13, y13), (34, y34), (36, y36), (37, y37), (38, y38), (39, y39), (54, z12)] := fun y0 y1 y2 y4 y5 y6 y7 y9 y13 y34 y36 y37 y38 y39 y54 z0 z1 z2 z3 z4 z5 z6 z7 z8 z9 z10 z11 z12 => rfl
              refine R_nil (tr _ _ _ _ _ _ _ _ _ _ _ _ _ _ _ _ _ _ _ _ _ _ _ _ _ _ _ _) ?_; clear tr
              refine then_n ?_
              refine cdf ?_
              refine at_skip rfl ?_
              refine blk_n ?_
              refine then_n ?_
              refine rg rfl ?_
              refine Rq ?_
              refine Rq ?_
              have tr : ∀ y0 y1 y2 y4 y5 y6 y7 y9 y13 y34 y36 y37 y38 y39 y54 z0 z1 : AV, trim [(38, z1), (59, z0), (0, y0), (1, y1), (2, y2), (4, y4), (5, y5), (6, y6), (7, y7), (9, y9), (13, y13), (34, y34), (36, y36), (37, y37), (38, y38), (39, y39), (54, y54)] [(0, y0), (1, y1), (2, y2), (4, y4), (5, y5), (6, y6), (7, y7), (9, y9), (13, y13), (34, y34), (36, y36), (37, y37), (38, y38), (39, y39), (54, y54)] = [(0, y0), (1, y1), (2, y2), (4, y4), (5, y5), (6, y6), (7, y7), (9, y9), (13, y13), (34, y34), (36, y36), (37, y37), (38, z1), (39, y39), (54, y54)] := fun y0 y1 y2 y4 y5 y6 y7 y9 y13 y34 y36 y37 y38 y39 y54 z0 z1 => rfl
              refine R_nil (tr _ _ _ _ _ _ _ _ _ _ _ _ _ _ _ _ _) ?_; clear tr
              refine then_n ?_
              exact ⟨_, _, ⟨u + 1, c, X ++ [some (edC (gt E u))], _, _, _, rfl, rfl, by simp; rfl, by omega, by rw [capN, hc]; first | rw [if_pos ⟨by assumption, by assumption⟩] | (rw [if_neg (by intro hh; simp_all)]; omega)⟩, by rfl, by omega⟩
          · try simp only [decide_eq_true_eq, decide_eq_false_iff_not, Bool.not_eq_true', Bool.not_eq_false', beq_iff_eq, beq_eq_false_iff_ne, ne_eq] at h5
            refine at_exit rfl ?_
            refine then_x ?_
            refine then_x ?_
            refine blk_x ?_
            refine then_n ?_
            refine at_seq rfl ?_
            refine rg rfl ?_
            refine Rq ?_
            refine Rq ?_
            refine Rq ?_
            have tr : ∀ y0 y1 y2 y4 y5 y6 y7 y9 y13 y34 y36 y37 y38 y39 y54 z0 z1 z2 : AV, trim [(5, z2), (4, z1), (60, z0), (0, y0), (1, y1), (2, y2), (4, y4), (5, y5), (6, y6), (7, y7), (9, y9), (13, y13), (34, y34), (36, y36), (37, y37), (38, y38), (39, y39), (54, y54)] [(0, y0), (1, y1), (2, y2), (4, y4), (5, y5), (6, y6), (7, y7), (9, y9), (13, y13), (34, y34), (36, y36), (37, y37), (38, y38), (39, y39), (54, y54)] = [(0, y0), (1, y1), (2, y2), (4, z1), (5, z2), (6, y6), (7, y7), (9, y9), (13, y13), (34, y34), (36, y36), (37, y37), (38, y38), (39, y39), (54, y54)] := fun y0 y1 y2 y4 y5 y6 y7 y9 y13 y34 y36 y37 y38 y39 y54 z0 z1 z2 => rfl
            refine R_nil (tr _ _ _ _ _ _ _ _ _ _ _ _ _ _ _ _ _ _) ?_; clear tr
            refine then_n ?_
            refine at_ret rfl ?_
            refine fpure ?_
            refine ⟨?_, rfl⟩
            rw [capS, if_neg (fun hh => hh (by assumption)), if_neg (by simp_all), show E.length = u by omega, hc]

theorem rcap_ok (lim : Nat) (H : Heap) (n s t : Int) (E : List Ed) (cut : List Bool) :
    ACall sig lim 20 [.agg (graphC n s t E), boolsAV cut] H fun r H' => r = .tup [AV.i (capS n s t E cut).1, AV.i (capS n s t E cut).2] ∧ H' = H := by
  refine ACall_pure (fa := fa20) rfl rfl rfl rfl ?_
  have tr : ∀ a0 a1 : AV, env0 fa20.keep [a0, a1] = [(0, a0), (1, a1), (2, .any), (4, .any), (5, .any), (6, .any), (7, .any), (9, .any), (13, .any), (34, .any), (36, .any), (37, .any), (38, .any), (39, .any), (54, .any)] := fun a0 a1 => rfl
  refine W_to (tr _ _) ?_; clear tr
  refine at_seq rfl ?_
  refine rg rfl ?_
  refine R_box rfl (by simp (disch := first | omega | (simp only [List.length_map, List.length_append, List.length_set, List.length_cons, List.length_nil, List.length_take, List.length_drop]; omega)) only [go_sem, ↓reduceIte, Nat.reduceEqDiff, reduceCtorEq]; rfl) rfl rfl ?_
  refine Rq ?_
  refine Rq ?_
  have tr : ∀ y0 y1 y2 y4 y5 y6 y7 y9 y13 y34 y36 y37 y38 y39 y54 z0 z1 z2 : AV, trim [(5, z2), (4, z1), (2, z0), (0, y0), (1, y1), (2, y2), (4, y4), (5, y5), (6, y6), (7, y7), (9, y9), (13, y13), (34, y34), (36, y36), (37, y37), (38, y38), (39, y39), (54, y54)] [(0, y0), (1, y1), (2, y2), (4, y4), (5, y5), (6, y6), (7, y7), (9, y9), (13, y13), (34, y34), (36, y36), (37, y37), (38, y38), (39, y39), (54, y54)] = [(0, y0), (1, y1), (2, z0), (4, z1), (5, z2), (6, y6), (7, y7), (9, y9), (13, y13), (34, y34), (36, y36), (37, y37), (38, y38), (39, y39), (54, y54)] := fun y0 y1 y2 y4 y5 y6 y7 y9 y13 y34 y36 y37 y38 y39 y54 z0 z1 z2 => rfl
  refine R_nil (tr _ _ _ _ _ _ _ _ _ _ _ _ _ _ _ _ _ _) ?_; clear tr
  refine then_n ?_
  refine at_seq rfl ?_
  refine at_seq rfl ?_
  refine rg rfl ?_
  refine Rq ?_
  refine Rcall ?_
  refine ACall_eq (rcheck_ok _ _ n s t E) ?_
  refine Rq ?_
  have tr : ∀ y0 y1 y2 y4 y5 y6 y7 y9 y13 y34 y36 y37 y38 y39 y54 z0 z1 z2 : AV, trim [(6, z2), (11, z1), (10, z0), (0, y0), (1, y1), (2, y2), (4, y4), (5, y5), (6, y6), (7, y7), (9, y9), (13, y13), (34, y34), (36, y36), (37, y37), (38, y38), (39, y39), (54, y54)] [(0, y0), (1, y1), (2, y2), (4, y4), (5, y5), (6, y6), (7, y7), (9, y9), (13, y13), (34, y34), (36, y36), (37, y37), (38, y38), (39, y39), (54, y54)] = [(0, y0), (1, y1), (2, y2), (4, y4), (5, y5), (6, z2), (7, y7), (9, y9), (13, y13), (34, y34), (36, y36), (37, y37), (38, y38), (39, y39), (54, y54)] := fun y0 y1 y2 y4 y5 y6 y7 y9 y13 y34 y36 y37 y38 y39 y54 z0 z1 z2 => rfl
  refine R_nil (tr _ _ _ _ _ _ _ _ _ _ _ _ _ _ _ _ _ _) ?_; clear tr
  refine then_n ?_
  refine at_seq rfl ?_
  refine rg rfl ?_
  refine Rq ?_
  refine Rq ?_
  have tr : ∀ y0 y1 y2 y4 y5 y6 y7 y9 y13 y34 y36 y37 y38 y39 y54 z0 z1 : AV, trim [(13, z1), (12, z0), (0, y0), (1, y1), (2, y2), (4, y4), (5, y5), (6, y6), (7, y7), (9, y9), (13, y13), (34, y34), (36, y36), (37, y37), (38, y38), (39, y39), (54, y54)] [(0, y0), (1, y1), (2, y2), (4, y4), (5, y5), (6, y6), (7, y7), (9, y9), (13, y13), (34, y34), (36, y36), (37, y37), (38, y38), (39, y39), (54, y54)] = [(0, y0), (1, y1), (2, y2), (4, y4), (5, y5), (6, y6), (7, y7), (9, y9), (13, z1), (34, y34), (36, y36), (37, y37), (38, y38), (39, y39), (54, y54)] := fun y0 y1 y2 y4 y5 y6 y7 y9 y13 y34 y36 y37 y38 y39 y54 z0 z1 => rfl
  refine R_nil (tr _ _ _ _ _ _ _ _ _ _ _ _ _ _ _ _ _) ?_; clear tr
  refine then_n ?_
  refine cdd (fun h1 => ?_) (fun h1 => ?_)
  · try simp only [decide_eq_true_eq, decide_eq_false_iff_not, Bool.not_eq_true', Bool.not_eq_false', beq_iff_eq, beq_eq_false_iff_ne, ne_eq] at h1
    refine at_seq rfl ?_
    refine rg rfl ?_
    refine Rq ?_
    refine Rq ?_
    refine Rq ?_
    have tr : ∀ y0 y1 y2 y4 y5 y6 y7 y9 y13 y34 y36 y37 y38 y39 y54 z0 z1 z2 : AV, trim [(5, z2), (4, z1), (14, z0), (0, y0), (1, y1), (2, y2), (4, y4), (5, y5), (6, y6), (7, y7), (9, y9), (13, y13), (34, y34), (36, y36), (37, y37), (38, y38), (39, y39), (54, y54)] [(0, y0), (1, y1), (2, y2), (4, y4), (5, y5), (6, y6), (7, y7), (9, y9), (13, y13), (34, y34), (36, y36), (37, y37), (38, y38), (39, y39), (54, y54)] = [(0, y0), (1, y1), (2, y2), (4, z1), (5, z2), (6, y6), (7, y7), (9, y9), (13, y13), (34, y34), (36, y36), (37, y37), (38, y38), (39, y39), (54, y54)] := fun y0 y1 y2 y4 y5 y6 y7 y9 y13 y34 y36 y37 y38 y39 y54 z0 z1 z2 => rfl
    refine R_nil (tr _ _ _ _ _ _ _ _ _ _ _ _ _ _ _ _ _ _) ?_; clear tr
    refine then_n ?_
    refine at_ret rfl ?_
    refine then_r ?_
    refine fpure ?_
    refine ⟨?_, rfl⟩
    rw [capS, if_pos (by assumption)]
  · try simp only [decide_eq_true_eq, decide_eq_false_iff_not, Bool.not_eq_true', Bool.not_eq_false', beq_iff_eq, beq_eq_false_iff_ne, ne_eq] at h1
    refine at_skip rfl ?_
    refine then_n ?_
    refine at_seq rfl ?_
    refine at_seq rfl ?_
    refine rg rfl ?_
    have g := gok_of (by assumption : gchkS n s t E = 0)
    obtain ⟨g1, g2, g3, g4, g5, g6, g7, g8, ge⟩ := g
    refine Rq ?_
    refine Rq ?_
    refine Rq ?_
    refine Rq ?_
    refine Rq ?_
    refine Rq ?_
    refine Rp_split (fun h2 => ?_) (fun h2 => ?_)
    · try simp only [decide_eq_true_eq, decide_eq_false_iff_not, Bool.not_eq_true', Bool.not_eq_false', beq_iff_eq, beq_eq_false_iff_ne, ne_eq] at h2
      refine Rn ?_
      refine Rn ?_
      refine Rn ?_
      refine Rn ?_
      refine Rn ?_
      refine Rn ?_
      refine Rq ?_
      refine Rq ?_
      refine Rn ?_
      refine Rn ?_
      refine Rn ?_
      refine Rn ?_
      refine Rn ?_
      refine Rq ?_
      have tr : ∀ y0 y1 y2 y4 y5 y6 y7 y9 y13 y34 y36 y37 y38 y39 y54 z0 z1 z2 z3 z4 z5 z6 z7 z8 z9 z10 z11 z12 z13 z14 z15 z16 z17 z18 z19 : AV, trim [(34, z19), (33, z18), (32, z17), (31, z16), (30, z15), (29, z14), (28, z13), (27, z12), (26, z11), (25, z10), (24, z9), (23, z8), (22, z7), (21, z6), (20, z5), (19, z4), (18, z3), (17, z2), (16, z1), (15, z0), (0, y0), (1, y1), (2, y2), (4, y4), (5, y5), (6, y6), (7, y7), (9, y9), (13, y13), (34, y34), (36, y36), (37, y37), (38, y38), (39, y39), (54, y54)] [(0, y0), (1, y1), (2, y2), (4, y4), (5, y5), (6, y6), (7, y7), (9, y9), (13, y13), (34, y34), (36, y36), (37, y37), (38, y38), (39, y39), (54, y54)] = [(0, y0), (1, y1), (2, y2), (4, y4), (5, y5), (6, y6), (7, y7), (9, y9), (13, y13), (34, z19), (36, y36), (37, y37), (38, y38), (39, y39), (54, y54)] := fun y0 y1 y2 y4 y5 y6 y7 y9 y13 y34 y36 y37 y38 y39 y54 z0 z1 z2 z3 z4 z5 z6 z7 z8 z9 z10 z11 z12 z13 z14 z15 z16 z17 z18 z19 => rfl
      refine R_nil (tr _ _ _ _ _ _ _ _ _ _ _ _ _ _ _ _ _ _ _ _ _ _ _ _ _ _ _ _ _ _ _ _ _ _ _) ?_; clear tr
      refine then_n ?_
      refine cdt ?_
      refine at_seq rfl ?_
      refine rg rfl ?_
      refine Rq ?_
      refine Rq ?_
      have tr : ∀ y0 y1 y2 y4 y5 y6 y7 y9 y13 y34 y36 y37 y38 y39 y54 z0 z1 : AV, trim [(5, z1), (4, z0), (0, y0), (1, y1), (2, y2), (4, y4), (5, y5), (6, y6), (7, y7), (9, y9), (13, y13), (34, y34), (36, y36), (37, y37), (38, y38), (39, y39), (54, y54)] [(0, y0), (1, y1), (2, y2), (4, y4), (5, y5), (6, y6), (7, y7), (9, y9), (13, y13), (34, y34), (36, y36), (37, y37), (38, y38), (39, y39), (54, y54)] = [(0, y0), (1, y1), (2, y2), (4, z0), (5, z1), (6, y6), (7, y7), (9, y9), (13, y13), (34, y34), (36, y36), (37, y37), (38, y38), (39, y39), (54, y54)] := fun y0 y1 y2 y4 y5 y6 y7 y9 y13 y34 y36 y37 y38 y39 y54 z0 z1 => rfl
      refine R_nil (tr _ _ _ _ _ _ _ _ _ _ _ _ _ _ _ _ _) ?_; clear tr
      refine then_n ?_
      refine at_ret rfl ?_
      refine then_r ?_
      refine fpure ?_
      refine ⟨?_, rfl⟩
      rw [capS, if_neg (fun hh => hh (by assumption)), if_pos (Or.inl (by omega))]
    · try simp only [decide_eq_true_eq, decide_eq_false_iff_not, Bool.not_eq_true', Bool.not_eq_false', beq_iff_eq, beq_eq_false_iff_ne, ne_eq] at h2
      refine Ry ?_
      refine Rq ?_
      refine Ry ?_
      refine Rq ?_
      refine Ry ?_
      refine Rq ?_
      refine Ry ?_
      refine Rq ?_
      refine Ry ?_
      refine Rq ?_
      refine Ry ?_
      refine Rq ?_
      refine Rq ?_
      refine Rq ?_
      refine Rp_split (fun h3 => ?_) (fun h3 => ?_)
      · try simp only [decide_eq_true_eq, decide_eq_false_iff_not, Bool.not_eq_true', Bool.not_eq_false', beq_iff_eq, beq_eq_false_iff_ne, ne_eq] at h3
        refine Rn ?_
        refine Rn ?_
        refine Rn ?_
        refine Rn ?_
        refine Rn ?_
        refine Rq ?_
        have tr : ∀ y0 y1 y2 y4 y5 y6 y7 y9 y13 y34 y36 y37 y38 y39 y54 z0 z1 z2 z3 z4 z5 z6 z7 z8 z9 z10 z11 z12 z13 z14 z15 z16 z17 z18 z19 : AV, trim [(34, z19), (33, z18), (32, z17), (31, z16), (30, z15), (29, z14), (28, z13), (27, z12), (26, z11), (25, z10), (24, z9), (23, z8), (22, z7), (21, z6), (20, z5), (19, z4), (18, z3), (17, z2), (16, z1), (15, z0), (0, y0), (1, y1), (2, y2), (4, y4), (5, y5), (6, y6), (7, y7), (9, y9), (13, y13), (34, y34), (36, y36), (37, y37), (38, y38), (39, y39), (54, y54)] [(0, y0), (1, y1), (2, y2), (4, y4), (5, y5), (6, y6), (7, y7), (9, y9), (13, y13), (34, y34), (36, y36), (37, y37), (38, y38), (39, y39), (54, y54)] = [(0, y0), (1, y1), (2, y2), (4, y4), (5, y5), (6, y6), (7, y7), (9, y9), (13, y13), (34, z19), (36, y36), (37, y37), (38, y38), (39, y39), (54, y54)] := fun y0 y1 y2 y4 y5 y6 y7 y9 y13 y34 y36 y37 y38 y39 y54 z0 z1 z2 z3 z4 z5 z6 z7 z8 z9 z10 z11 z12 z13 z14 z15 z16 z17 z18 z19 => rfl
        refine R_nil (tr _ _ _ _ _ _ _ _ _ _ _ _ _ _ _ _ _ _ _ _ _ _ _ _ _ _ _ _ _ _ _ _ _ _ _) ?_; clear tr
        refine then_n ?_
        refine cdt ?_
        refine at_seq rfl ?_
        refine rg rfl ?_
        refine Rq ?_
        refine Rq ?_
        have tr : ∀ y0 y1 y2 y4 y5 y6 y7 y9 y13 y34 y36 y37 y38 y39 y54 z0 z1 : AV, trim [(5, z1), (4, z0), (0, y0), (1, y1), (2, y2), (4, y4), (5, y5), (6, y6), (7, y7), (9, y9), (13, y13), (34, y34), (36, y36), (37, y37), (38, y38), (39, y39), (54, y54)] [(0, y0), (1, y1), (2, y2), (4, y4), (5, y5), (6, y6), (7, y7), (9, y9), (13, y13), (34, y34), (36, y36), (37, y37), (38, y38), (39, y39), (54, y54)] = [(0, y0), (1, y1), (2, y2), (4, z0), (5, z1), (6, y6), (7, y7), (9, y9), (13, y13), (34, y34), (36, y36), (37, y37), (38, y38), (39, y39), (54, y54)] := fun y0 y1 y2 y4 y5 y6 y7 y9 y13 y34 y36 y37 y38 y39 y54 z0 z1 => rfl
        refine R_nil (tr _ _ _ _ _ _ _ _ _ _ _ _ _ _ _ _ _) ?_; clear tr
        refine then_n ?_
        refine at_ret rfl ?_
        refine then_r ?_
        refine fpure ?_
        refine ⟨?_, rfl⟩
        rw [capS, if_neg (fun hh => hh (by assumption)), if_pos (Or.inr (Or.inl (by assumption)))]
      · try simp only [decide_eq_true_eq, decide_eq_false_iff_not, Bool.not_eq_true', Bool.not_eq_false', beq_iff_eq, beq_eq_false_iff_ne, ne_eq] at h3
        refine Ry ?_
        refine Rq ?_
        refine Ry ?_
        refine Rq ?_
        refine Ry ?_
        refine Rq ?_
        refine Ry ?_
        refine Rq ?_
        refine Ry ?_
        refine Rq ?_
        refine Rq ?_
        have tr : ∀ y0 y1 y2 y4 y5 y6 y7 y9 y13 y34 y36 y37 y38 y39 y54 z0 z1 z2 z3 z4 z5 z6 z7 z8 z9 z10 z11 z12 z13 z14 z15 z16 z17 z18 z19 : AV, trim [(34, z19), (33, z18), (32, z17), (31, z16), (30, z15), (29, z14), (28, z13), (27, z12), (26, z11), (25, z10), (24, z9), (23, z8), (22, z7), (21, z6), (20, z5), (19, z4), (18, z3), (17, z2), (16, z1), (15, z0), (0, y0), (1, y1), (2, y2), (4, y4), (5, y5), (6, y6), (7, y7), (9, y9), (13, y13), (34, y34), (36, y36), (37, y37), (38, y38), (39, y39), (54, y54)] [(0, y0), (1, y1), (2, y2), (4, y4), (5, y5), (6, y6), (7, y7), (9, y9), (13, y13), (34, y34), (36, y36), (37, y37), (38, y38), (39, y39), (54, y54)] = [(0, y0), (1, y1), (2, y2), (4, y4), (5, y5), (6, y6), (7, y7), (9, y9), (13, y13), (34, z19), (36, y36), (37, y37), (38, y38), (39, y39), (54, y54)] := fun y0 y1 y2 y4 y5 y6 y7 y9 y13 y34 y36 y37 y38 y39 y54 z0 z1 z2 z3 z4 z5 z6 z7 z8 z9 z10 z11 z12 z13 z14 z15 z16 z17 z18 z19 => rfl
        refine R_nil (tr _ _ _ _ _ _ _ _ _ _ _ _ _ _ _ _ _ _ _ _ _ _ _ _ _ _ _ _ _ _ _ _ _ _ _) ?_; clear tr
        refine then_n ?_
        refine cdd (fun h4 => ?_) (fun h4 => ?_)
        · try simp only [decide_eq_true_eq, decide_eq_false_iff_not, Bool.not_eq_true', Bool.not_eq_false', beq_iff_eq, beq_eq_false_iff_ne, ne_eq] at h4
          refine at_seq rfl ?_
          refine rg rfl ?_
          refine Rq ?_
          refine Rq ?_
          have tr : ∀ y0 y1 y2 y4 y5 y6 y7 y9 y13 y34 y36 y37 y38 y39 y54 z0 z1 : AV, trim [(5, z1), (4, z0), (0, y0), (1, y1), (2, y2), (4, y4), (5, y5), (6, y6), (7, y7), (9, y9), (13, y13), (34, y34), (36, y36), (37, y37), (38, y38), (39, y39), (54, y54)] [(0, y0), (1, y1), (2, y2), (4, y4), (5, y5), (6, y6), (7, y7), (9, y9), (13, y13), (34, y34), (36, y36), (37, y37), (38, y38), (39, y39), (54, y54)] = [(0, y0), (1, y1), (2, y2), (4, z0), (5, z1), (6, y6), (7, y7), (9, y9), (13, y13), (34, y34), (36, y36), (37, y37), (38, y38), (39, y39), (54, y54)] := fun y0 y1 y2 y4 y5 y6 y7 y9 y13 y34 y36 y37 y38 y39 y54 z0 z1 => rfl
          refine R_nil (tr _ _ _ _ _ _ _ _ _ _ _ _ _ _ _ _ _) ?_; clear tr
          refine then_n ?_
          refine at_ret rfl ?_
          refine then_r ?_
          refine fpure ?_
          refine ⟨?_, rfl⟩
          rw [capS, if_neg (fun hh => hh (by assumption)), if_pos (Or.inr (Or.inr (by assumption)))]
        · try simp only [decide_eq_true_eq, decide_eq_false_iff_not, Bool.not_eq_true', Bool.not_eq_false', beq_iff_eq, beq_eq_false_iff_ne, ne_eq] at h4
          refine at_skip rfl ?_
          refine then_n ?_
          refine at_seq rfl ?_
          refine rg rfl ?_
          refine Rq ?_
          have tr : ∀ y0 y1 y2 y4 y5 y6 y7 y9 y13 y34 y36 y37 y38 y39 y54 z0 : AV, trim [(7, z0), (0, y0), (1, y1), (2, y2), (4, y4), (5, y5), (6, y6), (7, y7), (9, y9), (13, y13), (34, y34), (36, y36), (37, y37), (38, y38), (39, y39), (54, y54)] [(0, y0), (1, y1), (2, y2), (4, y4), (5, y5), (6, y6), (7, y7), (9, y9), (13, y13), (34, y34), (36, y36), (37, y37), (38, y38), (39, y39), (54, y54)] = [(0, y0), (1, y1), (2, y2), (4, y4), (5, y5), (6, y6), (7, z0), (9, y9), (13, y13), (34, y34), (36, y36), (37, y37), (38, y38), (39, y39), (54, y54)] := fun y0 y1 y2 y4 y5 y6 y7 y9 y13 y34 y36 y37 y38 y39 y54 z0 => rfl
          refine R_nil (tr _ _ _ _ _ _ _ _ _ _ _ _ _ _ _ _) ?_; clear tr
          refine then_n ?_
          refine at_seq rfl ?_
          refine at_seq rfl ?_
          refine rg rfl ?_
          refine Rq ?_
          refine Rq ?_
          refine Rq ?_
          refine Rq ?_
          have tr : ∀ y0 y1 y2 y4 y5 y6 y7 y9 y13 y34 y36 y37 y38 y39 y54 z0 z1 z2 z3 : AV, trim [(38, z3), (37, z2), (36, z1), (35, z0), (0, y0), (1, y1), (2, y2), (4, y4), (5, y5), (6, y6), (7, y7), (9, y9), (13, y13), (34, y34), (36, y36), (37, y37), (38, y38), (39, y39), (54, y54)] [(0, y0), (1, y1), (2, y2), (4, y4), (5, y5), (6, y6), (7, y7), (9, y9), (13, y13), (34, y34), (36, y36), (37, y37), (38, y38), (39, y39), (54, y54)] = [(0, y0), (1, y1), (2, y2), (4, y4), (5, y5), (6, y6), (7, y7), (9, y9), (13, y13), (34, y34), (36, z1), (37, z2), (38, z3), (39, y39), (54, y54)] := fun y0 y1 y2 y4 y5 y6 y7 y9 y13 y34 y36 y37 y38 y39 y54 z0 z1 z2 z3 => rfl
          refine R_nil (tr _ _ _ _ _ _ _ _ _ _ _ _ _ _ _ _ _ _ _) ?_; clear tr
          refine then_n ?_
          refine at_block rfl ?_
          refine loop_n rfl (fun mm kv H' => ∃ u : Nat, ∃ c : Int, ∃ X : Heap, ∃ x9 x39 x54 : AV, (kv = [(7, AV.i c), (9, x9), (38, AV.i u), (39, x39), (54, x54)]) ∧ (mm = E.length - u) ∧ (H' = H ++ [some (graphC n s t E)] ++ X) ∧ (u ≤ E.length) ∧ (c = capN E cut u)) ⟨0, 0, [], _, _, _, rfl, rfl, by simp, by omega, by rfl⟩ (by rfl) ?_
          rintro mm kv H1 ⟨u, c, X, x9, x39, x54, rfl, rfl, hX, hu, hc⟩
          have tr : ∀ y0 y1 y2 y4 y5 y6 y7 y9 y13 y34 y36 y37 y38 y39 y54 z7 z9 z38 z39 z54 : AV, upd [(0, y0), (1, y1), (2, y2), (4, y4), (5, y5), (6, y6), (7, y7), (9, y9), (13, y13), (34, y34), (36, y36), (37, y37), (38, y38), (39, y39), (54, y54)] [(7, z7), (9, z9), (38, z38), (39, z39), (54, z54)] = [(0, y0), (1, y1), (2, y2), (4, y4), (5, y5), (6, y6), (7, z7), (9, z9), (13, y13), (34, y34), (36, y36), (37, y37), (38, z38), (39, z39), (54, z54)] := fun y0 y1 y2 y4 y5 y6 y7 y9 y13 y34 y36 y37 y38 y39 y54 z7 z9 z38 z39 z54 => rfl
          refine W_to (tr _ _ _ _ _ _ _ _ _ _ _ _ _ _ _ _ _ _ _ _) ?_; clear tr
          subst hX
          have hcr := capN_rng (cut := cut) (fun i hi => (ge i hi).2.2.2.2.2) u hu
          refine at_seq rfl ?_
          refine rg rfl ?_
          refine Rq ?_
          have tr : ∀ y0 y1 y2 y4 y5 y6 y7 y9 y13 y34 y36 y37 y38 y39 y54 z0 : AV, trim [(39, z0), (0, y0), (1, y1), (2, y2), (4, y4), (5, y5), (6, y6), (7, y7), (9, y9), (13, y13), (34, y34), (36, y36), (37, y37), (38, y38), (39, y39), (54, y54)] [(0, y0), (1, y1), (2, y2), (4, y4), (5, y5), (6, y6), (7, y7), (9, y9), (13, y13), (34, y34), (36, y36), (37, y37), (38, y38), (39, y39), (54, y54)] = [(0, y0), (1, y1), (2, y2), (4, y4), (5, y5), (6, y6), (7, y7), (9, y9), (13, y13), (34, y34), (36, y36), (37, y37), (38, y38), (39, z0), (54, y54)] := fun y0 y1 y2 y4 y5 y6 y7 y9 y13 y34 y36 y37 y38 y39 y54 z0 => rfl
          refine R_nil (tr _ _ _ _ _ _ _ _ _ _ _ _ _ _ _ _) ?_; clear tr
          refine then_n ?_
          refine at_seq rfl ?_
          refine cdd (fun h5 => ?_) (fun h5 => ?_)
          · try simp only [decide_eq_true_eq, decide_eq_false_iff_not, Bool.not_eq_true', Bool.not_eq_false', beq_iff_eq, beq_eq_false_iff_ne, ne_eq] at h5
            refine at_skip rfl ?_
            refine then_n ?_
            refine at_seq rfl ?_
            refine at_block rfl ?_
            refine at_seq rfl ?_
            refine rg rfl ?_
            refine Rq ?_
            refine Rq ?_
            refine R_alloc (by simp (disch := first | omega | (simp only [List.length_map, List.length_append, List.length_set, List.length_cons, List.length_nil, List.length_take, List.length_drop]; omega)) only [go_sem, ↓reduceIte, Nat.reduceEqDiff, reduceCtorEq]; rfl) rfl (by simp only [List.map_cons, List.map_nil]; rfl) ?_
            refine R_store ty66 (by simp (disch := first | omega | (simp only [List.length_map, List.length_append, List.length_set, List.length_cons, List.length_nil, List.length_take, List.length_drop]; omega)) only [go_sem, ↓reduceIte, Nat.reduceEqDiff, reduceCtorEq]; rfl) (by simp (disch := first | omega | (simp only [List.length_map, List.length_append, List.length_set, List.length_cons, List.length_nil, List.length_take, List.length_drop]; omega)) only [go_sem, ↓reduceIte, Nat.reduceEqDiff, reduceCtorEq]; rfl) (by simp (disch := first | omega | (simp only [List.length_map, List.length_append, List.length_set, List.length_cons, List.length_nil, List.length_take, List.length_drop]; omega)) only [go_sem, ↓reduceIte, Nat.reduceEqDiff, reduceCtorEq]; rfl) (by simp) (by rfl) (by simp (disch := first | omega | (simp only [List.length_map, List.length_append, List.length_set, List.length_cons, List.length_nil, List.length_take, List.length_drop]; omega)) only [go_sem, ↓reduceIte, Nat.reduceEqDiff, reduceCtorEq]; rfl) ?_
            have tr : ∀ y0 y1 y2 y4 y5 y6 y7 y9 y13 y34 y36 y37 y38 y39 y54 z0 z1 z2 : AV, trim [(9, z2), (41, z1), (40, z0), (0, y0), (1, y1), (2, y2), (4, y4), (5, y5), (6, y6), (7, y7), (9, y9), (13, y13), (34, y34), (36, y36), (37, y37), (38, y38), (39, y39), (54, y54)] [(0, y0), (1, y1), (2, y2), (4, y4), (5, y5), (6, y6), (7, y7), (9, y9), (13, y13), (34, y34), (36, y36), (37, y37), (38, y38), (39, y39), (54, y54)] = [(0, y0), (1, y1), (2, y2), (4, y4), (5, y5), (6, y6), (7, y7), (9, z2), (13, y13), (34, y34), (36, y36), (37, y37), (38, y38), (39, y39), (54, y54)] := fun y0 y1 y2 y4 y5 y6 y7 y9 y13 y34 y36 y37 y38 y39 y54 z0 z1 z2 => rfl
            refine R_nil (tr _ _ _ _ _ _ _ _ _ _ _ _ _ _ _ _ _ _) ?_; clear tr
            refine then_n ?_
            refine at_seq rfl ?_
            refine rg rfl ?_
            have he := ge u (by omega)
            refine Rq ?_
            refine Rq ?_
            refine Rq ?_
            refine Rq ?_
            refine Rq ?_
            refine Rq ?_
            refine Rp_split (fun h6 => ?_) (fun h6 => ?_)
            · try simp only [decide_eq_true_eq, decide_eq_false_iff_not, Bool.not_eq_true', Bool.not_eq_false', beq_iff_eq, beq_eq_false_iff_ne, ne_eq] at h6
              refine Ry ?_
              refine Rq ?_
              refine Ry ?_
              refine Rq ?_
              refine Ry ?_
              refine Rq ?_
              refine Ry ?_
              refine Rq ?_
              refine Ry ?_
              refine Rq ?_
              refine Ry ?_
              refine Rq ?_
              refine Rq ?_
              have tr : ∀ y0 y1 y2 y4 y5 y6 y7 y9 y13 y34 y36 y37 y38 y39 y54 z0 z1 z2 z3 z4 z5 z6 z7 z8 z9 z10 z11 z12 : AV, trim [(54, z12), (53, z11), (52, z10), (51, z9), (50, z8), (49, z7), (48, z6), (47, z5), (46, z4), (45, z3), (44, z2), (43, z1), (42, z0), (0, y0), (1, y1), (2, y2), (4, y4), (5, y5), (6, y6), (7, y7), (9, y9), (13, y13), (34, y34), (36, y36), (37, y37), (38, y38), (39, y39), (54, y54)] [(0, y0), (1, y1), (2, y2), (4, y4), (5, y5), (6, y6), (7, y7), (9, y9), (13, y13), (34, y34), (36, y36), (37, y37), (38, y38), (39, y39), (54, y54)] = [(0, y0), (1, y1), (2, y2), (4, y4), (5, y5), (6, y6), (7, y7), (9, y9), (13, y13), (34, y34), (36, y36), (37, y37), (38, y38), (39, y39), (54, z12)] := fun y0 y1 y2 y4 y5 y6 y7 y9 y13 y34 y36 y37 y38 y39 y54 z0 z1 z2 z3 z4 z5 z6 z7 z8 z9 z10 z11 z12 => rfl
              refine R_nil (tr _ _ _ _ _ _ _ _ _ _ _ _ _ _ _ _ _ _ _ _ _ _ _ _ _ _ _ _) ?_; clear tr
              refine then_n ?_
              refine cdd (fun h7 => ?_) (fun h7 => ?_)
              · try simp only [decide_eq_true_eq, decide_eq_false_iff_not, Bool.not_eq_true', Bool.not_eq_false', beq_iff_eq, beq_eq_false_iff_ne, ne_eq] at h7
                refine rg rfl ?_
                refine Rq ?_
                refine Rq ?_
                refine Rq ?_
                refine Rq ?_
                refine Rq ?_
                have tr : ∀ y0 y1 y2 y4 y5 y6 y7 y9 y13 y34 y36 y37 y38 y39 y54 z0 z1 z2 z3 z4 : AV, trim [(7, z4), (58, z3), (57, z2), (56, z1), (55, z0), (0, y0), (1, y1), (2, y2), (4, y4), (5, y5), (6, y6), (7, y7), (9, y9), (13, y13), (34, y34), (36, y36), (37, y37), (38, y38), (39, y39), (54, y54)] [(0, y0), (1, y1), (2, y2), (4, y4), (5, y5), (6, y6), (7, y7), (9, y9), (13, y13), (34, y34), (36, y36), (37, y37), (38, y38), (39, y39), (54, y54)] = [(0, y0), (1, y1), (2, y2), (4, y4), (5, y5), (6, y6), (7, z4), (9, y9), (13, y13), (34, y34), (36, y36), (37, y37), (38, y38), (39, y39), (54, y54)] := fun y0 y1 y2 y4 y5 y6 y7 y9 y13 y34 y36 y37 y38 y39 y54 z0 z1 z2 z3 z4 => rfl
                refine R_nil (tr _ _ _ _ _ _ _ _ _ _ _ _ _ _ _ _ _ _ _ _) ?_; clear tr
                refine blk_n ?_
                refine then_n ?_
                refine rg rfl ?_
                refine Rq ?_
                refine Rq ?_
                have tr : ∀ y0 y1 y2 y4 y5 y6 y7 y9 y13 y34 y36 y37 y38 y39 y54 z0 z1 : AV, trim [(38, z1), (59, z0), (0, y0), (1, y1), (2, y2), (4, y4), (5, y5), (6, y6), (7, y7), (9, y9), (13, y13), (34, y34), (36, y36), (37, y37), (38, y38), (39, y39), (54, y54)] [(0, y0), (1, y1), (2, y2), (4, y4), (5, y5), (6, y6), (7, y7), (9, y9), (13, y13), (34, y34), (36, y36), (37, y37), (38, y38), (39, y39), (54, y54)] = [(0, y0), (1, y1), (2, y2), (4, y4), (5, y5), (6, y6), (7, y7), (9, y9), (13, y13), (34, y34), (36, y36), (37, y37), (38, z1), (39, y39), (54, y54)] := fun y0 y1 y2 y4 y5 y6 y7 y9 y13 y34 y36 y37 y38 y39 y54 z0 z1 => rfl
                refine R_nil (tr _ _ _ _ _ _ _ _ _ _ _ _ _ _ _ _ _) ?_; clear tr
                refine then_n ?_
                exact ⟨_, _, ⟨u + 1, c + (gt E u).c, X ++ [some (edC (gt E u))], _, _, _, rfl, rfl, by simp; rfl, by omega, by rw [capN, hc]; first | rw [if_pos ⟨by assumption, by assumption⟩] | (rw [if_neg (by intro hh; simp_all)]; omega)⟩, by rfl, by omega⟩
              · try simp only [decide_eq_true_eq, decide_eq_false_iff_not, Bool.not_eq_true', Bool.not_eq_false', beq_iff_eq, beq_eq_false_iff_ne, ne_eq] at h7
                refine at_skip rfl ?_
                refine blk_n ?_
                refine then_n ?_
                refine rg rfl ?_
                refine Rq ?_
                refine Rq ?_
                have tr : ∀ y0 y1 y2 y4 y5 y6 y7 y9 y13 y34 y36 y37 y38 y39 y54 z0 z1 : AV, trim [(38, z1), (59, z0), (0, y0), (1, y1), (2, y2), (4, y4), (5, y5), (6, y6), (7, y7), (9, y9), (13, y13), (34, y34), (36, y36), (37, y37), (38, y38), (39, y39), (54, y54)] [(0, y0), (1, y1), (2, y2), (4, y4), (5, y5), (6, y6), (7, y7), (9, y9), (13, y13), (34, y34), (36, y36), (37, y37), (38, y38), (39, y39), (54, y54)] = [(0, y0), (1, y1), (2, y2), (4, y4), (5, y5), (6, y6), (7, y7), (9, y9), (13, y13), (34, y34), (36, y36), (37, y37), (38, z1), (39, y39), (54, y54)] := fun y0 y1 y2 y4 y5 y6 y7 y9 y13 y34 y36 y37 y38 y39 y54 z0 z1 => rfl
                refine R_nil (tr _ _ _ _ _ _ _ _ _ _ _ _ _ _ _ _ _) ?_; clear tr
                refine then_n ?_
                exact ⟨_, _, ⟨u + 1, c, X ++ [some (edC (gt E u))], _, _, _, rfl, rfl, by simp; rfl, by omega, by rw [capN, hc]; first | rw [if_pos ⟨by assumption, by assumption⟩] | (rw [if_neg (by intro hh; simp_all)]; omega)⟩, by rfl, by omega⟩
            · try simp only [decide_eq_true_eq, decide_eq_false_iff_not, Bool.not_eq_true', Bool.not_eq_false', beq_iff_eq, beq_eq_false_iff_ne, ne_eq] at h6
              refine Rn ?_
              refine Rn ?_
              refine Rn ?_
              refine Rn ?_
              refine Rn ?_
              refine Rn ?_
              refine Rq ?_
              have tr : ∀ y0 y1 y2 y4 y5 y6 y7 y9 y13 y34 y36 y37 y38 y39 y54 z0 z1 z2 z3 z4 z5 z6 z7 z8 z9 z10 z11 z12 : AV, trim [(54, z12), (53, z11), (52, z10), (51, z9), (50, z8), (49, z7), (48, z6), (47, z5), (46, z4), (45, z3), (44, z2), (43, z1), (42, z0), (0, y0), (1, y1), (2, y2), (4, y4), (5, y5), (6, y6), (7, y7), (9, y9), (13, y13), (34, y34), (36, y36), (37, y37), (38, y38), (39, y39), (54, y54)] [(0, y0), (1, y1), (2, y2), (4, y4), (5, y5), (6, y6), (7, y7), (9, y9), (13, y13), (34, y34), (36, y36), (37, y37), (38, y38), (39, y39), (54, y54)] = [(0, y0), (1, y1), (2, y2), (4, y4), (5, y5), (6, y6), (7, y7), (9, y9), (13, y13), (34, y34), (36, y36), (37, y37), (38, y38), (39, y39), (54, z12)] := fun y0 y1 y2 y4 y5 y6 y7 y9 y13 y34 y36 y37 y38 y39 y54 z0 z1 z2 z3 z4 z5 z6 z7 z8 z9 z10 z11 z12 => rfl
              refine R_nil (tr _ _ _ _ _ _ _ _ _ _ _ _ _ _ _ _ _ _ _ _ _ _ _ _ _ _ _ _) ?_; clear tr
              refine then_n ?_
              refine cdf ?_
              refine at_skip rfl ?_
              refine blk_n ?_
              refine then_n ?_
              refine rg rfl ?_
              refine Rq ?_
              refine Rq ?_
              have tr : ∀ y0 y1 y2 y4 y5 y6 y7 y9 y13 y34 y36 y37 y38 y39 y54 z0 z1 : AV, trim [(38, z1), (59, z0), (0, y0), (1, y1), (2, y2), (4, y4), (5, y5), (6, y6), (7, y7), (9, y9), (13, y13), (34, y34), (36, y36), (37, y37), (38, y38), (39, y39), (54, y54)] [(0, y0), (1, y1), (2, y2), (4, y4), (5, y5), (6, y6), (7, y7), (9, y9), (13, y13), (34, y34), (36, y36), (37, y37), (38, y38), (39, y39), (54, y54)] = [(0, y0), (1, y1), (2, y2), (4, y4), (5, y5), (6, y6), (7, y7), (9, y9), (13, y13), (34, y34), (36, y36), (37, y37), (38, z1), (39, y39), (54, y54)] := fun y0 y1 y2 y4 y5 y6 y7 y9 y13 y34 y36 y37 y38 y39 y54 z0 z1 => rfl
              refine R_nil (tr _ _ _ _ _ _ _ _ _ _ _ _ _ _ _ _ _) ?_; clear tr
              refine then_n ?_
              exact ⟨_, _, ⟨u + 1, c, X ++ [some (edC (gt E u))], _, _, _, rfl, rfl, by simp; rfl, by omega, by rw [capN, hc]; first | rw [if_pos ⟨by assumption, by assumption⟩] | (rw [if_neg (by intro hh; simp_all)]; omega)⟩, by rfl, by omega⟩
          · try simp only [decide_eq_true_eq, decide_eq_false_iff_not, Bool.not_eq_true', Bool.not_eq_false', beq_iff_eq, beq_eq_false_iff_ne, ne_eq] at h5
            refine at_exit rfl ?_
            refine then_x ?_
            refine then_x ?_
            refine blk_x ?_
            refine then_n ?_
            refine at_seq rfl ?_
            refine rg rfl ?_
            refine Rq ?_
            refine Rq ?_
            refine Rq ?_
            have tr : ∀ y0 y1 y2 y4 y5 y6 y7 y9 y13 y34 y36 y37 y38 y39 y54 z0 z1 z2 : AV, trim [(5, z2), (4, z1), (60, z0), (0, y0), (1, y1), (2, y2), (4, y4), (5, y5), (6, y6), (7, y7), (9, y9), (13, y13), (34, y34), (36, y36), (37, y37), (38, y38), (39, y39), (54, y54)] [(0, y0), (1, y1), (2, y2), (4, y4), (5, y5), (6, y6), (7, y7), (9, y9), (13, y13), (34, y34), (36, y36), (37, y37), (38, y38), (39, y39), (54, y54)] = [(0, y0), (1, y1), (2, y2), (4, z1), (5, z2), (6, y6), (7, y7), (9, y9), (13, y13), (34, y34), (36, y36), (37, y37), (38, y38), (39, y39), (54, y54)] := fun y0 y1 y2 y4 y5 y6 y7 y9 y13 y34 y36 y37 y38 y39 y54 z0 z1 z2 => rfl
            refine R_nil (tr _ _ _ _ _ _ _ _ _ _ _ _ _ _ _ _ _ _) ?_; clear tr
            refine then_n ?_
            refine at_ret rfl ?_
            refine fpure ?_
            refine ⟨?_, rfl⟩
            rw [capS, if_neg (fun hh => hh (by assumption)), if_neg (by simp_all), show E.length = u by omega, hc]

end Go.Proofs.Ytdicnojnkbmdlaa
