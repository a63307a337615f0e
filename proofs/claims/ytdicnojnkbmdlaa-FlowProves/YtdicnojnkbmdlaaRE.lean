/-
  Walks of chapters 52 and 53. The steps are written by program (walk.py).
-/
import Derived.Test.YtdicnojnkbmdlaaRC
import Derived.Test.YtdicnojnkbmdlaaRD
set_option linter.unusedSimpArgs false
set_option linter.unusedVariables false
set_option maxHeartbeats 40000000
set_option maxRecDepth 4000
namespace Go.Proofs.Ytdicnojnkbmdlaa
open Go Go.Am

theorem accept_ok (lim : Nat) (H : Heap) (n s t : Int) (E : List Ed) (f : List Int) (cut : List Bool) :
    ACall sig lim 25 [.agg (graphC n s t E), intsAV f, boolsAV cut] H fun r H' => r = AV.i (acceptS n s t E f cut) ∧ H' = H := by
  refine ACall_pure (fa := fa25) rfl rfl rfl rfl ?_
  have tr : ∀ a0 a1 a2 : AV, env0 fa25.keep [a0, a1, a2] = [(0, a0), (1, a1), (2, a2), (3, .any), (6, .any), (7, .any), (8, .any), (9, .any), (17, .any), (25, .any), (29, .any)] := fun a0 a1 a2 => rfl
  refine W_to (tr _ _ _) ?_; clear tr
  refine at_seq rfl ?_
  refine rg rfl ?_
  refine R_box rfl (by simp (disch := first | omega | (simp only [List.length_map, List.length_append, List.length_set, List.length_cons, List.length_nil, List.length_take, List.length_drop]; omega)) only [go_sem, ↓reduceIte, Nat.reduceEqDiff, reduceCtorEq]; rfl) rfl rfl ?_
  refine Rq ?_
  have tr : ∀ y0 y1 y2 y3 y6 y7 y8 y9 y17 y25 y29 z0 z1 : AV, trim [(6, z1), (3, z0), (0, y0), (1, y1), (2, y2), (3, y3), (6, y6), (7, y7), (8, y8), (9, y9), (17, y17), (25, y25), (29, y29)] [(0, y0), (1, y1), (2, y2), (3, y3), (6, y6), (7, y7), (8, y8), (9, y9), (17, y17), (25, y25), (29, y29)] = [(0, y0), (1, y1), (2, y2), (3, z0), (6, z1), (7, y7), (8, y8), (9, y9), (17, y17), (25, y25), (29, y29)] := fun y0 y1 y2 y3 y6 y7 y8 y9 y17 y25 y29 z0 z1 => rfl
  refine R_nil (tr _ _ _ _ _ _ _ _ _ _ _ _ _) ?_; clear tr
  refine then_n ?_
  refine at_seq rfl ?_
  refine rg rfl ?_
  refine Rq ?_
  refine Rq ?_
  refine Rcall ?_
  refine ACall_eq (value_ok _ _ n s t E f) ?_
  refine Rq ?_
  refine Rq ?_
  refine Rq ?_
  refine Rq ?_
  refine Rq ?_
  have tr : ∀ y0 y1 y2 y3 y6 y7 y8 y9 y17 y25 y29 z0 z1 z2 z3 z4 z5 z6 z7 : AV, trim [(8, z7), (7, z6), (15, z5), (14, z4), (10, z3), (13, z2), (12, z1), (11, z0), (0, y0), (1, y1), (2, y2), (3, y3), (6, y6), (7, y7), (8, y8), (9, y9), (17, y17), (25, y25), (29, y29)] [(0, y0), (1, y1), (2, y2), (3, y3), (6, y6), (7, y7), (8, y8), (9, y9), (17, y17), (25, y25), (29, y29)] = [(0, y0), (1, y1), (2, y2), (3, y3), (6, y6), (7, z6), (8, z7), (9, y9), (17, y17), (25, y25), (29, y29)] := fun y0 y1 y2 y3 y6 y7 y8 y9 y17 y25 y29 z0 z1 z2 z3 z4 z5 z6 z7 => rfl
  refine R_nil (tr _ _ _ _ _ _ _ _ _ _ _ _ _ _ _ _ _ _ _) ?_; clear tr
  refine then_n ?_
  refine at_seq rfl ?_
  refine at_seq rfl ?_
  refine rg rfl ?_
  refine Rq ?_
  refine Rq ?_
  have tr : ∀ y0 y1 y2 y3 y6 y7 y8 y9 y17 y25 y29 z0 z1 : AV, trim [(17, z1), (16, z0), (0, y0), (1, y1), (2, y2), (3, y3), (6, y6), (7, y7), (8, y8), (9, y9), (17, y17), (25, y25), (29, y29)] [(0, y0), (1, y1), (2, y2), (3, y3), (6, y6), (7, y7), (8, y8), (9, y9), (17, y17), (25, y25), (29, y29)] = [(0, y0), (1, y1), (2, y2), (3, y3), (6, y6), (7, y7), (8, y8), (9, y9), (17, z1), (25, y25), (29, y29)] := fun y0 y1 y2 y3 y6 y7 y8 y9 y17 y25 y29 z0 z1 => rfl
  refine R_nil (tr _ _ _ _ _ _ _ _ _ _ _ _ _) ?_; clear tr
  refine then_n ?_
  refine cdd (fun h1 => ?_) (fun h1 => ?_)
  · try simp only [decide_eq_true_eq, decide_eq_false_iff_not, Bool.not_eq_true', Bool.not_eq_false', beq_iff_eq, beq_eq_false_iff_ne, ne_eq] at h1
    refine at_seq rfl ?_
    refine rg rfl ?_
    refine Rq ?_
    refine Rq ?_
    have tr : ∀ y0 y1 y2 y3 y6 y7 y8 y9 y17 y25 y29 z0 z1 : AV, trim [(6, z1), (18, z0), (0, y0), (1, y1), (2, y2), (3, y3), (6, y6), (7, y7), (8, y8), (9, y9), (17, y17), (25, y25), (29, y29)] [(0, y0), (1, y1), (2, y2), (3, y3), (6, y6), (7, y7), (8, y8), (9, y9), (17, y17), (25, y25), (29, y29)] = [(0, y0), (1, y1), (2, y2), (3, y3), (6, z1), (7, y7), (8, y8), (9, y9), (17, y17), (25, y25), (29, y29)] := fun y0 y1 y2 y3 y6 y7 y8 y9 y17 y25 y29 z0 z1 => rfl
    refine R_nil (tr _ _ _ _ _ _ _ _ _ _ _ _ _) ?_; clear tr
    refine then_n ?_
    refine at_ret rfl ?_
    refine then_r ?_
    refine fpure ?_
    refine ⟨?_, rfl⟩
    rw [acceptS, if_pos (by assumption)]
  · try simp only [decide_eq_true_eq, decide_eq_false_iff_not, Bool.not_eq_true', Bool.not_eq_false', beq_iff_eq, beq_eq_false_iff_ne, ne_eq] at h1
    refine at_skip rfl ?_
    refine then_n ?_
    refine at_seq rfl ?_
    refine rg rfl ?_
    refine Rq ?_
    refine Rq ?_
    refine Rcall ?_
    refine ACall_eq (cap_ok _ _ n s t E cut) ?_
    refine Rq ?_
    refine Rq ?_
    refine Rq ?_
    refine Rq ?_
    refine Rq ?_
    have tr : ∀ y0 y1 y2 y3 y6 y7 y8 y9 y17 y25 y29 z0 z1 z2 z3 z4 z5 z6 z7 : AV, trim [(8, z7), (9, z6), (24, z5), (23, z4), (19, z3), (22, z2), (21, z1), (20, z0), (0, y0), (1, y1), (2, y2), (3, y3), (6, y6), (7, y7), (8, y8), (9, y9), (17, y17), (25, y25), (29, y29)] [(0, y0), (1, y1), (2, y2), (3, y3), (6, y6), (7, y7), (8, y8), (9, y9), (17, y17), (25, y25), (29, y29)] = [(0, y0), (1, y1), (2, y2), (3, y3), (6, y6), (7, y7), (8, z7), (9, z6), (17, y17), (25, y25), (29, y29)] := fun y0 y1 y2 y3 y6 y7 y8 y9 y17 y25 y29 z0 z1 z2 z3 z4 z5 z6 z7 => rfl
    refine R_nil (tr _ _ _ _ _ _ _ _ _ _ _ _ _ _ _ _ _ _ _) ?_; clear tr
    refine then_n ?_
    refine at_seq rfl ?_
    refine at_block rfl ?_
    refine at_seq rfl ?_
    refine rg rfl ?_
    refine Rq ?_
    refine Rq ?_
    refine Rq ?_
    have tr : ∀ y0 y1 y2 y3 y6 y7 y8 y9 y17 y25 y29 z0 z1 z2 : AV, trim [(25, z2), (27, z1), (26, z0), (0, y0), (1, y1), (2, y2), (3, y3), (6, y6), (7, y7), (8, y8), (9, y9), (17, y17), (25, y25), (29, y29)] [(0, y0), (1, y1), (2, y2), (3, y3), (6, y6), (7, y7), (8, y8), (9, y9), (17, y17), (25, y25), (29, y29)] = [(0, y0), (1, y1), (2, y2), (3, y3), (6, y6), (7, y7), (8, y8), (9, y9), (17, y17), (25, z2), (29, y29)] := fun y0 y1 y2 y3 y6 y7 y8 y9 y17 y25 y29 z0 z1 z2 => rfl
    refine R_nil (tr _ _ _ _ _ _ _ _ _ _ _ _ _ _) ?_; clear tr
    refine then_n ?_
    refine cdd (fun h2 => ?_) (fun h2 => ?_)
    · try simp only [decide_eq_true_eq, decide_eq_false_iff_not, Bool.not_eq_true', Bool.not_eq_false', beq_iff_eq, beq_eq_false_iff_ne, ne_eq] at h2
      refine at_seq rfl ?_
      refine rg rfl ?_
      refine Rq ?_
      refine Rq ?_
      have tr : ∀ y0 y1 y2 y3 y6 y7 y8 y9 y17 y25 y29 z0 z1 : AV, trim [(6, z1), (28, z0), (0, y0), (1, y1), (2, y2), (3, y3), (6, y6), (7, y7), (8, y8), (9, y9), (17, y17), (25, y25), (29, y29)] [(0, y0), (1, y1), (2, y2), (3, y3), (6, y6), (7, y7), (8, y8), (9, y9), (17, y17), (25, y25), (29, y29)] = [(0, y0), (1, y1), (2, y2), (3, y3), (6, z1), (7, y7), (8, y8), (9, y9), (17, y17), (25, y25), (29, y29)] := fun y0 y1 y2 y3 y6 y7 y8 y9 y17 y25 y29 z0 z1 => rfl
      refine R_nil (tr _ _ _ _ _ _ _ _ _ _ _ _ _) ?_; clear tr
      refine then_n ?_
      refine at_ret rfl ?_
      refine blk_r ?_
      refine then_r ?_
      refine fpure ?_
      refine ⟨?_, rfl⟩
      rw [acceptS, if_neg (fun hh => hh (by assumption)), if_pos (by assumption)]
    · try simp only [decide_eq_true_eq, decide_eq_false_iff_not, Bool.not_eq_true', Bool.not_eq_false', beq_iff_eq, beq_eq_false_iff_ne, ne_eq] at h2
      refine at_seq rfl ?_
      refine rg rfl ?_
      refine Rq ?_
      refine Rq ?_
      refine Rq ?_
      refine Rq ?_
      have tr : ∀ y0 y1 y2 y3 y6 y7 y8 y9 y17 y25 y29 z0 z1 z2 z3 : AV, trim [(29, z3), (32, z2), (31, z1), (30, z0), (0, y0), (1, y1), (2, y2), (3, y3), (6, y6), (7, y7), (8, y8), (9, y9), (17, y17), (25, y25), (29, y29)] [(0, y0), (1, y1), (2, y2), (3, y3), (6, y6), (7, y7), (8, y8), (9, y9), (17, y17), (25, y25), (29, y29)] = [(0, y0), (1, y1), (2, y2), (3, y3), (6, y6), (7, y7), (8, y8), (9, y9), (17, y17), (25, y25), (29, z3)] := fun y0 y1 y2 y3 y6 y7 y8 y9 y17 y25 y29 z0 z1 z2 z3 => rfl
      refine R_nil (tr _ _ _ _ _ _ _ _ _ _ _ _ _ _ _) ?_; clear tr
      refine then_n ?_
      refine cdd (fun h3 => ?_) (fun h3 => ?_)
      · try simp only [decide_eq_true_eq, decide_eq_false_iff_not, Bool.not_eq_true', Bool.not_eq_false', beq_iff_eq, beq_eq_false_iff_ne, ne_eq] at h3
        refine at_seq rfl ?_
        refine rg rfl ?_
        refine Rq ?_
        have tr : ∀ y0 y1 y2 y3 y6 y7 y8 y9 y17 y25 y29 z0 : AV, trim [(6, z0), (0, y0), (1, y1), (2, y2), (3, y3), (6, y6), (7, y7), (8, y8), (9, y9), (17, y17), (25, y25), (29, y29)] [(0, y0), (1, y1), (2, y2), (3, y3), (6, y6), (7, y7), (8, y8), (9, y9), (17, y17), (25, y25), (29, y29)] = [(0, y0), (1, y1), (2, y2), (3, y3), (6, z0), (7, y7), (8, y8), (9, y9), (17, y17), (25, y25), (29, y29)] := fun y0 y1 y2 y3 y6 y7 y8 y9 y17 y25 y29 z0 => rfl
        refine R_nil (tr _ _ _ _ _ _ _ _ _ _ _ _) ?_; clear tr
        refine then_n ?_
        refine at_ret rfl ?_
        refine blk_r ?_
        refine then_r ?_
        refine fpure ?_
        refine ⟨?_, rfl⟩
        rw [acceptS, if_neg (fun hh => hh (by assumption)), if_neg (fun hh => hh (by assumption)), if_pos (by omega)]
      · try simp only [decide_eq_true_eq, decide_eq_false_iff_not, Bool.not_eq_true', Bool.not_eq_false', beq_iff_eq, beq_eq_false_iff_ne, ne_eq] at h3
        refine at_skip rfl ?_
        refine blk_n ?_
        refine then_n ?_
        refine at_seq rfl ?_
        refine rg rfl ?_
        refine Rq ?_
        have tr : ∀ y0 y1 y2 y3 y6 y7 y8 y9 y17 y25 y29 z0 : AV, trim [(6, z0), (0, y0), (1, y1), (2, y2), (3, y3), (6, y6), (7, y7), (8, y8), (9, y9), (17, y17), (25, y25), (29, y29)] [(0, y0), (1, y1), (2, y2), (3, y3), (6, y6), (7, y7), (8, y8), (9, y9), (17, y17), (25, y25), (29, y29)] = [(0, y0), (1, y1), (2, y2), (3, y3), (6, z0), (7, y7), (8, y8), (9, y9), (17, y17), (25, y25), (29, y29)] := fun y0 y1 y2 y3 y6 y7 y8 y9 y17 y25 y29 z0 => rfl
        refine R_nil (tr _ _ _ _ _ _ _ _ _ _ _ _) ?_; clear tr
        refine then_n ?_
        refine at_ret rfl ?_
        refine fpure ?_
        refine ⟨?_, rfl⟩
        rw [acceptS, if_neg (fun hh => hh (by assumption)), if_neg (fun hh => hh (by assumption)), if_neg (by omega)]

theorem raccept_ok (lim : Nat) (H : Heap) (n s t : Int) (E : List Ed) (f : List Int) (cut : List Bool) :
    ACall sig lim 26 [.agg (graphC n s t E), intsAV f, boolsAV cut] H fun r H' => r = AV.i (acceptS n s t E f cut) ∧ H' = H := by
  refine ACall_pure (fa := fa26) rfl rfl rfl rfl ?_
  have tr : ∀ a0 a1 a2 : AV, env0 fa26.keep [a0, a1, a2] = [(0, a0), (1, a1), (2, a2), (3, .any), (6, .any), (7, .any), (8, .any), (9, .any), (17, .any), (26, .any), (30, .any)] := fun a0 a1 a2 => rfl
  refine W_to (tr _ _ _) ?_; clear tr
  refine at_seq rfl ?_
  refine rg rfl ?_
  refine R_box rfl (by simp (disch := first | omega | (simp only [List.length_map, List.length_append, List.length_set, List.length_cons, List.length_nil, List.length_take, List.length_drop]; omega)) only [go_sem, ↓reduceIte, Nat.reduceEqDiff, reduceCtorEq]; rfl) rfl rfl ?_
  refine Rq ?_
  have tr : ∀ y0 y1 y2 y3 y6 y7 y8 y9 y17 y26 y30 z0 z1 : AV, trim [(6, z1), (3, z0), (0, y0), (1, y1), (2, y2), (3, y3), (6, y6), (7, y7), (8, y8), (9, y9), (17, y17), (26, y26), (30, y30)] [(0, y0), (1, y1), (2, y2), (3, y3), (6, y6), (7, y7), (8, y8), (9, y9), (17, y17), (26, y26), (30, y30)] = [(0, y0), (1, y1), (2, y2), (3, z0), (6, z1), (7, y7), (8, y8), (9, y9), (17, y17), (26, y26), (30, y30)] := fun y0 y1 y2 y3 y6 y7 y8 y9 y17 y26 y30 z0 z1 => rfl
  refine R_nil (tr _ _ _ _ _ _ _ _ _ _ _ _ _) ?_; clear tr
  refine then_n ?_
  refine at_seq rfl ?_
  refine rg rfl ?_
  refine Rq ?_
  refine Rq ?_
  refine Rcall ?_
  refine ACall_eq (rvalue_ok _ _ n s t E f) ?_
  refine Rq ?_
  refine Rq ?_
  refine Rq ?_
  refine Rq ?_
  refine Rq ?_
  have tr : ∀ y0 y1 y2 y3 y6 y7 y8 y9 y17 y26 y30 z0 z1 z2 z3 z4 z5 z6 z7 : AV, trim [(8, z7), (7, z6), (15, z5), (14, z4), (10, z3), (13, z2), (12, z1), (11, z0), (0, y0), (1, y1), (2, y2), (3, y3), (6, y6), (7, y7), (8, y8), (9, y9), (17, y17), (26, y26), (30, y30)] [(0, y0), (1, y1), (2, y2), (3, y3), (6, y6), (7, y7), (8, y8), (9, y9), (17, y17), (26, y26), (30, y30)] = [(0, y0), (1, y1), (2, y2), (3, y3), (6, y6), (7, z6), (8, z7), (9, y9), (17, y17), (26, y26), (30, y30)] := fun y0 y1 y2 y3 y6 y7 y8 y9 y17 y26 y30 z0 z1 z2 z3 z4 z5 z6 z7 => rfl
  refine R_nil (tr _ _ _ _ _ _ _ _ _ _ _ _ _ _ _ _ _ _ _) ?_; clear tr
  refine then_n ?_
  refine at_seq rfl ?_
  refine at_seq rfl ?_
  refine rg rfl ?_
  refine Rq ?_
  refine Rq ?_
  have tr : ∀ y0 y1 y2 y3 y6 y7 y8 y9 y17 y26 y30 z0 z1 : AV, trim [(17, z1), (16, z0), (0, y0), (1, y1), (2, y2), (3, y3), (6, y6), (7, y7), (8, y8), (9, y9), (17, y17), (26, y26), (30, y30)] [(0, y0), (1, y1), (2, y2), (3, y3), (6, y6), (7, y7), (8, y8), (9, y9), (17, y17), (26, y26), (30, y30)] = [(0, y0), (1, y1), (2, y2), (3, y3), (6, y6), (7, y7), (8, y8), (9, y9), (17, z1), (26, y26), (30, y30)] := fun y0 y1 y2 y3 y6 y7 y8 y9 y17 y26 y30 z0 z1 => rfl
  refine R_nil (tr _ _ _ _ _ _ _ _ _ _ _ _ _) ?_; clear tr
  refine then_n ?_
  refine cdd (fun h1 => ?_) (fun h1 => ?_)
  · try simp only [decide_eq_true_eq, decide_eq_false_iff_not, Bool.not_eq_true', Bool.not_eq_false', beq_iff_eq, beq_eq_false_iff_ne, ne_eq] at h1
    refine at_seq rfl ?_
    refine rg rfl ?_
    refine Rq ?_
    refine Rq ?_
    have tr : ∀ y0 y1 y2 y3 y6 y7 y8 y9 y17 y26 y30 z0 z1 : AV, trim [(6, z1), (18, z0), (0, y0), (1, y1), (2, y2), (3, y3), (6, y6), (7, y7), (8, y8), (9, y9), (17, y17), (26, y26), (30, y30)] [(0, y0), (1, y1), (2, y2), (3, y3), (6, y6), (7, y7), (8, y8), (9, y9), (17, y17), (26, y26), (30, y30)] = [(0, y0), (1, y1), (2, y2), (3, y3), (6, z1), (7, y7), (8, y8), (9, y9), (17, y17), (26, y26), (30, y30)] := fun y0 y1 y2 y3 y6 y7 y8 y9 y17 y26 y30 z0 z1 => rfl
    refine R_nil (tr _ _ _ _ _ _ _ _ _ _ _ _ _) ?_; clear tr
    refine then_n ?_
    refine at_ret rfl ?_
    refine then_r ?_
    refine fpure ?_
    refine ⟨?_, rfl⟩
    rw [acceptS, if_pos (by assumption)]
  · try simp only [decide_eq_true_eq, decide_eq_false_iff_not, Bool.not_eq_true', Bool.not_eq_false', beq_iff_eq, beq_eq_false_iff_ne, ne_eq] at h1
    refine at_skip rfl ?_
    refine then_n ?_
    refine at_seq rfl ?_
    refine rg rfl ?_
    refine Rq ?_
    refine Rq ?_
    refine Rcall ?_
    refine ACall_eq (rcap_ok _ _ n s t E cut) ?_
    refine Rq ?_
    refine Rq ?_
    refine Rq ?_
    refine Rq ?_
    refine Rq ?_
    have tr : ∀ y0 y1 y2 y3 y6 y7 y8 y9 y17 y26 y30 z0 z1 z2 z3 z4 z5 z6 z7 : AV, trim [(8, z7), (9, z6), (24, z5), (23, z4), (19, z3), (22, z2), (21, z1), (20, z0), (0, y0), (1, y1), (2, y2), (3, y3), (6, y6), (7, y7), (8, y8), (9, y9), (17, y17), (26, y26), (30, y30)] [(0, y0), (1, y1), (2, y2), (3, y3), (6, y6), (7, y7), (8, y8), (9, y9), (17, y17), (26, y26), (30, y30)] = [(0, y0), (1, y1), (2, y2), (3, y3), (6, y6), (7, y7), (8, z7), (9, z6), (17, y17), (26, y26), (30, y30)] := fun y0 y1 y2 y3 y6 y7 y8 y9 y17 y26 y30 z0 z1 z2 z3 z4 z5 z6 z7 => rfl
    refine R_nil (tr _ _ _ _ _ _ _ _ _ _ _ _ _ _ _ _ _ _ _) ?_; clear tr
    refine then_n ?_
    refine at_seq rfl ?_
    refine at_seq rfl ?_
    refine rg rfl ?_
    refine Rq ?_
    refine Rq ?_
    have tr : ∀ y0 y1 y2 y3 y6 y7 y8 y9 y17 y26 y30 z0 z1 : AV, trim [(26, z1), (25, z0), (0, y0), (1, y1), (2, y2), (3, y3), (6, y6), (7, y7), (8, y8), (9, y9), (17, y17), (26, y26), (30, y30)] [(0, y0), (1, y1), (2, y2), (3, y3), (6, y6), (7, y7), (8, y8), (9, y9), (17, y17), (26, y26), (30, y30)] = [(0, y0), (1, y1), (2, y2), (3, y3), (6, y6), (7, y7), (8, y8), (9, y9), (17, y17), (26, z1), (30, y30)] := fun y0 y1 y2 y3 y6 y7 y8 y9 y17 y26 y30 z0 z1 => rfl
    refine R_nil (tr _ _ _ _ _ _ _ _ _ _ _ _ _) ?_; clear tr
    refine then_n ?_
    refine cdd (fun h2 => ?_) (fun h2 => ?_)
    · try simp only [decide_eq_true_eq, decide_eq_false_iff_not, Bool.not_eq_true', Bool.not_eq_false', beq_iff_eq, beq_eq_false_iff_ne, ne_eq] at h2
      refine at_seq rfl ?_
      refine rg rfl ?_
      refine Rq ?_
      refine Rq ?_
      have tr : ∀ y0 y1 y2 y3 y6 y7 y8 y9 y17 y26 y30 z0 z1 : AV, trim [(6, z1), (27, z0), (0, y0), (1, y1), (2, y2), (3, y3), (6, y6), (7, y7), (8, y8), (9, y9), (17, y17), (26, y26), (30, y30)] [(0, y0), (1, y1), (2, y2), (3, y3), (6, y6), (7, y7), (8, y8), (9, y9), (17, y17), (26, y26), (30, y30)] = [(0, y0), (1, y1), (2, y2), (3, y3), (6, z1), (7, y7), (8, y8), (9, y9), (17, y17), (26, y26), (30, y30)] := fun y0 y1 y2 y3 y6 y7 y8 y9 y17 y26 y30 z0 z1 => rfl
      refine R_nil (tr _ _ _ _ _ _ _ _ _ _ _ _ _) ?_; clear tr
      refine then_n ?_
      refine at_ret rfl ?_
      refine then_r ?_
      refine fpure ?_
      refine ⟨?_, rfl⟩
      rw [acceptS, if_neg (fun hh => hh (by assumption)), if_pos (by assumption)]
    · try simp only [decide_eq_true_eq, decide_eq_false_iff_not, Bool.not_eq_true', Bool.not_eq_false', beq_iff_eq, beq_eq_false_iff_ne, ne_eq] at h2
      refine at_skip rfl ?_
      refine then_n ?_
      refine at_seq rfl ?_
      refine at_seq rfl ?_
      refine rg rfl ?_
      refine Rq ?_
      refine Rq ?_
      refine Rq ?_
      have tr : ∀ y0 y1 y2 y3 y6 y7 y8 y9 y17 y26 y30 z0 z1 z2 : AV, trim [(30, z2), (29, z1), (28, z0), (0, y0), (1, y1), (2, y2), (3, y3), (6, y6), (7, y7), (8, y8), (9, y9), (17, y17), (26, y26), (30, y30)] [(0, y0), (1, y1), (2, y2), (3, y3), (6, y6), (7, y7), (8, y8), (9, y9), (17, y17), (26, y26), (30, y30)] = [(0, y0), (1, y1), (2, y2), (3, y3), (6, y6), (7, y7), (8, y8), (9, y9), (17, y17), (26, y26), (30, z2)] := fun y0 y1 y2 y3 y6 y7 y8 y9 y17 y26 y30 z0 z1 z2 => rfl
      refine R_nil (tr _ _ _ _ _ _ _ _ _ _ _ _ _ _) ?_; clear tr
      refine then_n ?_
      refine cdd (fun h3 => ?_) (fun h3 => ?_)
      · try simp only [decide_eq_true_eq, decide_eq_false_iff_not, Bool.not_eq_true', Bool.not_eq_false', beq_iff_eq, beq_eq_false_iff_ne, ne_eq] at h3
        refine at_seq rfl ?_
        refine rg rfl ?_
        refine Rq ?_
        have tr : ∀ y0 y1 y2 y3 y6 y7 y8 y9 y17 y26 y30 z0 : AV, trim [(6, z0), (0, y0), (1, y1), (2, y2), (3, y3), (6, y6), (7, y7), (8, y8), (9, y9), (17, y17), (26, y26), (30, y30)] [(0, y0), (1, y1), (2, y2), (3, y3), (6, y6), (7, y7), (8, y8), (9, y9), (17, y17), (26, y26), (30, y30)] = [(0, y0), (1, y1), (2, y2), (3, y3), (6, z0), (7, y7), (8, y8), (9, y9), (17, y17), (26, y26), (30, y30)] := fun y0 y1 y2 y3 y6 y7 y8 y9 y17 y26 y30 z0 => rfl
        refine R_nil (tr _ _ _ _ _ _ _ _ _ _ _ _) ?_; clear tr
        refine then_n ?_
        refine at_ret rfl ?_
        refine then_r ?_
        refine fpure ?_
        refine ⟨?_, rfl⟩
        rw [acceptS, if_neg (fun hh => hh (by assumption)), if_neg (fun hh => hh (by assumption)), if_pos (by omega)]
      · try simp only [decide_eq_true_eq, decide_eq_false_iff_not, Bool.not_eq_true', Bool.not_eq_false', beq_iff_eq, beq_eq_false_iff_ne, ne_eq] at h3
        refine at_skip rfl ?_
        refine then_n ?_
        refine at_seq rfl ?_
        refine rg rfl ?_
        refine Rq ?_
        have tr : ∀ y0 y1 y2 y3 y6 y7 y8 y9 y17 y26 y30 z0 : AV, trim [(6, z0), (0, y0), (1, y1), (2, y2), (3, y3), (6, y6), (7, y7), (8, y8), (9, y9), (17, y17), (26, y26), (30, y30)] [(0, y0), (1, y1), (2, y2), (3, y3), (6, y6), (7, y7), (8, y8), (9, y9), (17, y17), (26, y26), (30, y30)] = [(0, y0), (1, y1), (2, y2), (3, y3), (6, z0), (7, y7), (8, y8), (9, y9), (17, y17), (26, y26), (30, y30)] := fun y0 y1 y2 y3 y6 y7 y8 y9 y17 y26 y30 z0 => rfl
        refine R_nil (tr _ _ _ _ _ _ _ _ _ _ _ _) ?_; clear tr
        refine then_n ?_
        refine at_ret rfl ?_
        refine fpure ?_
        refine ⟨?_, rfl⟩
        rw [acceptS, if_neg (fun hh => hh (by assumption)), if_neg (fun hh => hh (by assumption)), if_neg (by omega)]

end Go.Proofs.Ytdicnojnkbmdlaa
