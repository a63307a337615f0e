/-
  Walks of chapters 52 and 53. The steps are written by program (walk.py).
-/
import Derived.Test.YtdicnojnkbmdlaaSH
import Derived.Test.YtdicnojnkbmdlaaSD
set_option linter.unusedSimpArgs false
set_option linter.unusedVariables false
set_option maxHeartbeats 40000000
set_option maxRecDepth 4000
namespace Go.Proofs.Ytdicnojnkbmdlaa
open Go Go.Am

theorem mst_ok (lim : Nat) (H : Heap) (P : List Int) (L : List Pr) (t : Int) :
    ACall sig lim 38 [.agg (raceC P L), AV.i t] H fun r H' => r = .tup [AV.i (mostS P L t).1, AV.i (mostS P L t).2] ∧ H' = H := by
  refine ACall_pure (fa := fa38) rfl rfl rfl rfl ?_
  have tr : ∀ a0 a1 : AV, env0 fa38.keep [a0, a1] = [(0, a0), (1, a1), (2, .any), (4, .any), (5, .any), (6, .any), (10, .any), (20, .any)] := fun a0 a1 => rfl
  refine W_to (tr _ _) ?_; clear tr
  refine at_seq rfl ?_
  refine rg rfl ?_
  refine R_box rfl (by simp (disch := first | omega | (simp only [List.length_map, List.length_append, List.length_set, List.length_cons, List.length_nil, List.length_take, List.length_drop]; omega)) only [go_sem, ↓reduceIte, Nat.reduceEqDiff, reduceCtorEq]; rfl) rfl rfl ?_
  refine Rq ?_
  refine Rq ?_
  have tr : ∀ y0 y1 y2 y4 y5 y6 y10 y20 z0 z1 z2 : AV, trim [(5, z2), (4, z1), (2, z0), (0, y0), (1, y1), (2, y2), (4, y4), (5, y5), (6, y6), (10, y10), (20, y20)] [(0, y0), (1, y1), (2, y2), (4, y4), (5, y5), (6, y6), (10, y10), (20, y20)] = [(0, y0), (1, y1), (2, z0), (4, z1), (5, z2), (6, y6), (10, y10), (20, y20)] := fun y0 y1 y2 y4 y5 y6 y10 y20 z0 z1 z2 => rfl
  refine R_nil (tr _ _ _ _ _ _ _ _ _ _ _) ?_; clear tr
  refine then_n ?_
  refine at_seq rfl ?_
  refine at_seq rfl ?_
  refine rg rfl ?_
  refine Rq ?_
  refine Rcall ?_
  refine ACall_eq (chk53_ok _ _ P L) ?_
  refine Rq ?_
  have tr : ∀ y0 y1 y2 y4 y5 y6 y10 y20 z0 z1 z2 : AV, trim [(6, z2), (8, z1), (7, z0), (0, y0), (1, y1), (2, y2), (4, y4), (5, y5), (6, y6), (10, y10), (20, y20)] [(0, y0), (1, y1), (2, y2), (4, y4), (5, y5), (6, y6), (10, y10), (20, y20)] = [(0, y0), (1, y1), (2, y2), (4, y4), (5, y5), (6, z2), (10, y10), (20, y20)] := fun y0 y1 y2 y4 y5 y6 y10 y20 z0 z1 z2 => rfl
  refine R_nil (tr _ _ _ _ _ _ _ _ _ _ _) ?_; clear tr
  refine then_n ?_
  refine at_seq rfl ?_
  refine rg rfl ?_
  refine Rq ?_
  refine Rq ?_
  have tr : ∀ y0 y1 y2 y4 y5 y6 y10 y20 z0 z1 : AV, trim [(10, z1), (9, z0), (0, y0), (1, y1), (2, y2), (4, y4), (5, y5), (6, y6), (10, y10), (20, y20)] [(0, y0), (1, y1), (2, y2), (4, y4), (5, y5), (6, y6), (10, y10), (20, y20)] = [(0, y0), (1, y1), (2, y2), (4, y4), (5, y5), (6, y6), (10, z1), (20, y20)] := fun y0 y1 y2 y4 y5 y6 y10 y20 z0 z1 => rfl
  refine R_nil (tr _ _ _ _ _ _ _ _ _ _) ?_; clear tr
  refine then_n ?_
  refine cdd (fun h1 => ?_) (fun h1 => ?_)
  · try simp only [decide_eq_true_eq, decide_eq_false_iff_not, Bool.not_eq_true', Bool.not_eq_false', beq_iff_eq, beq_eq_false_iff_ne, ne_eq] at h1
    refine at_seq rfl ?_
    refine rg rfl ?_
    refine Rq ?_
    refine Rq ?_
    refine Rq ?_
    have tr : ∀ y0 y1 y2 y4 y5 y6 y10 y20 z0 z1 z2 : AV, trim [(5, z2), (4, z1), (11, z0), (0, y0), (1, y1), (2, y2), (4, y4), (5, y5), (6, y6), (10, y10), (20, y20)] [(0, y0), (1, y1), (2, y2), (4, y4), (5, y5), (6, y6), (10, y10), (20, y20)] = [(0, y0), (1, y1), (2, y2), (4, z1), (5, z2), (6, y6), (10, y10), (20, y20)] := fun y0 y1 y2 y4 y5 y6 y10 y20 z0 z1 z2 => rfl
    refine R_nil (tr _ _ _ _ _ _ _ _ _ _ _) ?_; clear tr
    refine then_n ?_
    refine at_ret rfl ?_
    refine then_r ?_
    refine fpure ?_
    refine ⟨?_, rfl⟩
    rw [mostS, if_pos (by assumption)]
  · try simp only [decide_eq_true_eq, decide_eq_false_iff_not, Bool.not_eq_true', Bool.not_eq_false', beq_iff_eq, beq_eq_false_iff_ne, ne_eq] at h1
    refine at_skip rfl ?_
    refine then_n ?_
    refine at_seq rfl ?_
    refine at_seq rfl ?_
    refine rg rfl ?_
    have g := rok_of (by assumption : rchkS P L = 0)
    refine Rq ?_
    refine Rq ?_
    refine Rq ?_
    refine Rp_split (fun h2 => ?_) (fun h2 => ?_)
    · try simp only [decide_eq_true_eq, decide_eq_false_iff_not, Bool.not_eq_true', Bool.not_eq_false', beq_iff_eq, beq_eq_false_iff_ne, ne_eq] at h2
      refine Rn ?_
      refine Rn ?_
      refine Rn ?_
      refine Rn ?_
      refine Rn ?_
      refine Rq ?_
      have tr : ∀ y0 y1 y2 y4 y5 y6 y10 y20 z0 z1 z2 z3 z4 z5 z6 z7 z8 : AV, trim [(20, z8), (19, z7), (18, z6), (17, z5), (16, z4), (15, z3), (14, z2), (13, z1), (12, z0), (0, y0), (1, y1), (2, y2), (4, y4), (5, y5), (6, y6), (10, y10), (20, y20)] [(0, y0), (1, y1), (2, y2), (4, y4), (5, y5), (6, y6), (10, y10), (20, y20)] = [(0, y0), (1, y1), (2, y2), (4, y4), (5, y5), (6, y6), (10, y10), (20, z8)] := fun y0 y1 y2 y4 y5 y6 y10 y20 z0 z1 z2 z3 z4 z5 z6 z7 z8 => rfl
      refine R_nil (tr _ _ _ _ _ _ _ _ _ _ _ _ _ _ _ _ _) ?_; clear tr
      refine then_n ?_
      refine cdt ?_
      refine at_seq rfl ?_
      refine rg rfl ?_
      refine Rq ?_
      refine Rq ?_
      have tr : ∀ y0 y1 y2 y4 y5 y6 y10 y20 z0 z1 : AV, trim [(5, z1), (4, z0), (0, y0), (1, y1), (2, y2), (4, y4), (5, y5), (6, y6), (10, y10), (20, y20)] [(0, y0), (1, y1), (2, y2), (4, y4), (5, y5), (6, y6), (10, y10), (20, y20)] = [(0, y0), (1, y1), (2, y2), (4, z0), (5, z1), (6, y6), (10, y10), (20, y20)] := fun y0 y1 y2 y4 y5 y6 y10 y20 z0 z1 => rfl
      refine R_nil (tr _ _ _ _ _ _ _ _ _ _) ?_; clear tr
      refine then_n ?_
      refine at_ret rfl ?_
      refine then_r ?_
      refine fpure ?_
      refine ⟨?_, rfl⟩
      rw [mostS, if_neg (fun hh => hh (by assumption)), if_pos (by omega)]
    · try simp only [decide_eq_true_eq, decide_eq_false_iff_not, Bool.not_eq_true', Bool.not_eq_false', beq_iff_eq, beq_eq_false_iff_ne, ne_eq] at h2
      refine Ry ?_
      refine Rq ?_
      refine Ry ?_
      refine Rq ?_
      refine Ry ?_
      refine Rq ?_
      refine Ry ?_
      refine Rq ?_
      refine Ry ?_
      refine Rq ?_
      refine Rq ?_
      have tr : ∀ y0 y1 y2 y4 y5 y6 y10 y20 z0 z1 z2 z3 z4 z5 z6 z7 z8 : AV, trim [(20, z8), (19, z7), (18, z6), (17, z5), (16, z4), (15, z3), (14, z2), (13, z1), (12, z0), (0, y0), (1, y1), (2, y2), (4, y4), (5, y5), (6, y6), (10, y10), (20, y20)] [(0, y0), (1, y1), (2, y2), (4, y4), (5, y5), (6, y6), (10, y10), (20, y20)] = [(0, y0), (1, y1), (2, y2), (4, y4), (5, y5), (6, y6), (10, y10), (20, z8)] := fun y0 y1 y2 y4 y5 y6 y10 y20 z0 z1 z2 z3 z4 z5 z6 z7 z8 => rfl
      refine R_nil (tr _ _ _ _ _ _ _ _ _ _ _ _ _ _ _ _ _) ?_; clear tr
      refine then_n ?_
      refine cdd (fun h3 => ?_) (fun h3 => ?_)
      · try simp only [decide_eq_true_eq, decide_eq_false_iff_not, Bool.not_eq_true', Bool.not_eq_false', beq_iff_eq, beq_eq_false_iff_ne, ne_eq] at h3
        refine at_seq rfl ?_
        refine rg rfl ?_
        refine Rq ?_
        refine Rq ?_
        have tr : ∀ y0 y1 y2 y4 y5 y6 y10 y20 z0 z1 : AV, trim [(5, z1), (4, z0), (0, y0), (1, y1), (2, y2), (4, y4), (5, y5), (6, y6), (10, y10), (20, y20)] [(0, y0), (1, y1), (2, y2), (4, y4), (5, y5), (6, y6), (10, y10), (20, y20)] = [(0, y0), (1, y1), (2, y2), (4, z0), (5, z1), (6, y6), (10, y10), (20, y20)] := fun y0 y1 y2 y4 y5 y6 y10 y20 z0 z1 => rfl
        refine R_nil (tr _ _ _ _ _ _ _ _ _ _) ?_; clear tr
        refine then_n ?_
        refine at_ret rfl ?_
        refine then_r ?_
        refine fpure ?_
        refine ⟨?_, rfl⟩
        rw [mostS, if_neg (fun hh => hh (by assumption)), if_pos (by omega)]
      · try simp only [decide_eq_true_eq, decide_eq_false_iff_not, Bool.not_eq_true', Bool.not_eq_false', beq_iff_eq, beq_eq_false_iff_ne, ne_eq] at h3
        refine at_skip rfl ?_
        refine then_n ?_
        refine at_seq rfl ?_
        refine rg rfl ?_
        refine Rq ?_
        refine Rq ?_
        refine Rcall ?_
        refine ACall_eq (most_ok _ _ P L t g (by omega) (by omega)) ?_
        refine Rq ?_
        refine Rq ?_
        have tr : ∀ y0 y1 y2 y4 y5 y6 y10 y20 z0 z1 z2 z3 z4 : AV, trim [(5, z4), (4, z3), (23, z2), (22, z1), (21, z0), (0, y0), (1, y1), (2, y2), (4, y4), (5, y5), (6, y6), (10, y10), (20, y20)] [(0, y0), (1, y1), (2, y2), (4, y4), (5, y5), (6, y6), (10, y10), (20, y20)] = [(0, y0), (1, y1), (2, y2), (4, z3), (5, z4), (6, y6), (10, y10), (20, y20)] := fun y0 y1 y2 y4 y5 y6 y10 y20 z0 z1 z2 z3 z4 => rfl
        refine R_nil (tr _ _ _ _ _ _ _ _ _ _ _ _ _) ?_; clear tr
        refine then_n ?_
        refine at_ret rfl ?_
        refine fpure ?_
        refine ⟨?_, rfl⟩
        rw [mostS, if_neg (fun hh => hh (by assumption)), if_neg (by omega)]

theorem rmst_ok (lim : Nat) (H : Heap) (P : List Int) (L : List Pr) (t : Int) :
    ACall sig lim 39 [.agg (raceC P L), AV.i t] H fun r H' => r = .tup [AV.i (mostS P L t).1, AV.i (mostS P L t).2] ∧ H' = H := by
  refine ACall_pure (fa := fa39) rfl rfl rfl rfl ?_
  have tr : ∀ a0 a1 : AV, env0 fa39.keep [a0, a1] = [(0, a0), (1, a1), (2, .any), (4, .any), (5, .any), (6, .any), (10, .any), (20, .any)] := fun a0 a1 => rfl
  refine W_to (tr _ _) ?_; clear tr
  refine at_seq rfl ?_
  refine rg rfl ?_
  refine R_box rfl (by simp (disch := first | omega | (simp only [List.length_map, List.length_append, List.length_set, List.length_cons, List.length_nil, List.length_take, List.length_drop]; omega)) only [go_sem, ↓reduceIte, Nat.reduceEqDiff, reduceCtorEq]; rfl) rfl rfl ?_
  refine Rq ?_
  refine Rq ?_
  have tr : ∀ y0 y1 y2 y4 y5 y6 y10 y20 z0 z1 z2 : AV, trim [(5, z2), (4, z1), (2, z0), (0, y0), (1, y1), (2, y2), (4, y4), (5, y5), (6, y6), (10, y10), (20, y20)] [(0, y0), (1, y1), (2, y2), (4, y4), (5, y5), (6, y6), (10, y10), (20, y20)] = [(0, y0), (1, y1), (2, z0), (4, z1), (5, z2), (6, y6), (10, y10), (20, y20)] := fun y0 y1 y2 y4 y5 y6 y10 y20 z0 z1 z2 => rfl
  refine R_nil (tr _ _ _ _ _ _ _ _ _ _ _) ?_; clear tr
  refine then_n ?_
  refine at_seq rfl ?_
  refine at_seq rfl ?_
  refine rg rfl ?_
  refine Rq ?_
  refine Rcall ?_
  refine ACall_eq (rchk53_ok _ _ P L) ?_
  refine Rq ?_
  have tr : ∀ y0 y1 y2 y4 y5 y6 y10 y20 z0 z1 z2 : AV, trim [(6, z2), (8, z1), (7, z0), (0, y0), (1, y1), (2, y2), (4, y4), (5, y5), (6, y6), (10, y10), (20, y20)] [(0, y0), (1, y1), (2, y2), (4, y4), (5, y5), (6, y6), (10, y10), (20, y20)] = [(0, y0), (1, y1), (2, y2), (4, y4), (5, y5), (6, z2), (10, y10), (20, y20)] := fun y0 y1 y2 y4 y5 y6 y10 y20 z0 z1 z2 => rfl
  refine R_nil (tr _ _ _ _ _ _ _ _ _ _ _) ?_; clear tr
  refine then_n ?_
  refine at_seq rfl ?_
  refine rg rfl ?_
  refine Rq ?_
  refine Rq ?_
  have tr : ∀ y0 y1 y2 y4 y5 y6 y10 y20 z0 z1 : AV, trim [(10, z1), (9, z0), (0, y0), (1, y1), (2, y2), (4, y4), (5, y5), (6, y6), (10, y10), (20, y20)] [(0, y0), (1, y1), (2, y2), (4, y4), (5, y5), (6, y6), (10, y10), (20, y20)] = [(0, y0), (1, y1), (2, y2), (4, y4), (5, y5), (6, y6), (10, z1), (20, y20)] := fun y0 y1 y2 y4 y5 y6 y10 y20 z0 z1 => rfl
  refine R_nil (tr _ _ _ _ _ _ _ _ _ _) ?_; clear tr
  refine then_n ?_
  refine cdd (fun h1 => ?_) (fun h1 => ?_)
  · try simp only [decide_eq_true_eq, decide_eq_false_iff_not, Bool.not_eq_true', Bool.not_eq_false', beq_iff_eq, beq_eq_false_iff_ne, ne_eq] at h1
    refine at_seq rfl ?_
    refine rg rfl ?_
    refine Rq ?_
    refine Rq ?_
    refine Rq ?_
    have tr : ∀ y0 y1 y2 y4 y5 y6 y10 y20 z0 z1 z2 : AV, trim [(5, z2), (4, z1), (11, z0), (0, y0), (1, y1), (2, y2), (4, y4), (5, y5), (6, y6), (10, y10), (20, y20)] [(0, y0), (1, y1), (2, y2), (4, y4), (5, y5), (6, y6), (10, y10), (20, y20)] = [(0, y0), (1, y1), (2, y2), (4, z1), (5, z2), (6, y6), (10, y10), (20, y20)] := fun y0 y1 y2 y4 y5 y6 y10 y20 z0 z1 z2 => rfl
    refine R_nil (tr _ _ _ _ _ _ _ _ _ _ _) ?_; clear tr
    refine then_n ?_
    refine at_ret rfl ?_
    refine then_r ?_
    refine fpure ?_
    refine ⟨?_, rfl⟩
    rw [mostS, if_pos (by assumption)]
  · try simp only [decide_eq_true_eq, decide_eq_false_iff_not, Bool.not_eq_true', Bool.not_eq_false', beq_iff_eq, beq_eq_false_iff_ne, ne_eq] at h1
    refine at_skip rfl ?_
    refine then_n ?_
    refine at_seq rfl ?_
    refine at_seq rfl ?_
    refine rg rfl ?_
    have g := rok_of (by assumption : rchkS P L = 0)
    refine Rq ?_
    refine Rq ?_
    refine Rq ?_
    refine Rp_split (fun h2 => ?_) (fun h2 => ?_)
    · try simp only [decide_eq_true_eq, decide_eq_false_iff_not, Bool.not_eq_true', Bool.not_eq_false', beq_iff_eq, beq_eq_false_iff_ne, ne_eq] at h2
      refine Rn ?_
      refine Rn ?_
      refine Rn ?_
      refine Rn ?_
      refine Rn ?_
      refine Rq ?_
      have tr : ∀ y0 y1 y2 y4 y5 y6 y10 y20 z0 z1 z2 z3 z4 z5 z6 z7 z8 : AV, trim [(20, z8), (19, z7), (18, z6), (17, z5), (16, z4), (15, z3), (14, z2), (13, z1), (12, z0), (0, y0), (1, y1), (2, y2), (4, y4), (5, y5), (6, y6), (10, y10), (20, y20)] [(0, y0), (1, y1), (2, y2), (4, y4), (5, y5), (6, y6), (10, y10), (20, y20)] = [(0, y0), (1, y1), (2, y2), (4, y4), (5, y5), (6, y6), (10, y10), (20, z8)] := fun y0 y1 y2 y4 y5 y6 y10 y20 z0 z1 z2 z3 z4 z5 z6 z7 z8 => rfl
      refine R_nil (tr _ _ _ _ _ _ _ _ _ _ _ _ _ _ _ _ _) ?_; clear tr
      refine then_n ?_
      refine cdt ?_
      refine at_seq rfl ?_
      refine rg rfl ?_
      refine Rq ?_
      refine Rq ?_
      have tr : ∀ y0 y1 y2 y4 y5 y6 y10 y20 z0 z1 : AV, trim [(5, z1), (4, z0), (0, y0), (1, y1), (2, y2), (4, y4), (5, y5), (6, y6), (10, y10), (20, y20)] [(0, y0), (1, y1), (2, y2), (4, y4), (5, y5), (6, y6), (10, y10), (20, y20)] = [(0, y0), (1, y1), (2, y2), (4, z0), (5, z1), (6, y6), (10, y10), (20, y20)] := fun y0 y1 y2 y4 y5 y6 y10 y20 z0 z1 => rfl
      refine R_nil (tr _ _ _ _ _ _ _ _ _ _) ?_; clear tr
      refine then_n ?_
      refine at_ret rfl ?_
      refine then_r ?_
      refine fpure ?_
      refine ⟨?_, rfl⟩
      rw [mostS, if_neg (fun hh => hh (by assumption)), if_pos (by omega)]
    · try simp only [decide_eq_true_eq, decide_eq_false_iff_not, Bool.not_eq_true', Bool.not_eq_false', beq_iff_eq, beq_eq_false_iff_ne, ne_eq] at h2
      refine Ry ?_
      refine Rq ?_
      refine Ry ?_
      refine Rq ?_
      refine Ry ?_
      refine Rq ?_
      refine Ry ?_
      refine Rq ?_
      refine Ry ?_
      refine Rq ?_
      refine Rq ?_
      have tr : ∀ y0 y1 y2 y4 y5 y6 y10 y20 z0 z1 z2 z3 z4 z5 z6 z7 z8 : AV, trim [(20, z8), (19, z7), (18, z6), (17, z5), (16, z4), (15, z3), (14, z2), (13, z1), (12, z0), (0, y0), (1, y1), (2, y2), (4, y4), (5, y5), (6, y6), (10, y10), (20, y20)] [(0, y0), (1, y1), (2, y2), (4, y4), (5, y5), (6, y6), (10, y10), (20, y20)] = [(0, y0), (1, y1), (2, y2), (4, y4), (5, y5), (6, y6), (10, y10), (20, z8)] := fun y0 y1 y2 y4 y5 y6 y10 y20 z0 z1 z2 z3 z4 z5 z6 z7 z8 => rfl
      refine R_nil (tr _ _ _ _ _ _ _ _ _ _ _ _ _ _ _ _ _) ?_; clear tr
      refine then_n ?_
      refine cdd (fun h3 => ?_) (fun h3 => ?_)
      · try simp only [decide_eq_true_eq, decide_eq_false_iff_not, Bool.not_eq_true', Bool.not_eq_false', beq_iff_eq, beq_eq_false_iff_ne, ne_eq] at h3
        refine at_seq rfl ?_
        refine rg rfl ?_
        refine Rq ?_
        refine Rq ?_
        have tr : ∀ y0 y1 y2 y4 y5 y6 y10 y20 z0 z1 : AV, trim [(5, z1), (4, z0), (0, y0), (1, y1), (2, y2), (4, y4), (5, y5), (6, y6), (10, y10), (20, y20)] [(0, y0), (1, y1), (2, y2), (4, y4), (5, y5), (6, y6), (10, y10), (20, y20)] = [(0, y0), (1, y1), (2, y2), (4, z0), (5, z1), (6, y6), (10, y10), (20, y20)] := fun y0 y1 y2 y4 y5 y6 y10 y20 z0 z1 => rfl
        refine R_nil (tr _ _ _ _ _ _ _ _ _ _) ?_; clear tr
        refine then_n ?_
        refine at_ret rfl ?_
        refine then_r ?_
        refine fpure ?_
        refine ⟨?_, rfl⟩
        rw [mostS, if_neg (fun hh => hh (by assumption)), if_pos (by omega)]
      · try simp only [decide_eq_true_eq, decide_eq_false_iff_not, Bool.not_eq_true', Bool.not_eq_false', beq_iff_eq, beq_eq_false_iff_ne, ne_eq] at h3
        refine at_skip rfl ?_
        refine then_n ?_
        refine at_seq rfl ?_
        refine rg rfl ?_
        refine Rq ?_
        refine Rq ?_
        refine Rcall ?_
        refine ACall_eq (rmost_ok _ _ P L t g (by omega) (by omega)) ?_
        refine Rq ?_
        refine Rq ?_
        have tr : ∀ y0 y1 y2 y4 y5 y6 y10 y20 z0 z1 z2 z3 z4 : AV, trim [(5, z4), (4, z3), (23, z2), (22, z1), (21, z0), (0, y0), (1, y1), (2, y2), (4, y4), (5, y5), (6, y6), (10, y10), (20, y20)] [(0, y0), (1, y1), (2, y2), (4, y4), (5, y5), (6, y6), (10, y10), (20, y20)] = [(0, y0), (1, y1), (2, y2), (4, z3), (5, z4), (6, y6), (10, y10), (20, y20)] := fun y0 y1 y2 y4 y5 y6 y10 y20 z0 z1 z2 z3 z4 => rfl
        refine R_nil (tr _ _ _ _ _ _ _ _ _ _ _ _ _) ?_; clear tr
        refine then_n ?_
        refine at_ret rfl ?_
        refine fpure ?_
        refine ⟨?_, rfl⟩
        rw [mostS, if_neg (fun hh => hh (by assumption)), if_neg (by omega)]

end Go.Proofs.Ytdicnojnkbmdlaa
