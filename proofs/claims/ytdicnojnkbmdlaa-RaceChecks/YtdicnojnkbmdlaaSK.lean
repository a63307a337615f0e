/-
  Walks of chapters 52 and 53. The steps are written by program (walk.py).
-/
import Derived.Test.YtdicnojnkbmdlaaSJ
set_option linter.unusedSimpArgs false
set_option linter.unusedVariables false
set_option maxHeartbeats 40000000
set_option maxRecDepth 4000
namespace Go.Proofs.Ytdicnojnkbmdlaa
open Go Go.Am

theorem ply_ok (lim : Nat) (H : Heap) (P : List Int) (L : List Pr) (R : List Int) (hR : R.length ≤ 200) :
    ACall sig lim 40 [.agg (raceC P L), intsAV R] H fun r H' => r = .tup [playA P L R, AV.i (playE P L R)] ∧ H' = H := by
  refine ACall_pure (fa := fa40) rfl rfl rfl rfl ?_
  have tr : ∀ a0 a1 : AV, env0 fa40.keep [a0, a1] = [(0, a0), (1, a1), (2, .any), (4, .any), (5, .any), (6, .any), (10, .any), (12, .any), (19, .any)] := fun a0 a1 => rfl
  refine W_to (tr _ _) ?_; clear tr
  refine at_seq rfl ?_
  refine rg rfl ?_
  refine R_box rfl (by simp (disch := first | omega | (simp only [List.length_map, List.length_append, List.length_set, List.length_cons, List.length_nil, List.length_take, List.length_drop]; omega)) only [go_sem, ↓reduceIte, Nat.reduceEqDiff, reduceCtorEq]; rfl) rfl rfl ?_
  refine Rq ?_
  refine Rq ?_
  have tr : ∀ y0 y1 y2 y4 y5 y6 y10 y12 y19 z0 z1 z2 : AV, trim [(5, z2), (4, z1), (2, z0), (0, y0), (1, y1), (2, y2), (4, y4), (5, y5), (6, y6), (10, y10), (12, y12), (19, y19)] [(0, y0), (1, y1), (2, y2), (4, y4), (5, y5), (6, y6), (10, y10), (12, y12), (19, y19)] = [(0, y0), (1, y1), (2, z0), (4, z1), (5, z2), (6, y6), (10, y10), (12, y12), (19, y19)] := fun y0 y1 y2 y4 y5 y6 y10 y12 y19 z0 z1 z2 => rfl
  refine R_nil (tr _ _ _ _ _ _ _ _ _ _ _ _) ?_; clear tr
  refine then_n ?_
  refine at_seq rfl ?_
  refine at_seq rfl ?_
  refine rg rfl ?_
  refine Rq ?_
  refine Rcall ?_
  refine ACall_eq (chk53_ok _ _ P L) ?_
  refine Rq ?_
  have tr : ∀ y0 y1 y2 y4 y5 y6 y10 y12 y19 z0 z1 z2 : AV, trim [(6, z2), (8, z1), (7, z0), (0, y0), (1, y1), (2, y2), (4, y4), (5, y5), (6, y6), (10, y10), (12, y12), (19, y19)] [(0, y0), (1, y1), (2, y2), (4, y4), (5, y5), (6, y6), (10, y10), (12, y12), (19, y19)] = [(0, y0), (1, y1), (2, y2), (4, y4), (5, y5), (6, z2), (10, y10), (12, y12), (19, y19)] := fun y0 y1 y2 y4 y5 y6 y10 y12 y19 z0 z1 z2 => rfl
  refine R_nil (tr _ _ _ _ _ _ _ _ _ _ _ _) ?_; clear tr
  refine then_n ?_
  refine at_seq rfl ?_
  refine rg rfl ?_
  refine Rq ?_
  refine Rq ?_
  have tr : ∀ y0 y1 y2 y4 y5 y6 y10 y12 y19 z0 z1 : AV, trim [(10, z1), (9, z0), (0, y0), (1, y1), (2, y2), (4, y4), (5, y5), (6, y6), (10, y10), (12, y12), (19, y19)] [(0, y0), (1, y1), (2, y2), (4, y4), (5, y5), (6, y6), (10, y10), (12, y12), (19, y19)] = [(0, y0), (1, y1), (2, y2), (4, y4), (5, y5), (6, y6), (10, z1), (12, y12), (19, y19)] := fun y0 y1 y2 y4 y5 y6 y10 y12 y19 z0 z1 => rfl
  refine R_nil (tr _ _ _ _ _ _ _ _ _ _ _) ?_; clear tr
  refine then_n ?_
  refine cdd (fun h1 => ?_) (fun h1 => ?_)
  · try simp only [decide_eq_true_eq, decide_eq_false_iff_not, Bool.not_eq_true', Bool.not_eq_false', beq_iff_eq, beq_eq_false_iff_ne, ne_eq] at h1
    refine at_seq rfl ?_
    refine rg rfl ?_
    refine Rq ?_
    refine Rq ?_
    refine Rq ?_
    have tr : ∀ y0 y1 y2 y4 y5 y6 y10 y12 y19 z0 z1 z2 : AV, trim [(5, z2), (4, z1), (11, z0), (0, y0), (1, y1), (2, y2), (4, y4), (5, y5), (6, y6), (10, y10), (12, y12), (19, y19)] [(0, y0), (1, y1), (2, y2), (4, y4), (5, y5), (6, y6), (10, y10), (12, y12), (19, y19)] = [(0, y0), (1, y1), (2, y2), (4, z1), (5, z2), (6, y6), (10, y10), (12, y12), (19, y19)] := fun y0 y1 y2 y4 y5 y6 y10 y12 y19 z0 z1 z2 => rfl
    refine R_nil (tr _ _ _ _ _ _ _ _ _ _ _ _) ?_; clear tr
    refine then_n ?_
    refine at_ret rfl ?_
    refine then_r ?_
    refine fpure ?_
    refine ⟨?_, rfl⟩
    obtain ⟨e1, e2⟩ := playA_1 (R := R) (by assumption : ¬ rchkS P L = 0)
    rw [e1, e2]
  · try simp only [decide_eq_true_eq, decide_eq_false_iff_not, Bool.not_eq_true', Bool.not_eq_false', beq_iff_eq, beq_eq_false_iff_ne, ne_eq] at h1
    refine at_skip rfl ?_
    refine then_n ?_
    refine at_seq rfl ?_
    refine at_block rfl ?_
    refine at_seq rfl ?_
    refine rg rfl ?_
    refine Rq ?_
    refine Rq ?_
    refine Rq ?_
    refine Rq ?_
    refine Rq ?_
    refine Rq ?_
    refine Rq ?_
    have tr : ∀ y0 y1 y2 y4 y5 y6 y10 y12 y19 z0 z1 z2 z3 z4 z5 z6 : AV, trim [(12, z6), (18, z5), (17, z4), (16, z3), (15, z2), (14, z1), (13, z0), (0, y0), (1, y1), (2, y2), (4, y4), (5, y5), (6, y6), (10, y10), (12, y12), (19, y19)] [(0, y0), (1, y1), (2, y2), (4, y4), (5, y5), (6, y6), (10, y10), (12, y12), (19, y19)] = [(0, y0), (1, y1), (2, y2), (4, y4), (5, y5), (6, y6), (10, y10), (12, z6), (19, y19)] := fun y0 y1 y2 y4 y5 y6 y10 y12 y19 z0 z1 z2 z3 z4 z5 z6 => rfl
    refine R_nil (tr _ _ _ _ _ _ _ _ _ _ _ _ _ _ _ _) ?_; clear tr
    refine then_n ?_
    refine cdd (fun h2 => ?_) (fun h2 => ?_)
    · try simp only [decide_eq_true_eq, decide_eq_false_iff_not, Bool.not_eq_true', Bool.not_eq_false', beq_iff_eq, beq_eq_false_iff_ne, ne_eq] at h2
      refine at_seq rfl ?_
      refine rg rfl ?_
      refine Rq ?_
      refine Rq ?_
      have tr : ∀ y0 y1 y2 y4 y5 y6 y10 y12 y19 z0 z1 : AV, trim [(5, z1), (4, z0), (0, y0), (1, y1), (2, y2), (4, y4), (5, y5), (6, y6), (10, y10), (12, y12), (19, y19)] [(0, y0), (1, y1), (2, y2), (4, y4), (5, y5), (6, y6), (10, y10), (12, y12), (19, y19)] = [(0, y0), (1, y1), (2, y2), (4, z0), (5, z1), (6, y6), (10, y10), (12, y12), (19, y19)] := fun y0 y1 y2 y4 y5 y6 y10 y12 y19 z0 z1 => rfl
      refine R_nil (tr _ _ _ _ _ _ _ _ _ _ _) ?_; clear tr
      refine then_n ?_
      refine at_ret rfl ?_
      refine blk_r ?_
      refine then_r ?_
      refine fpure ?_
      refine ⟨?_, rfl⟩
      obtain ⟨e1, e2⟩ := playA_2 (R := R) (by assumption : rchkS P L = 0) (by omega)
      rw [e1, e2]
    · try simp only [decide_eq_true_eq, decide_eq_false_iff_not, Bool.not_eq_true', Bool.not_eq_false', beq_iff_eq, beq_eq_false_iff_ne, ne_eq] at h2
      refine at_seq rfl ?_
      refine rg rfl ?_
      refine Rq ?_
      refine Rcall ?_
      refine ACall_mono (valid_ok _ _ R (by omega)) ?_
      rintro r H6 ⟨⟨b, rfl, hb⟩, rfl⟩
      refine Rq ?_
      refine Rq ?_
      have tr : ∀ y0 y1 y2 y4 y5 y6 y10 y12 y19 z0 z1 z2 z3 : AV, trim [(19, z3), (22, z2), (21, z1), (20, z0), (0, y0), (1, y1), (2, y2), (4, y4), (5, y5), (6, y6), (10, y10), (12, y12), (19, y19)] [(0, y0), (1, y1), (2, y2), (4, y4), (5, y5), (6, y6), (10, y10), (12, y12), (19, y19)] = [(0, y0), (1, y1), (2, y2), (4, y4), (5, y5), (6, y6), (10, y10), (12, y12), (19, z3)] := fun y0 y1 y2 y4 y5 y6 y10 y12 y19 z0 z1 z2 z3 => rfl
      refine R_nil (tr _ _ _ _ _ _ _ _ _ _ _ _ _) ?_; clear tr
      refine then_n ?_
      refine cdd (fun h3 => ?_) (fun h3 => ?_)
      · try simp only [decide_eq_true_eq, decide_eq_false_iff_not, Bool.not_eq_true', Bool.not_eq_false', beq_iff_eq, beq_eq_false_iff_ne, ne_eq] at h3
        refine at_seq rfl ?_
        refine rg rfl ?_
        refine Rq ?_
        refine Rq ?_
        have tr : ∀ y0 y1 y2 y4 y5 y6 y10 y12 y19 z0 z1 : AV, trim [(5, z1), (4, z0), (0, y0), (1, y1), (2, y2), (4, y4), (5, y5), (6, y6), (10, y10), (12, y12), (19, y19)] [(0, y0), (1, y1), (2, y2), (4, y4), (5, y5), (6, y6), (10, y10), (12, y12), (19, y19)] = [(0, y0), (1, y1), (2, y2), (4, z0), (5, z1), (6, y6), (10, y10), (12, y12), (19, y19)] := fun y0 y1 y2 y4 y5 y6 y10 y12 y19 z0 z1 => rfl
        refine R_nil (tr _ _ _ _ _ _ _ _ _ _ _) ?_; clear tr
        refine then_n ?_
        refine at_ret rfl ?_
        refine blk_r ?_
        refine then_r ?_
        refine fpure ?_
        refine ⟨?_, rfl⟩
        obtain ⟨e1, e2⟩ := playA_3 (R := R) (by assumption : rchkS P L = 0) (by omega) (fun hh => by have := hb.2 hh; simp_all)
        rw [e1, e2]
      · try simp only [decide_eq_true_eq, decide_eq_false_iff_not, Bool.not_eq_true', Bool.not_eq_false', beq_iff_eq, beq_eq_false_iff_ne, ne_eq] at h3
        refine at_skip rfl ?_
        refine blk_n ?_
        refine then_n ?_
        refine at_seq rfl ?_
        refine rg rfl ?_
        have g := rok_of (by assumption : rchkS P L = 0)
        have hro : resOK R := hb.1 (by assumption)
        refine Rq ?_
        refine Rq ?_
        refine Rcall ?_
        refine ACall_eq (play_ok _ _ P L R g (by omega) hro) ?_
        refine Rq ?_
        refine Rq ?_
        have tr : ∀ y0 y1 y2 y4 y5 y6 y10 y12 y19 z0 z1 z2 z3 z4 : AV, trim [(5, z4), (4, z3), (25, z2), (24, z1), (23, z0), (0, y0), (1, y1), (2, y2), (4, y4), (5, y5), (6, y6), (10, y10), (12, y12), (19, y19)] [(0, y0), (1, y1), (2, y2), (4, y4), (5, y5), (6, y6), (10, y10), (12, y12), (19, y19)] = [(0, y0), (1, y1), (2, y2), (4, z3), (5, z4), (6, y6), (10, y10), (12, y12), (19, y19)] := fun y0 y1 y2 y4 y5 y6 y10 y12 y19 z0 z1 z2 z3 z4 => rfl
        refine R_nil (tr _ _ _ _ _ _ _ _ _ _ _ _ _ _) ?_; clear tr
        refine then_n ?_
        refine at_ret rfl ?_
        refine fpure ?_
        refine ⟨?_, rfl⟩
        obtain ⟨e1, e2⟩ := playA_ok (R := R) (by assumption : rchkS P L = 0) (by omega) (hro)
        rw [e1, e2]
        exact congrArg AV.tup (by rw [frz_ints])

theorem rply_ok (lim : Nat) (H : Heap) (P : List Int) (L : List Pr) (R : List Int) (hR : R.length ≤ 200) :
    ACall sig lim 41 [.agg (raceC P L), intsAV R] H fun r H' => r = .tup [playA P L R, AV.i (playE P L R)] ∧ H' = H := by
  refine ACall_pure (fa := fa41) rfl rfl rfl rfl ?_
  have tr : ∀ a0 a1 : AV, env0 fa41.keep [a0, a1] = [(0, a0), (1, a1), (2, .any), (4, .any), (5, .any), (6, .any), (8, .any), (12, .any), (19, .any), (20, .any), (21, .any), (22, .any), (23, .any), (31, .any)] := fun a0 a1 => rfl
  refine W_to (tr _ _) ?_; clear tr
  refine at_seq rfl ?_
  refine rg rfl ?_
  refine R_box rfl (by simp (disch := first | omega | (simp only [List.length_map, List.length_append, List.length_set, List.length_cons, List.length_nil, List.length_take, List.length_drop]; omega)) only [go_sem, ↓reduceIte, Nat.reduceEqDiff, reduceCtorEq]; rfl) rfl rfl ?_
  refine Rq ?_
  refine Rq ?_
  have tr : ∀ y0 y1 y2 y4 y5 y6 y8 y12 y19 y20 y21 y22 y23 y31 z0 z1 z2 : AV, trim [(5, z2), (4, z1), (2, z0), (0, y0), (1, y1), (2, y2), (4, y4), (5, y5), (6, y6), (8, y8), (12, y12), (19, y19), (20, y20), (21, y21), (22, y22), (23, y23), (31, y31)] [(0, y0), (1, y1), (2, y2), (4, y4), (5, y5), (6, y6), (8, y8), (12, y12), (19, y19), (20, y20), (21, y21), (22, y22), (23, y23), (31, y31)] = [(0, y0), (1, y1), (2, z0), (4, z1), (5, z2), (6, y6), (8, y8), (12, y12), (19, y19), (20, y20), (21, y21), (22, y22), (23, y23), (31, y31)] := fun y0 y1 y2 y4 y5 y6 y8 y12 y19 y20 y21 y22 y23 y31 z0 z1 z2 => rfl
  refine R_nil (tr _ _ _ _ _ _ _ _ _ _ _ _ _ _ _ _ _) ?_; clear tr
  refine then_n ?_
  refine at_seq rfl ?_
  refine at_seq rfl ?_
  refine rg rfl ?_
  refine Rq ?_
  refine Rcall ?_
  refine ACall_eq (rchk53_ok _ _ P L) ?_
  refine Rq ?_
  have tr : ∀ y0 y1 y2 y4 y5 y6 y8 y12 y19 y20 y21 y22 y23 y31 z0 z1 z2 : AV, trim [(6, z2), (10, z1), (9, z0), (0, y0), (1, y1), (2, y2), (4, y4), (5, y5), (6, y6), (8, y8), (12, y12), (19, y19), (20, y20), (21, y21), (22, y22), (23, y23), (31, y31)] [(0, y0), (1, y1), (2, y2), (4, y4), (5, y5), (6, y6), (8, y8), (12, y12), (19, y19), (20, y20), (21, y21), (22, y22), (23, y23), (31, y31)] = [(0, y0), (1, y1), (2, y2), (4, y4), (5, y5), (6, z2), (8, y8), (12, y12), (19, y19), (20, y20), (21, y21), (22, y22), (23, y23), (31, y31)] := fun y0 y1 y2 y4 y5 y6 y8 y12 y19 y20 y21 y22 y23 y31 z0 z1 z2 => rfl
  refine R_nil (tr _ _ _ _ _ _ _ _ _ _ _ _ _ _ _ _ _) ?_; clear tr
  refine then_n ?_
  refine at_seq rfl ?_
  refine rg rfl ?_
  refine Rq ?_
  refine Rq ?_
  have tr : ∀ y0 y1 y2 y4 y5 y6 y8 y12 y19 y20 y21 y22 y23 y31 z0 z1 : AV, trim [(12, z1), (11, z0), (0, y0), (1, y1), (2, y2), (4, y4), (5, y5), (6, y6), (8, y8), (12, y12), (19, y19), (20, y20), (21, y21), (22, y22), (23, y23), (31, y31)] [(0, y0), (1, y1), (2, y2), (4, y4), (5, y5), (6, y6), (8, y8), (12, y12), (19, y19), (20, y20), (21, y21), (22, y22), (23, y23), (31, y31)] = [(0, y0), (1, y1), (2, y2), (4, y4), (5, y5), (6, y6), (8, y8), (12, z1), (19, y19), (20, y20), (21, y21), (22, y22), (23, y23), (31, y31)] := fun y0 y1 y2 y4 y5 y6 y8 y12 y19 y20 y21 y22 y23 y31 z0 z1 => rfl
  refine R_nil (tr _ _ _ _ _ _ _ _ _ _ _ _ _ _ _ _) ?_; clear tr
  refine then_n ?_
  refine cdd (fun h1 => ?_) (fun h1 => ?_)
  · try simp only [decide_eq_true_eq, decide_eq_false_iff_not, Bool.not_eq_true', Bool.not_eq_false', beq_iff_eq, beq_eq_false_iff_ne, ne_eq] at h1
    refine at_seq rfl ?_
    refine rg rfl ?_
    refine Rq ?_
    refine Rq ?_
    refine Rq ?_
    have tr : ∀ y0 y1 y2 y4 y5 y6 y8 y12 y19 y20 y21 y22 y23 y31 z0 z1 z2 : AV, trim [(5, z2), (4, z1), (13, z0), (0, y0), (1, y1), (2, y2), (4, y4), (5, y5), (6, y6), (8, y8), (12, y12), (19, y19), (20, y20), (21, y21), (22, y22), (23, y23), (31, y31)] [(0, y0), (1, y1), (2, y2), (4, y4), (5, y5), (6, y6), (8, y8), (12, y12), (19, y19), (20, y20), (21, y21), (22, y22), (23, y23), (31, y31)] = [(0, y0), (1, y1), (2, y2), (4, z1), (5, z2), (6, y6), (8, y8), (12, y12), (19, y19), (20, y20), (21, y21), (22, y22), (23, y23), (31, y31)] := fun y0 y1 y2 y4 y5 y6 y8 y12 y19 y20 y21 y22 y23 y31 z0 z1 z2 => rfl
    refine R_nil (tr _ _ _ _ _ _ _ _ _ _ _ _ _ _ _ _ _) ?_; clear tr
    refine then_n ?_
    refine at_ret rfl ?_
    refine then_r ?_
    refine fpure ?_
    refine ⟨?_, rfl⟩
    obtain ⟨e1, e2⟩ := playA_1 (R := R) (by assumption : ¬ rchkS P L = 0)
    rw [e1, e2]
  · try simp only [decide_eq_true_eq, decide_eq_false_iff_not, Bool.not_eq_true', Bool.not_eq_false', beq_iff_eq, beq_eq_false_iff_ne, ne_eq] at h1
    refine at_skip rfl ?_
    refine then_n ?_
    refine at_seq rfl ?_
    refine at_seq rfl ?_
    refine rg rfl ?_
    refine Rq ?_
    refine Rq ?_
    refine Rq ?_
    refine Rq ?_
    refine Rq ?_
    refine Rq ?_
    have tr : ∀ y0 y1 y2 y4 y5 y6 y8 y12 y19 y20 y21 y22 y23 y31 z0 z1 z2 z3 z4 z5 : AV, trim [(19, z5), (18, z4), (17, z3), (16, z2), (15, z1), (14, z0), (0, y0), (1, y1), (2, y2), (4, y4), (5, y5), (6, y6), (8, y8), (12, y12), (19, y19), (20, y20), (21, y21), (22, y22), (23, y23), (31, y31)] [(0, y0), (1, y1), (2, y2), (4, y4), (5, y5), (6, y6), (8, y8), (12, y12), (19, y19), (20, y20), (21, y21), (22, y22), (23, y23), (31, y31)] = [(0, y0), (1, y1), (2, y2), (4, y4), (5, y5), (6, y6), (8, y8), (12, y12), (19, z5), (20, y20), (21, y21), (22, y22), (23, y23), (31, y31)] := fun y0 y1 y2 y4 y5 y6 y8 y12 y19 y20 y21 y22 y23 y31 z0 z1 z2 z3 z4 z5 => rfl
    refine R_nil (tr _ _ _ _ _ _ _ _ _ _ _ _ _ _ _ _ _ _ _ _) ?_; clear tr
    refine then_n ?_
    refine cdd (fun h2 => ?_) (fun h2 => ?_)
    · try simp only [decide_eq_true_eq, decide_eq_false_iff_not, Bool.not_eq_true', Bool.not_eq_false', beq_iff_eq, beq_eq_false_iff_ne, ne_eq] at h2
      refine at_seq rfl ?_
      refine rg rfl ?_
      refine Rq ?_
      refine Rq ?_
      have tr : ∀ y0 y1 y2 y4 y5 y6 y8 y12 y19 y20 y21 y22 y23 y31 z0 z1 : AV, trim [(5, z1), (4, z0), (0, y0), (1, y1), (2, y2), (4, y4), (5, y5), (6, y6), (8, y8), (12, y12), (19, y19), (20, y20), (21, y21), (22, y22), (23, y23), (31, y31)] [(0, y0), (1, y1), (2, y2), (4, y4), (5, y5), (6, y6), (8, y8), (12, y12), (19, y19), (20, y20), (21, y21), (22, y22), (23, y23), (31, y31)] = [(0, y0), (1, y1), (2, y2), (4, z0), (5, z1), (6, y6), (8, y8), (12, y12), (19, y19), (20, y20), (21, y21), (22, y22), (23, y23), (31, y31)] := fun y0 y1 y2 y4 y5 y6 y8 y12 y19 y20 y21 y22 y23 y31 z0 z1 => rfl
      refine R_nil (tr _ _ _ _ _ _ _ _ _ _ _ _ _ _ _ _) ?_; clear tr
      refine then_n ?_
      refine at_ret rfl ?_
      refine then_r ?_
      refine fpure ?_
      refine ⟨?_, rfl⟩
      obtain ⟨e1, e2⟩ := playA_2 (R := R) (by assumption : rchkS P L = 0) (by omega)
      rw [e1, e2]
    · try simp only [decide_eq_true_eq, decide_eq_false_iff_not, Bool.not_eq_true', Bool.not_eq_false', beq_iff_eq, beq_eq_false_iff_ne, ne_eq] at h2
      refine at_skip rfl ?_
      refine then_n ?_
      refine at_seq rfl ?_
      refine at_seq rfl ?_
      refine rg rfl ?_
      refine Rq ?_
      refine Rq ?_
      refine Rq ?_
      have tr : ∀ y0 y1 y2 y4 y5 y6 y8 y12 y19 y20 y21 y22 y23 y31 z0 z1 z2 : AV, trim [(22, z2), (21, z1), (20, z0), (0, y0), (1, y1), (2, y2), (4, y4), (5, y5), (6, y6), (8, y8), (12, y12), (19, y19), (20, y20), (21, y21), (22, y22), (23, y23), (31, y31)] [(0, y0), (1, y1), (2, y2), (4, y4), (5, y5), (6, y6), (8, y8), (12, y12), (19, y19), (20, y20), (21, y21), (22, y22), (23, y23), (31, y31)] = [(0, y0), (1, y1), (2, y2), (4, y4), (5, y5), (6, y6), (8, y8), (12, y12), (19, y19), (20, z0), (21, z1), (22, z2), (23, y23), (31, y31)] := fun y0 y1 y2 y4 y5 y6 y8 y12 y19 y20 y21 y22 y23 y31 z0 z1 z2 => rfl
      refine R_nil (tr _ _ _ _ _ _ _ _ _ _ _ _ _ _ _ _ _) ?_; clear tr
      refine then_n ?_
      refine at_block rfl ?_
      refine loop_n rfl (fun mm kv H' => ∃ u : Nat, ∃ x4 x5 x8 x23 x31 : AV, (kv = [(4, x4), (5, x5), (8, x8), (22, AV.i u), (23, x23), (31, x31)]) ∧ (mm = R.length - u) ∧ (H' = H ++ [some (raceC P L)]) ∧ (u ≤ R.length) ∧ (∀ i, i < u → 0 ≤ gt R i ∧ gt R i ≤ 2)) ⟨0, _, _, _, _, _, rfl, rfl, rfl, by omega, by intro i hi; omega⟩ (by rfl) ?_
      rintro mm kv H' ⟨u, x4, x5, x8, x23, x31, rfl, rfl, rfl, hu, hq⟩
      have tr : ∀ y0 y1 y2 y4 y5 y6 y8 y12 y19 y20 y21 y22 y23 y31 z4 z5 z8 z22 z23 z31 : AV, upd [(0, y0), (1, y1), (2, y2), (4, y4), (5, y5), (6, y6), (8, y8), (12, y12), (19, y19), (20, y20), (21, y21), (22, y22), (23, y23), (31, y31)] [(4, z4), (5, z5), (8, z8), (22, z22), (23, z23), (31, z31)] = [(0, y0), (1, y1), (2, y2), (4, z4), (5, z5), (6, y6), (8, z8), (12, y12), (19, y19), (20, y20), (21, y21), (22, z22), (23, z23), (31, z31)] := fun y0 y1 y2 y4 y5 y6 y8 y12 y19 y20 y21 y22 y23 y31 z4 z5 z8 z22 z23 z31 => rfl
      refine W_to (tr _ _ _ _ _ _ _ _ _ _ _ _ _ _ _ _ _ _ _ _) ?_; clear tr
      refine at_seq rfl ?_
      refine rg rfl ?_
      refine Rq ?_
      have tr : ∀ y0 y1 y2 y4 y5 y6 y8 y12 y19 y20 y21 y22 y23 y31 z0 : AV, trim [(23, z0), (0, y0), (1, y1), (2, y2), (4, y4), (5, y5), (6, y6), (8, y8), (12, y12), (19, y19), (20, y20), (21, y21), (22, y22), (23, y23), (31, y31)] [(0, y0), (1, y1), (2, y2), (4, y4), (5, y5), (6, y6), (8, y8), (12, y12), (19, y19), (20, y20), (21, y21), (22, y22), (23, y23), (31, y31)] = [(0, y0), (1, y1), (2, y2), (4, y4), (5, y5), (6, y6), (8, y8), (12, y12), (19, y19), (20, y20), (21, y21), (22, y22), (23, z0), (31, y31)] := fun y0 y1 y2 y4 y5 y6 y8 y12 y19 y20 y21 y22 y23 y31 z0 => rfl
      refine R_nil (tr _ _ _ _ _ _ _ _ _ _ _ _ _ _ _) ?_; clear tr
      refine then_n ?_
      refine at_seq rfl ?_
      refine cdd (fun h3 => ?_) (fun h3 => ?_)
      · try simp only [decide_eq_true_eq, decide_eq_false_iff_not, Bool.not_eq_true', Bool.not_eq_false', beq_iff_eq, beq_eq_false_iff_ne, ne_eq] at h3
        refine at_skip rfl ?_
        refine then_n ?_
        refine at_seq rfl ?_
        refine at_block rfl ?_
        refine at_seq rfl ?_
        refine rg rfl ?_
        refine Rq ?_
        refine Rq ?_
        refine Rq ?_
        have tr : ∀ y0 y1 y2 y4 y5 y6 y8 y12 y19 y20 y21 y22 y23 y31 z0 z1 z2 : AV, trim [(8, z2), (25, z1), (24, z0), (0, y0), (1, y1), (2, y2), (4, y4), (5, y5), (6, y6), (8, y8), (12, y12), (19, y19), (20, y20), (21, y21), (22, y22), (23, y23), (31, y31)] [(0, y0), (1, y1), (2, y2), (4, y4), (5, y5), (6, y6), (8, y8), (12, y12), (19, y19), (20, y20), (21, y21), (22, y22), (23, y23), (31, y31)] = [(0, y0), (1, y1), (2, y2), (4, y4), (5, y5), (6, y6), (8, z2), (12, y12), (19, y19), (20, y20), (21, y21), (22, y22), (23, y23), (31, y31)] := fun y0 y1 y2 y4 y5 y6 y8 y12 y19 y20 y21 y22 y23 y31 z0 z1 z2 => rfl
        refine R_nil (tr _ _ _ _ _ _ _ _ _ _ _ _ _ _ _ _ _) ?_; clear tr
        refine then_n ?_
        refine at_seq rfl ?_
        refine rg rfl ?_
        refine Rq ?_
        refine Rq ?_
        refine Rq ?_
        refine Rp_split (fun h4 => ?_) (fun h4 => ?_)
        · try simp only [decide_eq_true_eq, decide_eq_false_iff_not, Bool.not_eq_true', Bool.not_eq_false', beq_iff_eq, beq_eq_false_iff_ne, ne_eq] at h4
          refine Rn ?_
          refine Rn ?_
          refine Rq ?_
          have tr : ∀ y0 y1 y2 y4 y5 y6 y8 y12 y19 y20 y21 y22 y23 y31 z0 z1 z2 z3 z4 z5 : AV, trim [(31, z5), (30, z4), (29, z3), (28, z2), (27, z1), (26, z0), (0, y0), (1, y1), (2, y2), (4, y4), (5, y5), (6, y6), (8, y8), (12, y12), (19, y19), (20, y20), (21, y21), (22, y22), (23, y23), (31, y31)] [(0, y0), (1, y1), (2, y2), (4, y4), (5, y5), (6, y6), (8, y8), (12, y12), (19, y19), (20, y20), (21, y21), (22, y22), (23, y23), (31, y31)] = [(0, y0), (1, y1), (2, y2), (4, y4), (5, y5), (6, y6), (8, y8), (12, y12), (19, y19), (20, y20), (21, y21), (22, y22), (23, y23), (31, z5)] := fun y0 y1 y2 y4 y5 y6 y8 y12 y19 y20 y21 y22 y23 y31 z0 z1 z2 z3 z4 z5 => rfl
          refine R_nil (tr _ _ _ _ _ _ _ _ _ _ _ _ _ _ _ _ _ _ _ _) ?_; clear tr
          refine then_n ?_
          refine cdt ?_
          refine at_seq rfl ?_
          refine rg rfl ?_
          refine Rq ?_
          refine Rq ?_
          have tr : ∀ y0 y1 y2 y4 y5 y6 y8 y12 y19 y20 y21 y22 y23 y31 z0 z1 : AV, trim [(5, z1), (4, z0), (0, y0), (1, y1), (2, y2), (4, y4), (5, y5), (6, y6), (8, y8), (12, y12), (19, y19), (20, y20), (21, y21), (22, y22), (23, y23), (31, y31)] [(0, y0), (1, y1), (2, y2), (4, y4), (5, y5), (6, y6), (8, y8), (12, y12), (19, y19), (20, y20), (21, y21), (22, y22), (23, y23), (31, y31)] = [(0, y0), (1, y1), (2, y2), (4, z0), (5, z1), (6, y6), (8, y8), (12, y12), (19, y19), (20, y20), (21, y21), (22, y22), (23, y23), (31, y31)] := fun y0 y1 y2 y4 y5 y6 y8 y12 y19 y20 y21 y22 y23 y31 z0 z1 => rfl
          refine R_nil (tr _ _ _ _ _ _ _ _ _ _ _ _ _ _ _ _) ?_; clear tr
          refine then_n ?_
          refine at_ret rfl ?_
          refine blk_r ?_
          refine then_r ?_
          refine then_r ?_
          refine blk_r ?_
          refine then_r ?_
          refine fpure ?_
          refine ⟨?_, rfl⟩
          obtain ⟨e1, e2⟩ := playA_3 (R := R) (by assumption : rchkS P L = 0) (by omega) (fun hh => by have := hh u (by omega); omega)
          rw [e1, e2]
        · try simp only [decide_eq_true_eq, decide_eq_false_iff_not, Bool.not_eq_true', Bool.not_eq_false', beq_iff_eq, beq_eq_false_iff_ne, ne_eq] at h4
          refine Ry ?_
          refine Rq ?_
          refine Ry ?_
          refine Rq ?_
          refine Rq ?_
          have tr : ∀ y0 y1 y2 y4 y5 y6 y8 y12 y19 y20 y21 y22 y23 y31 z0 z1 z2 z3 z4 z5 : AV, trim [(31, z5), (30, z4), (29, z3), (28, z2), (27, z1), (26, z0), (0, y0), (1, y1), (2, y2), (4, y4), (5, y5), (6, y6), (8, y8), (12, y12), (19, y19), (20, y20), (21, y21), (22, y22), (23, y23), (31, y31)] [(0, y0), (1, y1), (2, y2), (4, y4), (5, y5), (6, y6), (8, y8), (12, y12), (19, y19), (20, y20), (21, y21), (22, y22), (23, y23), (31, y31)] = [(0, y0), (1, y1), (2, y2), (4, y4), (5, y5), (6, y6), (8, y8), (12, y12), (19, y19), (20, y20), (21, y21), (22, y22), (23, y23), (31, z5)] := fun y0 y1 y2 y4 y5 y6 y8 y12 y19 y20 y21 y22 y23 y31 z0 z1 z2 z3 z4 z5 => rfl
          refine R_nil (tr _ _ _ _ _ _ _ _ _ _ _ _ _ _ _ _ _ _ _ _) ?_; clear tr
          refine then_n ?_
          refine cdd (fun h5 => ?_) (fun h5 => ?_)
          · try simp only [decide_eq_true_eq, decide_eq_false_iff_not, Bool.not_eq_true', Bool.not_eq_false', beq_iff_eq, beq_eq_false_iff_ne, ne_eq] at h5
            refine at_seq rfl ?_
            refine rg rfl ?_
            refine Rq ?_
            refine Rq ?_
            have tr : ∀ y0 y1 y2 y4 y5 y6 y8 y12 y19 y20 y21 y22 y23 y31 z0 z1 : AV, trim [(5, z1), (4, z0), (0, y0), (1, y1), (2, y2), (4, y4), (5, y5), (6, y6), (8, y8), (12, y12), (19, y19), (20, y20), (21, y21), (22, y22), (23, y23), (31, y31)] [(0, y0), (1, y1), (2, y2), (4, y4), (5, y5), (6, y6), (8, y8), (12, y12), (19, y19), (20, y20), (21, y21), (22, y22), (23, y23), (31, y31)] = [(0, y0), (1, y1), (2, y2), (4, z0), (5, z1), (6, y6), (8, y8), (12, y12), (19, y19), (20, y20), (21, y21), (22, y22), (23, y23), (31, y31)] := fun y0 y1 y2 y4 y5 y6 y8 y12 y19 y20 y21 y22 y23 y31 z0 z1 => rfl
            refine R_nil (tr _ _ _ _ _ _ _ _ _ _ _ _ _ _ _ _) ?_; clear tr
            refine then_n ?_
            refine at_ret rfl ?_
            refine blk_r ?_
            refine then_r ?_
            refine then_r ?_
            refine blk_r ?_
            refine then_r ?_
            refine fpure ?_
            refine ⟨?_, rfl⟩
            obtain ⟨e1, e2⟩ := playA_3 (R := R) (by assumption : rchkS P L = 0) (by omega) (fun hh => by have := hh u (by omega); omega)
            rw [e1, e2]
          · try simp only [decide_eq_true_eq, decide_eq_false_iff_not, Bool.not_eq_true', Bool.not_eq_false', beq_iff_eq, beq_eq_false_iff_ne, ne_eq] at h5
            refine at_skip rfl ?_
            refine blk_n ?_
            refine then_n ?_
            refine rg rfl ?_
            refine Rq ?_
            refine Rq ?_
            have tr : ∀ y0 y1 y2 y4 y5 y6 y8 y12 y19 y20 y21 y22 y23 y31 z0 z1 : AV, trim [(22, z1), (32, z0), (0, y0), (1, y1), (2, y2), (4, y4), (5, y5), (6, y6), (8, y8), (12, y12), (19, y19), (20, y20), (21, y21), (22, y22), (23, y23), (31, y31)] [(0, y0), (1, y1), (2, y2), (4, y4), (5, y5), (6, y6), (8, y8), (12, y12), (19, y19), (20, y20), (21, y21), (22, y22), (23, y23), (31, y31)] = [(0, y0), (1, y1), (2, y2), (4, y4), (5, y5), (6, y6), (8, y8), (12, y12), (19, y19), (20, y20), (21, y21), (22, z1), (23, y23), (31, y31)] := fun y0 y1 y2 y4 y5 y6 y8 y12 y19 y20 y21 y22 y23 y31 z0 z1 => rfl
            refine R_nil (tr _ _ _ _ _ _ _ _ _ _ _ _ _ _ _ _) ?_; clear tr
            refine then_n ?_
            exact ⟨_, _, ⟨u + 1, _, _, _, _, _, rfl, rfl, rfl, by omega, by exact all_step hq (by omega)⟩, by rfl, by omega⟩
      · try simp only [decide_eq_true_eq, decide_eq_false_iff_not, Bool.not_eq_true', Bool.not_eq_false', beq_iff_eq, beq_eq_false_iff_ne, ne_eq] at h3
        refine at_exit rfl ?_
        refine then_x ?_
        refine then_x ?_
        refine blk_x ?_
        refine then_n ?_
        refine at_seq rfl ?_
        refine rg rfl ?_
        have g := rok_of (by assumption : rchkS P L = 0)
        have hro : resOK R := fun i hi => hq i (by omega)
        refine Rq ?_
        refine Rq ?_
        refine Rcall ?_
        refine ACall_eq (rplay_ok _ _ P L R g (by omega) hro) ?_
        refine Rq ?_
        refine Rq ?_
        have tr : ∀ y0 y1 y2 y4 y5 y6 y8 y12 y19 y20 y21 y22 y23 y31 z0 z1 z2 z3 z4 : AV, trim [(5, z4), (4, z3), (35, z2), (34, z1), (33, z0), (0, y0), (1, y1), (2, y2), (4, y4), (5, y5), (6, y6), (8, y8), (12, y12), (19, y19), (20, y20), (21, y21), (22, y22), (23, y23), (31, y31)] [(0, y0), (1, y1), (2, y2), (4, y4), (5, y5), (6, y6), (8, y8), (12, y12), (19, y19), (20, y20), (21, y21), (22, y22), (23, y23), (31, y31)] = [(0, y0), (1, y1), (2, y2), (4, z3), (5, z4), (6, y6), (8, y8), (12, y12), (19, y19), (20, y20), (21, y21), (22, y22), (23, y23), (31, y31)] := fun y0 y1 y2 y4 y5 y6 y8 y12 y19 y20 y21 y22 y23 y31 z0 z1 z2 z3 z4 => rfl
        refine R_nil (tr _ _ _ _ _ _ _ _ _ _ _ _ _ _ _ _ _ _ _) ?_; clear tr
        refine then_n ?_
        refine at_ret rfl ?_
        refine fpure ?_
        refine ⟨?_, rfl⟩
        obtain ⟨e1, e2⟩ := playA_ok (R := R) (by assumption : rchkS P L = 0) (by omega) (hro)
        rw [e1, e2]
        exact congrArg AV.tup (by rw [frz_ints])

end Go.Proofs.Ytdicnojnkbmdlaa
