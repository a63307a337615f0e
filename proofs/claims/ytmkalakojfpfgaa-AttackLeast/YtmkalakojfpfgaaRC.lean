/-
  Walks of chapter 46. The steps are written by program (walk.py).
-/
import Derived.Test.YtmkalakojfpfgaaRB
set_option linter.unusedSimpArgs false
set_option linter.unusedVariables false
set_option maxHeartbeats 40000000
set_option maxRecDepth 4000
namespace Go.Proofs.Ytmkalakojfpfgaa
open Go Go.Am

theorem statesf_ok (lim : Nat) (H : Heap) (rows : Tb) (q la : Int) :
    ACall sig lim 9 [.agg [rowsAV rows, AV.i q, AV.i la]] H fun r H' => r = .tup [AV.i (statesS rows q la).1, AV.i (statesS rows q la).2] ∧ H' = H := by
  refine ACall_pure (fa := fa9) rfl rfl rfl rfl ?_
  have tr : ∀ a0 : AV, env0 fa9.keep [a0] = [(0, a0), (1, .any), (2, .any), (3, .any), (4, .any), (8, .any)] := fun a0 => rfl
  refine W_to (tr _) ?_; clear tr
  refine at_seq rfl ?_
  refine rg rfl ?_
  refine R_box rfl (by simp (disch := first | omega | (simp only [List.length_map, List.length_append, List.length_set, List.length_cons, List.length_nil, List.length_take, List.length_drop]; omega)) only [go_sem, ↓reduceIte, Nat.reduceEqDiff, reduceCtorEq]; rfl) rfl rfl ?_
  refine Rq ?_
  refine Rq ?_
  have tr : ∀ y0 y1 y2 y3 y4 y8 z0 z1 z2 : AV, trim [(3, z2), (2, z1), (1, z0), (0, y0), (1, y1), (2, y2), (3, y3), (4, y4), (8, y8)] [(0, y0), (1, y1), (2, y2), (3, y3), (4, y4), (8, y8)] = [(0, y0), (1, z0), (2, z1), (3, z2), (4, y4), (8, y8)] := fun y0 y1 y2 y3 y4 y8 z0 z1 z2 => rfl
  refine R_nil (tr _ _ _ _ _ _ _ _ _) ?_; clear tr
  refine then_n ?_
  refine at_seq rfl ?_
  refine at_seq rfl ?_
  refine rg rfl ?_
  refine Rq ?_
  refine Rcall ?_
  refine ACall_eq (check_ok _ _ rows q la) ?_
  refine Rq ?_
  have tr : ∀ y0 y1 y2 y3 y4 y8 z0 z1 z2 : AV, trim [(4, z2), (6, z1), (5, z0), (0, y0), (1, y1), (2, y2), (3, y3), (4, y4), (8, y8)] [(0, y0), (1, y1), (2, y2), (3, y3), (4, y4), (8, y8)] = [(0, y0), (1, y1), (2, y2), (3, y3), (4, z2), (8, y8)] := fun y0 y1 y2 y3 y4 y8 z0 z1 z2 => rfl
  refine R_nil (tr _ _ _ _ _ _ _ _ _) ?_; clear tr
  refine then_n ?_
  refine at_seq rfl ?_
  refine rg rfl ?_
  refine Rq ?_
  refine Rq ?_
  have tr : ∀ y0 y1 y2 y3 y4 y8 z0 z1 : AV, trim [(8, z1), (7, z0), (0, y0), (1, y1), (2, y2), (3, y3), (4, y4), (8, y8)] [(0, y0), (1, y1), (2, y2), (3, y3), (4, y4), (8, y8)] = [(0, y0), (1, y1), (2, y2), (3, y3), (4, y4), (8, z1)] := fun y0 y1 y2 y3 y4 y8 z0 z1 => rfl
  refine R_nil (tr _ _ _ _ _ _ _ _) ?_; clear tr
  refine then_n ?_
  refine cdd (fun h1 => ?_) (fun h1 => ?_)
  · try simp only [decide_eq_true_eq, decide_eq_false_iff_not, Bool.not_eq_true', Bool.not_eq_false', beq_iff_eq, beq_eq_false_iff_ne, ne_eq] at h1
    refine at_seq rfl ?_
    refine rg rfl ?_
    refine Rq ?_
    refine Rq ?_
    refine Rq ?_
    have tr : ∀ y0 y1 y2 y3 y4 y8 z0 z1 z2 : AV, trim [(3, z2), (2, z1), (9, z0), (0, y0), (1, y1), (2, y2), (3, y3), (4, y4), (8, y8)] [(0, y0), (1, y1), (2, y2), (3, y3), (4, y4), (8, y8)] = [(0, y0), (1, y1), (2, z1), (3, z2), (4, y4), (8, y8)] := fun y0 y1 y2 y3 y4 y8 z0 z1 z2 => rfl
    refine R_nil (tr _ _ _ _ _ _ _ _ _) ?_; clear tr
    refine then_n ?_
    refine at_ret rfl ?_
    refine then_r ?_
    refine fpure ?_
    refine ⟨?_, rfl⟩
    rw [statesS, if_pos (by assumption)]
  · try simp only [decide_eq_true_eq, decide_eq_false_iff_not, Bool.not_eq_true', Bool.not_eq_false', beq_iff_eq, beq_eq_false_iff_ne, ne_eq] at h1
    refine at_skip rfl ?_
    refine then_n ?_
    refine at_seq rfl ?_
    refine rd rfl rfl ?_
    obtain ⟨g1, g2, g3, g4, g5, g6, g7, g8, g9, g10, g11⟩ := good_of (by assumption : checkS rows q la = 0)
    refine Qq ?_
    refine Qq ?_
    refine Qq ?_
    refine Qq ?_
    refine Qq ?_
    refine Qq ?_
    refine Qq ?_
    refine Qcall ?_
    refine ACall_eq (states_ok _ _ q (gt rows 0).length (by omega) (by omega) (by omega) (by omega)) ?_
    refine ⟨rfl, ?_⟩
    refine Qq ?_
    refine Qq ?_
    refine Q_nil ?_
    have tr : ∀ y0 y1 y2 y3 y4 y8 z0 z1 z2 z3 z4 z5 z6 z7 z8 z9 : AV, trim [(3, z9), (2, z8), (17, z7), (16, z6), (15, z5), (14, z4), (13, z3), (12, z2), (11, z1), (10, z0), (0, y0), (1, y1), (2, y2), (3, y3), (4, y4), (8, y8)] [(0, y0), (1, y1), (2, y2), (3, y3), (4, y4), (8, y8)] = [(0, y0), (1, y1), (2, z8), (3, z9), (4, y4), (8, y8)] := fun y0 y1 y2 y3 y4 y8 z0 z1 z2 z3 z4 z5 z6 z7 z8 z9 => rfl
    refine R_nil (tr _ _ _ _ _ _ _ _ _ _ _ _ _ _ _ _) ?_; clear tr
    refine then_n ?_
    refine at_ret rfl ?_
    refine fpure ?_
    refine ⟨?_, rfl⟩
    rw [statesS, if_neg (fun hh => hh (by assumption))]

theorem rstatesf_ok (lim : Nat) (H : Heap) (rows : Tb) (q la : Int) :
    ACall sig lim 10 [.agg [rowsAV rows, AV.i q, AV.i la]] H fun r H' => r = .tup [AV.i (statesS rows q la).1, AV.i (statesS rows q la).2] ∧ H' = H := by
  refine ACall_pure (fa := fa10) rfl rfl rfl rfl ?_
  have tr : ∀ a0 : AV, env0 fa10.keep [a0] = [(0, a0), (1, .any), (2, .any), (3, .any), (4, .any), (8, .any)] := fun a0 => rfl
  refine W_to (tr _) ?_; clear tr
  refine at_seq rfl ?_
  refine rg rfl ?_
  refine R_box rfl (by simp (disch := first | omega | (simp only [List.length_map, List.length_append, List.length_set, List.length_cons, List.length_nil, List.length_take, List.length_drop]; omega)) only [go_sem, ↓reduceIte, Nat.reduceEqDiff, reduceCtorEq]; rfl) rfl rfl ?_
  refine Rq ?_
  refine Rq ?_
  have tr : ∀ y0 y1 y2 y3 y4 y8 z0 z1 z2 : AV, trim [(3, z2), (2, z1), (1, z0), (0, y0), (1, y1), (2, y2), (3, y3), (4, y4), (8, y8)] [(0, y0), (1, y1), (2, y2), (3, y3), (4, y4), (8, y8)] = [(0, y0), (1, z0), (2, z1), (3, z2), (4, y4), (8, y8)] := fun y0 y1 y2 y3 y4 y8 z0 z1 z2 => rfl
  refine R_nil (tr _ _ _ _ _ _ _ _ _) ?_; clear tr
  refine then_n ?_
  refine at_seq rfl ?_
  refine at_seq rfl ?_
  refine rg rfl ?_
  refine Rq ?_
  refine Rcall ?_
  refine ACall_eq (rcheck_ok _ _ rows q la) ?_
  refine Rq ?_
  have tr : ∀ y0 y1 y2 y3 y4 y8 z0 z1 z2 : AV, trim [(4, z2), (6, z1), (5, z0), (0, y0), (1, y1), (2, y2), (3, y3), (4, y4), (8, y8)] [(0, y0), (1, y1), (2, y2), (3, y3), (4, y4), (8, y8)] = [(0, y0), (1, y1), (2, y2), (3, y3), (4, z2), (8, y8)] := fun y0 y1 y2 y3 y4 y8 z0 z1 z2 => rfl
  refine R_nil (tr _ _ _ _ _ _ _ _ _) ?_; clear tr
  refine then_n ?_
  refine at_seq rfl ?_
  refine rg rfl ?_
  refine Rq ?_
  refine Rq ?_
  have tr : ∀ y0 y1 y2 y3 y4 y8 z0 z1 : AV, trim [(8, z1), (7, z0), (0, y0), (1, y1), (2, y2), (3, y3), (4, y4), (8, y8)] [(0, y0), (1, y1), (2, y2), (3, y3), (4, y4), (8, y8)] = [(0, y0), (1, y1), (2, y2), (3, y3), (4, y4), (8, z1)] := fun y0 y1 y2 y3 y4 y8 z0 z1 => rfl
  refine R_nil (tr _ _ _ _ _ _ _ _) ?_; clear tr
  refine then_n ?_
  refine cdd (fun h1 => ?_) (fun h1 => ?_)
  · try simp only [decide_eq_true_eq, decide_eq_false_iff_not, Bool.not_eq_true', Bool.not_eq_false', beq_iff_eq, beq_eq_false_iff_ne, ne_eq] at h1
    refine at_seq rfl ?_
    refine rg rfl ?_
    refine Rq ?_
    refine Rq ?_
    refine Rq ?_
    have tr : ∀ y0 y1 y2 y3 y4 y8 z0 z1 z2 : AV, trim [(3, z2), (2, z1), (9, z0), (0, y0), (1, y1), (2, y2), (3, y3), (4, y4), (8, y8)] [(0, y0), (1, y1), (2, y2), (3, y3), (4, y4), (8, y8)] = [(0, y0), (1, y1), (2, z1), (3, z2), (4, y4), (8, y8)] := fun y0 y1 y2 y3 y4 y8 z0 z1 z2 => rfl
    refine R_nil (tr _ _ _ _ _ _ _ _ _) ?_; clear tr
    refine then_n ?_
    refine at_ret rfl ?_
    refine then_r ?_
    refine fpure ?_
    refine ⟨?_, rfl⟩
    rw [statesS, if_pos (by assumption)]
  · try simp only [decide_eq_true_eq, decide_eq_false_iff_not, Bool.not_eq_true', Bool.not_eq_false', beq_iff_eq, beq_eq_false_iff_ne, ne_eq] at h1
    refine at_skip rfl ?_
    refine then_n ?_
    refine at_seq rfl ?_
    refine rg rfl ?_
    obtain ⟨g1, g2, g3, g4, g5, g6, g7, g8, g9, g10, g11⟩ := good_of (by assumption : checkS rows q la = 0)
    refine Rq ?_
    refine Rcall ?_
    refine ACall_eq (size_ok _ _ rows q la (by omega) (by omega) (by omega) (by omega) (by omega)) ?_
    refine Rq ?_
    refine Rq ?_
    have tr : ∀ y0 y1 y2 y3 y4 y8 z0 z1 z2 z3 : AV, trim [(3, z3), (2, z2), (11, z1), (10, z0), (0, y0), (1, y1), (2, y2), (3, y3), (4, y4), (8, y8)] [(0, y0), (1, y1), (2, y2), (3, y3), (4, y4), (8, y8)] = [(0, y0), (1, y1), (2, z2), (3, z3), (4, y4), (8, y8)] := fun y0 y1 y2 y3 y4 y8 z0 z1 z2 z3 => rfl
    refine R_nil (tr _ _ _ _ _ _ _ _ _ _) ?_; clear tr
    refine then_n ?_
    refine at_ret rfl ?_
    refine fpure ?_
    refine ⟨?_, rfl⟩
    rw [sz_ok g11]
    rw [statesS, if_neg (fun hh => hh (by assumption))]

end Go.Proofs.Ytmkalakojfpfgaa
