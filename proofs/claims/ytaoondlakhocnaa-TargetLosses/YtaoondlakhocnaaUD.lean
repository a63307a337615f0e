/-
  Walks of chapters 37, 39 and 40. The steps are written by program (walk.py).
-/
import Derived.Test.YtaoondlakhocnaaRW
set_option linter.unusedSimpArgs false
set_option linter.unusedVariables false
set_option maxHeartbeats 40000000
set_option maxRecDepth 4000
namespace Go.Proofs.Ytaoondlakhocnaa
open Go Go.Am

theorem target_fz (lim : Nat) (H : Heap) (rows : Tb) (per tot wth balls : Int) (l m : List Stp) (x y : AV) (hx : frz H 0 7 x = stopsAV l) (hy : frz H 0 7 y = stopsAV m) :
    ACall sig lim 19 [.agg [rowsAV rows, AV.i per, AV.i tot, AV.i wth, AV.i balls, x, y]] H fun r H' => r = .tup [AV.i (tgtS rows per tot wth balls l m).1, AV.i (tgtS rows per tot wth balls l m).2] ∧ H' = H := by
  have hargs : [AV.agg [rowsAV rows, AV.i per, AV.i tot, AV.i wth, AV.i balls, x, y]].map (frz H 0 8) = [.agg [rowsAV rows, AV.i per, AV.i tot, AV.i wth, AV.i balls, stopsAV l, stopsAV m]] := by
    show [AV.agg [frz H 0 7 (rowsAV rows), AV.i per, AV.i tot, AV.i wth, AV.i balls, frz H 0 7 x, frz H 0 7 y]] = _
    rw [frz_rows, hx, hy]
  refine ACall_data (fa := fa19) rfl rfl rfl rfl hargs ?_
  have tr : ∀ a0 : AV, env0 fa19.keep [a0] = [(0, a0), (1, .any), (2, .any), (3, .any), (4, .any), (5, .any), (6, .any), (7, .any), (16, .any)] := fun a0 => rfl
  refine W_to (tr _) ?_; clear tr
  refine at_seq rfl ?_
  refine rg rfl ?_
  refine R_box rfl (by simp (disch := first | omega | (simp only [List.length_map, List.length_append, List.length_set, List.length_cons, List.length_nil, List.length_take, List.length_drop]; omega)) only [go_sem, ↓reduceIte, Nat.reduceEqDiff, reduceCtorEq]; rfl) rfl rfl ?_
  refine Rq ?_
  refine Rq ?_
  have tr : ∀ y0 y1 y2 y3 y4 y5 y6 y7 y16 z0 z1 z2 : AV, trim [(3, z2), (2, z1), (1, z0), (0, y0), (1, y1), (2, y2), (3, y3), (4, y4), (5, y5), (6, y6), (7, y7), (16, y16)] [(0, y0), (1, y1), (2, y2), (3, y3), (4, y4), (5, y5), (6, y6), (7, y7), (16, y16)] = [(0, y0), (1, z0), (2, z1), (3, z2), (4, y4), (5, y5), (6, y6), (7, y7), (16, y16)] := fun y0 y1 y2 y3 y4 y5 y6 y7 y16 z0 z1 z2 => rfl
  refine R_nil (tr _ _ _ _ _ _ _ _ _ _ _ _) ?_; clear tr
  refine then_n ?_
  refine at_seq rfl ?_
  refine rg rfl ?_
  refine Rq ?_
  refine Rcall ?_
  refine ACall_eq (res_ok _ _ rows per tot wth balls l m) ?_
  refine Rq ?_
  refine Rq ?_
  refine Rq ?_
  refine Rq ?_
  refine Rq ?_
  refine Rq ?_
  refine Rq ?_
  refine Rq ?_
  refine Rq ?_
  have tr : ∀ y0 y1 y2 y3 y4 y5 y6 y7 y16 z0 z1 z2 z3 z4 z5 z6 z7 z8 z9 z10 : AV, trim [(7, z10), (6, z9), (5, z8), (4, z7), (14, z6), (13, z5), (12, z4), (11, z3), (8, z2), (10, z1), (9, z0), (0, y0), (1, y1), (2, y2), (3, y3), (4, y4), (5, y5), (6, y6), (7, y7), (16, y16)] [(0, y0), (1, y1), (2, y2), (3, y3), (4, y4), (5, y5), (6, y6), (7, y7), (16, y16)] = [(0, y0), (1, y1), (2, y2), (3, y3), (4, z7), (5, z8), (6, z9), (7, z10), (16, y16)] := fun y0 y1 y2 y3 y4 y5 y6 y7 y16 z0 z1 z2 z3 z4 z5 z6 z7 z8 z9 z10 => rfl
  refine R_nil (tr _ _ _ _ _ _ _ _ _ _ _ _ _ _ _ _ _ _ _ _) ?_; clear tr
  refine then_n ?_
  refine at_seq rfl ?_
  refine at_seq rfl ?_
  refine rg rfl ?_
  refine Rq ?_
  refine Rq ?_
  have tr : ∀ y0 y1 y2 y3 y4 y5 y6 y7 y16 z0 z1 : AV, trim [(16, z1), (15, z0), (0, y0), (1, y1), (2, y2), (3, y3), (4, y4), (5, y5), (6, y6), (7, y7), (16, y16)] [(0, y0), (1, y1), (2, y2), (3, y3), (4, y4), (5, y5), (6, y6), (7, y7), (16, y16)] = [(0, y0), (1, y1), (2, y2), (3, y3), (4, y4), (5, y5), (6, y6), (7, y7), (16, z1)] := fun y0 y1 y2 y3 y4 y5 y6 y7 y16 z0 z1 => rfl
  refine R_nil (tr _ _ _ _ _ _ _ _ _ _ _) ?_; clear tr
  refine then_n ?_
  refine cdd (fun h1 => ?_) (fun h1 => ?_)
  · try simp only [decide_eq_true_eq, decide_eq_false_iff_not, Bool.not_eq_true', Bool.not_eq_false', beq_iff_eq, beq_eq_false_iff_ne, ne_eq] at h1
    refine at_seq rfl ?_
    refine rg rfl ?_
    refine Rq ?_
    refine Rq ?_
    refine Rq ?_
    have tr : ∀ y0 y1 y2 y3 y4 y5 y6 y7 y16 z0 z1 z2 : AV, trim [(3, z2), (2, z1), (17, z0), (0, y0), (1, y1), (2, y2), (3, y3), (4, y4), (5, y5), (6, y6), (7, y7), (16, y16)] [(0, y0), (1, y1), (2, y2), (3, y3), (4, y4), (5, y5), (6, y6), (7, y7), (16, y16)] = [(0, y0), (1, y1), (2, z1), (3, z2), (4, y4), (5, y5), (6, y6), (7, y7), (16, y16)] := fun y0 y1 y2 y3 y4 y5 y6 y7 y16 z0 z1 z2 => rfl
    refine R_nil (tr _ _ _ _ _ _ _ _ _ _ _ _) ?_; clear tr
    refine then_n ?_
    refine at_ret rfl ?_
    refine then_r ?_
    refine fpure ?_
    refine ⟨rfl, ?_, rfl⟩
    rw [tgtS, if_pos (by assumption)]
  · try simp only [decide_eq_true_eq, decide_eq_false_iff_not, Bool.not_eq_true', Bool.not_eq_false', beq_iff_eq, beq_eq_false_iff_ne, ne_eq] at h1
    refine at_skip rfl ?_
    refine then_n ?_
    refine at_seq rfl ?_
    refine rg rfl ?_
    have e3 : res3 rows per balls l m = 10000 * per := by rw [res3, if_pos (by assumption)]
    have hper := res_per (by assumption : resE rows per balls l m = 0)
    refine Rq ?_
    refine Rq ?_
    refine Rq ?_
    refine Rq ?_
    refine Rq ?_
    refine Rq ?_
    refine Rq ?_
    refine Rcall ?_
    refine ACall_eq (rev_ok _ _ tot (res1 rows per balls l m) (res2 rows per balls l m) (res3 rows per balls l m) wth) ?_
    refine Rq ?_
    refine Rq ?_
    refine Rq ?_
    refine Rq ?_
    have tr : ∀ y0 y1 y2 y3 y4 y5 y6 y7 y16 z0 z1 z2 z3 z4 z5 z6 z7 z8 z9 z10 z11 : AV, trim [(3, z11), (2, z10), (27, z9), (26, z8), (25, z7), (24, z6), (23, z5), (22, z4), (21, z3), (20, z2), (19, z1), (18, z0), (0, y0), (1, y1), (2, y2), (3, y3), (4, y4), (5, y5), (6, y6), (7, y7), (16, y16)] [(0, y0), (1, y1), (2, y2), (3, y3), (4, y4), (5, y5), (6, y6), (7, y7), (16, y16)] = [(0, y0), (1, y1), (2, z10), (3, z11), (4, y4), (5, y5), (6, y6), (7, y7), (16, y16)] := fun y0 y1 y2 y3 y4 y5 y6 y7 y16 z0 z1 z2 z3 z4 z5 z6 z7 z8 z9 z10 z11 => rfl
    refine R_nil (tr _ _ _ _ _ _ _ _ _ _ _ _ _ _ _ _ _ _ _ _ _) ?_; clear tr
    refine then_n ?_
    refine at_ret rfl ?_
    refine fpure ?_
    refine ⟨rfl, ?_, rfl⟩
    rw [tgtS, if_neg (by omega)]

end Go.Proofs.Ytaoondlakhocnaa
