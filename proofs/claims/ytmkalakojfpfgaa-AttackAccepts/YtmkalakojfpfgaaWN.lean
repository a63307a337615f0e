/-
  Walks of chapter 46. The steps are written by program (walk.py).
-/
import Derived.Test.YtmkalakojfpfgaaWL
import Derived.Test.YtmkalakojfpfgaaWM
import Derived.Test.YtmkalakojfpfgaaRD
set_option linter.unusedSimpArgs false
set_option linter.unusedVariables false
set_option maxHeartbeats 40000000
set_option maxRecDepth 4000
namespace Go.Proofs.Ytmkalakojfpfgaa
open Go Go.Am

theorem accept_ok (lim : Nat) (H : Heap) (rows : Tb) (q la0 : Int) (w : List Int) (v : Int) (P : List Int) (x y y0 : AV) (hx : frz H 0 7 x = intsAV w) (hy0 : frz H 0 7 y0 = y) (hsy : storable y = true) (hy : (costS rows q la0 w).2 = 0 → y = intsAV P) (hPL : P.length ≤ 9223372036854775807) (hPb : ∀ i, gt P i ≤ 9223372036854775807) :
    ACall sig lim 19 [.agg [rowsAV rows, AV.i q, AV.i la0], .agg [x, AV.i v, y0]] H fun r H' => r = AV.i (acceptS rows q la0 w v P) ∧ H' = H := by
  have hargs : [.agg [rowsAV rows, AV.i q, AV.i la0], .agg [x, AV.i v, y0]].map (frz H 0 8) = [.agg [rowsAV rows, AV.i q, AV.i la0], .agg [intsAV w, AV.i v, y]] := by
    show [AV.agg [frz H 0 7 (rowsAV rows), AV.i q, AV.i la0], AV.agg [frz H 0 7 x, AV.i v, frz H 0 7 y0]] = _
    rw [frz_rowsA, hx, hy0]
  refine ACall_data (fa := fa19) rfl rfl rfl rfl hargs ?_
  have tr : ∀ a0 a1 : AV, env0 fa19.keep [a0, a1] = [(0, a0), (1, a1), (2, .any), (3, .any), (4, .any), (5, .any), (6, .any), (7, .any), (15, .any), (19, .any), (24, .any), (32, .any), (33, .any), (34, .any), (41, .any), (52, .any)] := fun a0 a1 => rfl
  refine W_to (tr _ _) ?_; clear tr
  refine at_seq rfl ?_
  refine rg rfl ?_
  refine R_box rfl (by simp (disch := first | omega | (simp only [List.length_map, List.length_append, List.length_set, List.length_cons, List.length_nil, List.length_take, List.length_drop]; omega)) only [go_sem, ↓reduceIte, Nat.reduceEqDiff, reduceCtorEq, hsy]; rfl) rfl rfl ?_
  refine R_box rfl (by simp (disch := first | omega | (simp only [List.length_map, List.length_append, List.length_set, List.length_cons, List.length_nil, List.length_take, List.length_drop]; omega)) only [go_sem, ↓reduceIte, Nat.reduceEqDiff, reduceCtorEq, hsy]; rfl) rfl rfl ?_
  refine Rq ?_
  have tr : ∀ y0 y1 y2 y3 y4 y5 y6 y7 y15 y19 y24 y32 y33 y34 y41 y52 z0 z1 z2 : AV, trim [(4, z2), (3, z1), (2, z0), (0, y0), (1, y1), (2, y2), (3, y3), (4, y4), (5, y5), (6, y6), (7, y7), (15, y15), (19, y19), (24, y24), (32, y32), (33, y33), (34, y34), (41, y41), (52, y52)] [(0, y0), (1, y1), (2, y2), (3, y3), (4, y4), (5, y5), (6, y6), (7, y7), (15, y15), (19, y19), (24, y24), (32, y32), (33, y33), (34, y34), (41, y41), (52, y52)] = [(0, y0), (1, y1), (2, z0), (3, z1), (4, z2), (5, y5), (6, y6), (7, y7), (15, y15), (19, y19), (24, y24), (32, y32), (33, y33), (34, y34), (41, y41), (52, y52)] := fun y0 y1 y2 y3 y4 y5 y6 y7 y15 y19 y24 y32 y33 y34 y41 y52 z0 z1 z2 => rfl
  refine R_nil (tr _ _ _ _ _ _ _ _ _ _ _ _ _ _ _ _ _ _ _) ?_; clear tr
  refine then_n ?_
  refine at_seq rfl ?_
  refine rg rfl ?_
  refine R_q rfl (by simp (disch := first | omega | (simp only [List.length_map, List.length_append, List.length_set, List.length_cons, List.length_nil, List.length_take, List.length_drop]; omega)) only [go_sem, ↓reduceIte, Nat.reduceEqDiff, reduceCtorEq, hsy]; rfl) ?_
  refine Rq ?_
  refine R_q rfl (by simp (disch := first | omega | (simp only [List.length_map, List.length_append, List.length_set, List.length_cons, List.length_nil, List.length_take, List.length_drop]; omega)) only [go_sem, ↓reduceIte, Nat.reduceEqDiff, reduceCtorEq, hsy]; rfl) ?_
  refine Rcall ?_
  refine ACall_eq (cost_ok _ _ rows q la0 w) ?_
  refine Rq ?_
  refine Rq ?_
  refine Rq ?_
  refine Rq ?_
  refine Rq ?_
  have tr : ∀ y0 y1 y2 y3 y4 y5 y6 y7 y15 y19 y24 y32 y33 y34 y41 y52 z0 z1 z2 z3 z4 z5 z6 z7 z8 : AV, trim [(6, z8), (5, z7), (14, z6), (13, z5), (8, z4), (12, z3), (11, z2), (10, z1), (9, z0), (0, y0), (1, y1), (2, y2), (3, y3), (4, y4), (5, y5), (6, y6), (7, y7), (15, y15), (19, y19), (24, y24), (32, y32), (33, y33), (34, y34), (41, y41), (52, y52)] [(0, y0), (1, y1), (2, y2), (3, y3), (4, y4), (5, y5), (6, y6), (7, y7), (15, y15), (19, y19), (24, y24), (32, y32), (33, y33), (34, y34), (41, y41), (52, y52)] = [(0, y0), (1, y1), (2, y2), (3, y3), (4, y4), (5, z7), (6, z8), (7, y7), (15, y15), (19, y19), (24, y24), (32, y32), (33, y33), (34, y34), (41, y41), (52, y52)] := fun y0 y1 y2 y3 y4 y5 y6 y7 y15 y19 y24 y32 y33 y34 y41 y52 z0 z1 z2 z3 z4 z5 z6 z7 z8 => rfl
  refine R_nil (tr _ _ _ _ _ _ _ _ _ _ _ _ _ _ _ _ _ _ _ _ _ _ _ _ _) ?_; clear tr
  refine then_n ?_
  refine at_seq rfl ?_
  refine at_block rfl ?_
  refine at_seq rfl ?_
  refine rg rfl ?_
  refine Rq ?_
  refine Rq ?_
  refine Rq ?_
  have tr : ∀ y0 y1 y2 y3 y4 y5 y6 y7 y15 y19 y24 y32 y33 y34 y41 y52 z0 z1 z2 : AV, trim [(15, z2), (17, z1), (16, z0), (0, y0), (1, y1), (2, y2), (3, y3), (4, y4), (5, y5), (6, y6), (7, y7), (15, y15), (19, y19), (24, y24), (32, y32), (33, y33), (34, y34), (41, y41), (52, y52)] [(0, y0), (1, y1), (2, y2), (3, y3), (4, y4), (5, y5), (6, y6), (7, y7), (15, y15), (19, y19), (24, y24), (32, y32), (33, y33), (34, y34), (41, y41), (52, y52)] = [(0, y0), (1, y1), (2, y2), (3, y3), (4, y4), (5, y5), (6, y6), (7, y7), (15, z2), (19, y19), (24, y24), (32, y32), (33, y33), (34, y34), (41, y41), (52, y52)] := fun y0 y1 y2 y3 y4 y5 y6 y7 y15 y19 y24 y32 y33 y34 y41 y52 z0 z1 z2 => rfl
  refine R_nil (tr _ _ _ _ _ _ _ _ _ _ _ _ _ _ _ _ _ _ _) ?_; clear tr
  refine then_n ?_
  refine cdd (fun h1 => ?_) (fun h1 => ?_)
  · try simp only [decide_eq_true_eq, decide_eq_false_iff_not, Bool.not_eq_true', Bool.not_eq_false', beq_iff_eq, beq_eq_false_iff_ne, ne_eq] at h1
    refine at_seq rfl ?_
    refine rg rfl ?_
    refine Rq ?_
    refine Rq ?_
    have tr : ∀ y0 y1 y2 y3 y4 y5 y6 y7 y15 y19 y24 y32 y33 y34 y41 y52 z0 z1 : AV, trim [(4, z1), (18, z0), (0, y0), (1, y1), (2, y2), (3, y3), (4, y4), (5, y5), (6, y6), (7, y7), (15, y15), (19, y19), (24, y24), (32, y32), (33, y33), (34, y34), (41, y41), (52, y52)] [(0, y0), (1, y1), (2, y2), (3, y3), (4, y4), (5, y5), (6, y6), (7, y7), (15, y15), (19, y19), (24, y24), (32, y32), (33, y33), (34, y34), (41, y41), (52, y52)] = [(0, y0), (1, y1), (2, y2), (3, y3), (4, z1), (5, y5), (6, y6), (7, y7), (15, y15), (19, y19), (24, y24), (32, y32), (33, y33), (34, y34), (41, y41), (52, y52)] := fun y0 y1 y2 y3 y4 y5 y6 y7 y15 y19 y24 y32 y33 y34 y41 y52 z0 z1 => rfl
    refine R_nil (tr _ _ _ _ _ _ _ _ _ _ _ _ _ _ _ _ _ _) ?_; clear tr
    refine then_n ?_
    refine at_ret rfl ?_
    refine blk_r ?_
    refine then_r ?_
    refine fpure ?_
    refine ⟨rfl, ?_, rfl⟩
    rw [acc_cost (by assumption)]
  · try simp only [decide_eq_true_eq, decide_eq_false_iff_not, Bool.not_eq_true', Bool.not_eq_false', beq_iff_eq, beq_eq_false_iff_ne, ne_eq] at h1
    refine at_seq rfl ?_
    refine rg rfl ?_
    refine Rq ?_
    refine Rq ?_
    refine R_q rfl (by simp (disch := first | omega | (simp only [List.length_map, List.length_append, List.length_set, List.length_cons, List.length_nil, List.length_take, List.length_drop]; omega)) only [go_sem, ↓reduceIte, Nat.reduceEqDiff, reduceCtorEq, hsy]; rfl) ?_
    refine Rq ?_
    refine Rq ?_
    have tr : ∀ y0 y1 y2 y3 y4 y5 y6 y7 y15 y19 y24 y32 y33 y34 y41 y52 z0 z1 z2 z3 z4 : AV, trim [(19, z4), (23, z3), (22, z2), (21, z1), (20, z0), (0, y0), (1, y1), (2, y2), (3, y3), (4, y4), (5, y5), (6, y6), (7, y7), (15, y15), (19, y19), (24, y24), (32, y32), (33, y33), (34, y34), (41, y41), (52, y52)] [(0, y0), (1, y1), (2, y2), (3, y3), (4, y4), (5, y5), (6, y6), (7, y7), (15, y15), (19, y19), (24, y24), (32, y32), (33, y33), (34, y34), (41, y41), (52, y52)] = [(0, y0), (1, y1), (2, y2), (3, y3), (4, y4), (5, y5), (6, y6), (7, y7), (15, y15), (19, z4), (24, y24), (32, y32), (33, y33), (34, y34), (41, y41), (52, y52)] := fun y0 y1 y2 y3 y4 y5 y6 y7 y15 y19 y24 y32 y33 y34 y41 y52 z0 z1 z2 z3 z4 => rfl
    refine R_nil (tr _ _ _ _ _ _ _ _ _ _ _ _ _ _ _ _ _ _ _ _ _) ?_; clear tr
    refine then_n ?_
    refine cdd (fun h2 => ?_) (fun h2 => ?_)
    · try simp only [decide_eq_true_eq, decide_eq_false_iff_not, Bool.not_eq_true', Bool.not_eq_false', beq_iff_eq, beq_eq_false_iff_ne, ne_eq] at h2
      refine at_seq rfl ?_
      refine rg rfl ?_
      refine Rq ?_
      have tr : ∀ y0 y1 y2 y3 y4 y5 y6 y7 y15 y19 y24 y32 y33 y34 y41 y52 z0 : AV, trim [(4, z0), (0, y0), (1, y1), (2, y2), (3, y3), (4, y4), (5, y5), (6, y6), (7, y7), (15, y15), (19, y19), (24, y24), (32, y32), (33, y33), (34, y34), (41, y41), (52, y52)] [(0, y0), (1, y1), (2, y2), (3, y3), (4, y4), (5, y5), (6, y6), (7, y7), (15, y15), (19, y19), (24, y24), (32, y32), (33, y33), (34, y34), (41, y41), (52, y52)] = [(0, y0), (1, y1), (2, y2), (3, y3), (4, z0), (5, y5), (6, y6), (7, y7), (15, y15), (19, y19), (24, y24), (32, y32), (33, y33), (34, y34), (41, y41), (52, y52)] := fun y0 y1 y2 y3 y4 y5 y6 y7 y15 y19 y24 y32 y33 y34 y41 y52 z0 => rfl
      refine R_nil (tr _ _ _ _ _ _ _ _ _ _ _ _ _ _ _ _ _) ?_; clear tr
      refine then_n ?_
      refine at_ret rfl ?_
      refine blk_r ?_
      refine then_r ?_
      refine fpure ?_
      refine ⟨rfl, ?_, rfl⟩
      rw [acc_sum (by assumption) (by assumption)]
    · try simp only [decide_eq_true_eq, decide_eq_false_iff_not, Bool.not_eq_true', Bool.not_eq_false', beq_iff_eq, beq_eq_false_iff_ne, ne_eq] at h2
      refine at_seq rfl ?_
      refine rg rfl ?_
      have he : (costS rows q la0 w).2 = 0 := by assumption
      obtain rfl := hy he
      have g : Good rows q la0 := good_of (cost_chk he).1
      obtain ⟨g1, g2, g3, g4, g5, g6, g7, g8, g9, g10, g11⟩ := id g
      have hq0 : 0 ≤ q := by omega
      have hnum := num_eq g
      have hnb := num_bd g
      have hz := zero_st g
      have hzi := zero_idx rows q la0
      have hzr := idx_rng hq0 hz
      refine R_q rfl (by simp (disch := first | omega | (simp only [List.length_map, List.length_append, List.length_set, List.length_cons, List.length_nil, List.length_take, List.length_drop]; omega)) only [go_sem, ↓reduceIte, Nat.reduceEqDiff, reduceCtorEq, hsy]; rfl) ?_
      refine Rq ?_
      refine R_q rfl (by simp (disch := first | omega | (simp only [List.length_map, List.length_append, List.length_set, List.length_cons, List.length_nil, List.length_take, List.length_drop]; omega)) only [go_sem, ↓reduceIte, Nat.reduceEqDiff, reduceCtorEq, hsy]; rfl) ?_
      refine Rcall ?_
      refine ACall_eq (formed_ok _ _ rows q la0 g P hPL) ?_
      refine Rq ?_
      refine Rq ?_
      have tr : ∀ y0 y1 y2 y3 y4 y5 y6 y7 y15 y19 y24 y32 y33 y34 y41 y52 z0 z1 z2 z3 z4 z5 : AV, trim [(24, z5), (29, z4), (28, z3), (27, z2), (26, z1), (25, z0), (0, y0), (1, y1), (2, y2), (3, y3), (4, y4), (5, y5), (6, y6), (7, y7), (15, y15), (19, y19), (24, y24), (32, y32), (33, y33), (34, y34), (41, y41), (52, y52)] [(0, y0), (1, y1), (2, y2), (3, y3), (4, y4), (5, y5), (6, y6), (7, y7), (15, y15), (19, y19), (24, y24), (32, y32), (33, y33), (34, y34), (41, y41), (52, y52)] = [(0, y0), (1, y1), (2, y2), (3, y3), (4, y4), (5, y5), (6, y6), (7, y7), (15, y15), (19, y19), (24, z5), (32, y32), (33, y33), (34, y34), (41, y41), (52, y52)] := fun y0 y1 y2 y3 y4 y5 y6 y7 y15 y19 y24 y32 y33 y34 y41 y52 z0 z1 z2 z3 z4 z5 => rfl
      refine R_nil (tr _ _ _ _ _ _ _ _ _ _ _ _ _ _ _ _ _ _ _ _ _ _) ?_; clear tr
      refine then_n ?_
      refine cdd (fun h3 => ?_) (fun h3 => ?_)
      · try simp only [decide_eq_true_eq, decide_eq_false_iff_not, Bool.not_eq_true', Bool.not_eq_false', beq_iff_eq, beq_eq_false_iff_ne, ne_eq] at h3
        refine at_seq rfl ?_
        refine rg rfl ?_
        refine Rq ?_
        have tr : ∀ y0 y1 y2 y3 y4 y5 y6 y7 y15 y19 y24 y32 y33 y34 y41 y52 z0 : AV, trim [(4, z0), (0, y0), (1, y1), (2, y2), (3, y3), (4, y4), (5, y5), (6, y6), (7, y7), (15, y15), (19, y19), (24, y24), (32, y32), (33, y33), (34, y34), (41, y41), (52, y52)] [(0, y0), (1, y1), (2, y2), (3, y3), (4, y4), (5, y5), (6, y6), (7, y7), (15, y15), (19, y19), (24, y24), (32, y32), (33, y33), (34, y34), (41, y41), (52, y52)] = [(0, y0), (1, y1), (2, y2), (3, y3), (4, z0), (5, y5), (6, y6), (7, y7), (15, y15), (19, y19), (24, y24), (32, y32), (33, y33), (34, y34), (41, y41), (52, y52)] := fun y0 y1 y2 y3 y4 y5 y6 y7 y15 y19 y24 y32 y33 y34 y41 y52 z0 => rfl
        refine R_nil (tr _ _ _ _ _ _ _ _ _ _ _ _ _ _ _ _ _) ?_; clear tr
        refine then_n ?_
        refine at_ret rfl ?_
        refine blk_r ?_
        refine then_r ?_
        refine fpure ?_
        refine ⟨rfl, ?_, rfl⟩
        rw [acc_form (by assumption) (by assumption) (form_not (by assumption))]
      · try simp only [decide_eq_true_eq, decide_eq_false_iff_not, Bool.not_eq_true', Bool.not_eq_false', beq_iff_eq, beq_eq_false_iff_ne, ne_eq] at h3
        refine at_skip rfl ?_
        refine blk_n ?_
        refine then_n ?_
        refine at_seq rfl ?_
        refine at_seq rfl ?_
        refine rg rfl ?_
        have hfa := form_of (by assumption : formB rows q P = true)
        have hPl := hfa.1
        refine Rq ?_
        refine R_q rfl (by simp (disch := first | omega | (simp only [List.length_map, List.length_append, List.length_set, List.length_cons, List.length_nil, List.length_take, List.length_drop]; omega)) only [go_sem, ↓reduceIte, Nat.reduceEqDiff, reduceCtorEq, hsy]; rfl) ?_
        refine Rq ?_
        refine Rq ?_
        have tr : ∀ y0 y1 y2 y3 y4 y5 y6 y7 y15 y19 y24 y32 y33 y34 y41 y52 z0 z1 z2 z3 : AV, trim [(33, z3), (32, z2), (31, z1), (30, z0), (0, y0), (1, y1), (2, y2), (3, y3), (4, y4), (5, y5), (6, y6), (7, y7), (15, y15), (19, y19), (24, y24), (32, y32), (33, y33), (34, y34), (41, y41), (52, y52)] [(0, y0), (1, y1), (2, y2), (3, y3), (4, y4), (5, y5), (6, y6), (7, y7), (15, y15), (19, y19), (24, y24), (32, y32), (33, y33), (34, y34), (41, y41), (52, y52)] = [(0, y0), (1, y1), (2, y2), (3, y3), (4, y4), (5, y5), (6, y6), (7, y7), (15, y15), (19, y19), (24, y24), (32, z2), (33, z3), (34, y34), (41, y41), (52, y52)] := fun y0 y1 y2 y3 y4 y5 y6 y7 y15 y19 y24 y32 y33 y34 y41 y52 z0 z1 z2 z3 => rfl
        refine R_nil (tr _ _ _ _ _ _ _ _ _ _ _ _ _ _ _ _ _ _ _ _) ?_; clear tr
        refine then_n ?_
        refine at_block rfl ?_
        refine loop_n rfl (fun mm kv H' => ∃ u : Nat, ∃ x4 x7 x34 x41 : AV, (kv = [(4, x4), (7, x7), (33, AV.i u), (34, x34), (41, x41)]) ∧ (mm = P.length - u) ∧ (H' = [] ++ [some [rowsAV rows, AV.i q, AV.i la0]] ++ [some [intsAV w, AV.i v, intsAV P]]) ∧ (u ≤ P.length) ∧ (∀ k, k < u → BoundK rows q P k)) ⟨0, _, _, _, _, rfl, rfl, rfl, by omega, by intro k hk; omega⟩ (by rfl) ?_
        rintro mm kv H' ⟨u, x4, x7, x34, x41, rfl, rfl, rfl, hu, hb⟩
        have tr : ∀ y0 y1 y2 y3 y4 y5 y6 y7 y15 y19 y24 y32 y33 y34 y41 y52 z4 z7 z33 z34 z41 : AV, upd [(0, y0), (1, y1), (2, y2), (3, y3), (4, y4), (5, y5), (6, y6), (7, y7), (15, y15), (19, y19), (24, y24), (32, y32), (33, y33), (34, y34), (41, y41), (52, y52)] [(4, z4), (7, z7), (33, z33), (34, z34), (41, z41)] = [(0, y0), (1, y1), (2, y2), (3, y3), (4, z4), (5, y5), (6, y6), (7, z7), (15, y15), (19, y19), (24, y24), (32, y32), (33, z33), (34, z34), (41, z41), (52, y52)] := fun y0 y1 y2 y3 y4 y5 y6 y7 y15 y19 y24 y32 y33 y34 y41 y52 z4 z7 z33 z34 z41 => rfl
        refine W_to (tr _ _ _ _ _ _ _ _ _ _ _ _ _ _ _ _ _ _ _ _ _) ?_; clear tr
        refine at_seq rfl ?_
        refine rg rfl ?_
        refine Rq ?_
        have tr : ∀ y0 y1 y2 y3 y4 y5 y6 y7 y15 y19 y24 y32 y33 y34 y41 y52 z0 : AV, trim [(34, z0), (0, y0), (1, y1), (2, y2), (3, y3), (4, y4), (5, y5), (6, y6), (7, y7), (15, y15), (19, y19), (24, y24), (32, y32), (33, y33), (34, y34), (41, y41), (52, y52)] [(0, y0), (1, y1), (2, y2), (3, y3), (4, y4), (5, y5), (6, y6), (7, y7), (15, y15), (19, y19), (24, y24), (32, y32), (33, y33), (34, y34), (41, y41), (52, y52)] = [(0, y0), (1, y1), (2, y2), (3, y3), (4, y4), (5, y5), (6, y6), (7, y7), (15, y15), (19, y19), (24, y24), (32, y32), (33, y33), (34, z0), (41, y41), (52, y52)] := fun y0 y1 y2 y3 y4 y5 y6 y7 y15 y19 y24 y32 y33 y34 y41 y52 z0 => rfl
        refine R_nil (tr _ _ _ _ _ _ _ _ _ _ _ _ _ _ _ _ _) ?_; clear tr
        refine then_n ?_
        refine at_seq rfl ?_
        refine cdd (fun h4 => ?_) (fun h4 => ?_)
        · try simp only [decide_eq_true_eq, decide_eq_false_iff_not, Bool.not_eq_true', Bool.not_eq_false', beq_iff_eq, beq_eq_false_iff_ne, ne_eq] at h4
          refine at_skip rfl ?_
          refine then_n ?_
          refine at_seq rfl ?_
          refine at_block rfl ?_
          refine at_seq rfl ?_
          refine rg rfl ?_
          refine Rq ?_
          refine Rq ?_
          have tr : ∀ y0 y1 y2 y3 y4 y5 y6 y7 y15 y19 y24 y32 y33 y34 y41 y52 z0 z1 : AV, trim [(7, z1), (35, z0), (0, y0), (1, y1), (2, y2), (3, y3), (4, y4), (5, y5), (6, y6), (7, y7), (15, y15), (19, y19), (24, y24), (32, y32), (33, y33), (34, y34), (41, y41), (52, y52)] [(0, y0), (1, y1), (2, y2), (3, y3), (4, y4), (5, y5), (6, y6), (7, y7), (15, y15), (19, y19), (24, y24), (32, y32), (33, y33), (34, y34), (41, y41), (52, y52)] = [(0, y0), (1, y1), (2, y2), (3, y3), (4, y4), (5, y5), (6, y6), (7, z1), (15, y15), (19, y19), (24, y24), (32, y32), (33, y33), (34, y34), (41, y41), (52, y52)] := fun y0 y1 y2 y3 y4 y5 y6 y7 y15 y19 y24 y32 y33 y34 y41 y52 z0 z1 => rfl
          refine R_nil (tr _ _ _ _ _ _ _ _ _ _ _ _ _ _ _ _ _ _) ?_; clear tr
          refine then_n ?_
          refine at_seq rfl ?_
          refine rg rfl ?_
          refine R_q rfl (by simp (disch := first | omega | (simp only [List.length_map, List.length_append, List.length_set, List.length_cons, List.length_nil, List.length_take, List.length_drop]; omega)) only [go_sem, ↓reduceIte, Nat.reduceEqDiff, reduceCtorEq, hsy]; rfl) ?_
          refine Rq ?_
          refine R_q rfl (by simp (disch := first | omega | (simp only [List.length_map, List.length_append, List.length_set, List.length_cons, List.length_nil, List.length_take, List.length_drop]; omega)) only [go_sem, ↓reduceIte, Nat.reduceEqDiff, reduceCtorEq, hsy]; rfl) ?_
          refine Rq ?_
          refine Rcall ?_
          refine ACall_eq (bounded_ok _ _ rows q la0 g P hfa hPb u (by omega)) ?_
          refine Rq ?_
          have tr : ∀ y0 y1 y2 y3 y4 y5 y6 y7 y15 y19 y24 y32 y33 y34 y41 y52 z0 z1 z2 z3 z4 z5 : AV, trim [(41, z5), (40, z4), (39, z3), (38, z2), (37, z1), (36, z0), (0, y0), (1, y1), (2, y2), (3, y3), (4, y4), (5, y5), (6, y6), (7, y7), (15, y15), (19, y19), (24, y24), (32, y32), (33, y33), (34, y34), (41, y41), (52, y52)] [(0, y0), (1, y1), (2, y2), (3, y3), (4, y4), (5, y5), (6, y6), (7, y7), (15, y15), (19, y19), (24, y24), (32, y32), (33, y33), (34, y34), (41, y41), (52, y52)] = [(0, y0), (1, y1), (2, y2), (3, y3), (4, y4), (5, y5), (6, y6), (7, y7), (15, y15), (19, y19), (24, y24), (32, y32), (33, y33), (34, y34), (41, z5), (52, y52)] := fun y0 y1 y2 y3 y4 y5 y6 y7 y15 y19 y24 y32 y33 y34 y41 y52 z0 z1 z2 z3 z4 z5 => rfl
          refine R_nil (tr _ _ _ _ _ _ _ _ _ _ _ _ _ _ _ _ _ _ _ _ _ _) ?_; clear tr
          refine then_n ?_
          refine cdd (fun h5 => ?_) (fun h5 => ?_)
          · try simp only [decide_eq_true_eq, decide_eq_false_iff_not, Bool.not_eq_true', Bool.not_eq_false', beq_iff_eq, beq_eq_false_iff_ne, ne_eq] at h5
            refine at_seq rfl ?_
            refine rg rfl ?_
            refine Rq ?_
            have tr : ∀ y0 y1 y2 y3 y4 y5 y6 y7 y15 y19 y24 y32 y33 y34 y41 y52 z0 : AV, trim [(4, z0), (0, y0), (1, y1), (2, y2), (3, y3), (4, y4), (5, y5), (6, y6), (7, y7), (15, y15), (19, y19), (24, y24), (32, y32), (33, y33), (34, y34), (41, y41), (52, y52)] [(0, y0), (1, y1), (2, y2), (3, y3), (4, y4), (5, y5), (6, y6), (7, y7), (15, y15), (19, y19), (24, y24), (32, y32), (33, y33), (34, y34), (41, y41), (52, y52)] = [(0, y0), (1, y1), (2, y2), (3, y3), (4, z0), (5, y5), (6, y6), (7, y7), (15, y15), (19, y19), (24, y24), (32, y32), (33, y33), (34, y34), (41, y41), (52, y52)] := fun y0 y1 y2 y3 y4 y5 y6 y7 y15 y19 y24 y32 y33 y34 y41 y52 z0 => rfl
            refine R_nil (tr _ _ _ _ _ _ _ _ _ _ _ _ _ _ _ _ _) ?_; clear tr
            refine then_n ?_
            refine at_ret rfl ?_
            refine blk_r ?_
            refine then_r ?_
            refine then_r ?_
            refine blk_r ?_
            refine then_r ?_
            refine fpure ?_
            refine ⟨rfl, ?_, rfl⟩
            rw [acc_bound (by assumption) (by assumption) hfa (by omega : u < P.length) (bound_not (by assumption))]
          · try simp only [decide_eq_true_eq, decide_eq_false_iff_not, Bool.not_eq_true', Bool.not_eq_false', beq_iff_eq, beq_eq_false_iff_ne, ne_eq] at h5
            refine at_skip rfl ?_
            refine blk_n ?_
            refine then_n ?_
            refine rg rfl ?_
            refine Rq ?_
            refine Rq ?_
            have tr : ∀ y0 y1 y2 y3 y4 y5 y6 y7 y15 y19 y24 y32 y33 y34 y41 y52 z0 z1 : AV, trim [(33, z1), (42, z0), (0, y0), (1, y1), (2, y2), (3, y3), (4, y4), (5, y5), (6, y6), (7, y7), (15, y15), (19, y19), (24, y24), (32, y32), (33, y33), (34, y34), (41, y41), (52, y52)] [(0, y0), (1, y1), (2, y2), (3, y3), (4, y4), (5, y5), (6, y6), (7, y7), (15, y15), (19, y19), (24, y24), (32, y32), (33, y33), (34, y34), (41, y41), (52, y52)] = [(0, y0), (1, y1), (2, y2), (3, y3), (4, y4), (5, y5), (6, y6), (7, y7), (15, y15), (19, y19), (24, y24), (32, y32), (33, z1), (34, y34), (41, y41), (52, y52)] := fun y0 y1 y2 y3 y4 y5 y6 y7 y15 y19 y24 y32 y33 y34 y41 y52 z0 z1 => rfl
            refine R_nil (tr _ _ _ _ _ _ _ _ _ _ _ _ _ _ _ _ _ _) ?_; clear tr
            refine then_n ?_
            exact ⟨_, _, ⟨u + 1, _, _, _, _, rfl, rfl, rfl, by omega, by exact boundk_step hb (bound_of (by assumption))⟩, by rfl, by omega⟩
        · try simp only [decide_eq_true_eq, decide_eq_false_iff_not, Bool.not_eq_true', Bool.not_eq_false', beq_iff_eq, beq_eq_false_iff_ne, ne_eq] at h4
          refine at_exit rfl ?_
          refine then_x ?_
          refine then_x ?_
          refine blk_x ?_
          refine then_n ?_
          refine at_seq rfl ?_
          refine at_seq rfl ?_
          refine rd rfl rfl ?_
          refine Qq ?_
          refine Q_q rfl (by simp (disch := first | omega | (simp only [List.length_map, List.length_append, List.length_set, List.length_cons, List.length_nil, List.length_take, List.length_drop]; omega)) only [go_sem, ↓reduceIte, Nat.reduceEqDiff, reduceCtorEq, hsy]; rfl) ?_
          refine Qq ?_
          refine Q_q rfl (by simp (disch := first | omega | (simp only [List.length_map, List.length_append, List.length_set, List.length_cons, List.length_nil, List.length_take, List.length_drop]; omega)) only [go_sem, ↓reduceIte, Nat.reduceEqDiff, reduceCtorEq, hsy]; rfl) ?_
          refine Qq ?_
          refine Q_q rfl (by simp (disch := first | omega | (simp only [List.length_map, List.length_append, List.length_set, List.length_cons, List.length_nil, List.length_take, List.length_drop]; omega)) only [go_sem, ↓reduceIte, Nat.reduceEqDiff, reduceCtorEq, hsy]; rfl) ?_
          refine Qq ?_
          refine Qq ?_
          refine Q_q rfl (by simp (disch := first | omega | (simp only [List.length_map, List.length_append, List.length_set, List.length_cons, List.length_nil, List.length_take, List.length_drop]; omega)) only [go_sem, ↓reduceIte, Nat.reduceEqDiff, reduceCtorEq, hsy]; rfl) ?_
          refine Qq ?_
          refine Q_nil ?_
          have tr : ∀ y0 y1 y2 y3 y4 y5 y6 y7 y15 y19 y24 y32 y33 y34 y41 y52 z0 z1 z2 z3 z4 z5 z6 z7 z8 z9 : AV, trim [(52, z9), (51, z8), (50, z7), (49, z6), (48, z5), (47, z4), (46, z3), (45, z2), (44, z1), (43, z0), (0, y0), (1, y1), (2, y2), (3, y3), (4, y4), (5, y5), (6, y6), (7, y7), (15, y15), (19, y19), (24, y24), (32, y32), (33, y33), (34, y34), (41, y41), (52, y52)] [(0, y0), (1, y1), (2, y2), (3, y3), (4, y4), (5, y5), (6, y6), (7, y7), (15, y15), (19, y19), (24, y24), (32, y32), (33, y33), (34, y34), (41, y41), (52, y52)] = [(0, y0), (1, y1), (2, y2), (3, y3), (4, y4), (5, y5), (6, y6), (7, y7), (15, y15), (19, y19), (24, y24), (32, y32), (33, y33), (34, y34), (41, y41), (52, z9)] := fun y0 y1 y2 y3 y4 y5 y6 y7 y15 y19 y24 y32 y33 y34 y41 y52 z0 z1 z2 z3 z4 z5 z6 z7 z8 z9 => rfl
          refine R_nil (tr _ _ _ _ _ _ _ _ _ _ _ _ _ _ _ _ _ _ _ _ _ _ _ _ _ _) ?_; clear tr
          refine then_n ?_
          refine cdd (fun h6 => ?_) (fun h6 => ?_)
          · try simp only [decide_eq_true_eq, decide_eq_false_iff_not, Bool.not_eq_true', Bool.not_eq_false', beq_iff_eq, beq_eq_false_iff_ne, ne_eq] at h6
            refine at_seq rfl ?_
            refine rg rfl ?_
            refine Rq ?_
            have tr : ∀ y0 y1 y2 y3 y4 y5 y6 y7 y15 y19 y24 y32 y33 y34 y41 y52 z0 : AV, trim [(4, z0), (0, y0), (1, y1), (2, y2), (3, y3), (4, y4), (5, y5), (6, y6), (7, y7), (15, y15), (19, y19), (24, y24), (32, y32), (33, y33), (34, y34), (41, y41), (52, y52)] [(0, y0), (1, y1), (2, y2), (3, y3), (4, y4), (5, y5), (6, y6), (7, y7), (15, y15), (19, y19), (24, y24), (32, y32), (33, y33), (34, y34), (41, y41), (52, y52)] = [(0, y0), (1, y1), (2, y2), (3, y3), (4, z0), (5, y5), (6, y6), (7, y7), (15, y15), (19, y19), (24, y24), (32, y32), (33, y33), (34, y34), (41, y41), (52, y52)] := fun y0 y1 y2 y3 y4 y5 y6 y7 y15 y19 y24 y32 y33 y34 y41 y52 z0 => rfl
            refine R_nil (tr _ _ _ _ _ _ _ _ _ _ _ _ _ _ _ _ _) ?_; clear tr
            refine then_n ?_
            refine at_ret rfl ?_
            refine then_r ?_
            refine fpure ?_
            refine ⟨rfl, ?_, rfl⟩
            rw [acc_last (by assumption) (by assumption) hfa (fun k hk => hb k (by omega)), if_pos (by assumption)]
          · try simp only [decide_eq_true_eq, decide_eq_false_iff_not, Bool.not_eq_true', Bool.not_eq_false', beq_iff_eq, beq_eq_false_iff_ne, ne_eq] at h6
            refine at_skip rfl ?_
            refine then_n ?_
            refine at_seq rfl ?_
            refine rg rfl ?_
            refine Rq ?_
            have tr : ∀ y0 y1 y2 y3 y4 y5 y6 y7 y15 y19 y24 y32 y33 y34 y41 y52 z0 : AV, trim [(4, z0), (0, y0), (1, y1), (2, y2), (3, y3), (4, y4), (5, y5), (6, y6), (7, y7), (15, y15), (19, y19), (24, y24), (32, y32), (33, y33), (34, y34), (41, y41), (52, y52)] [(0, y0), (1, y1), (2, y2), (3, y3), (4, y4), (5, y5), (6, y6), (7, y7), (15, y15), (19, y19), (24, y24), (32, y32), (33, y33), (34, y34), (41, y41), (52, y52)] = [(0, y0), (1, y1), (2, y2), (3, y3), (4, z0), (5, y5), (6, y6), (7, y7), (15, y15), (19, y19), (24, y24), (32, y32), (33, y33), (34, y34), (41, y41), (52, y52)] := fun y0 y1 y2 y3 y4 y5 y6 y7 y15 y19 y24 y32 y33 y34 y41 y52 z0 => rfl
            refine R_nil (tr _ _ _ _ _ _ _ _ _ _ _ _ _ _ _ _ _) ?_; clear tr
            refine then_n ?_
            refine at_ret rfl ?_
            refine fpure ?_
            refine ⟨rfl, ?_, rfl⟩
            rw [acc_last (by assumption) (by assumption) hfa (fun k hk => hb k (by omega)), if_neg (by assumption)]

end Go.Proofs.Ytmkalakojfpfgaa
