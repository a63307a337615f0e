/-
  Walks of chapter 38. The steps are written by program (walk.py).
-/
import Derived.Test.YtdkhgpdojjdadaaWA
set_option linter.unusedSimpArgs false
set_option linter.unusedVariables false
set_option maxHeartbeats 40000000
set_option maxRecDepth 4000
namespace Go.Proofs.Ytdkhgpdojjdadaa
open Go Go.Am

theorem same_ok (lim : Nat) (H : Heap) (a b : List (List Int)) (ha : a.length ≤ 4611686018427387904) (hr : ∀ u, u < a.length → (gt a u).length ≤ 4611686018427387904) :
    ACall sig lim 14 [.agg [rowsAV a], .agg [rowsAV b]] H fun r H' => r = .v (.bool (decide (a = b))) ∧ H' = H := by
  refine ACall_pure (fa := fa14) rfl rfl rfl rfl ?_
  have tr : ∀ a0 a1 : AV, env0 fa14.keep [a0, a1] = [(0, a0), (1, a1), (2, .any), (3, .any), (4, .any), (5, .any), (6, .any), (7, .any), (8, .any), (15, .any), (17, .any), (18, .any), (19, .any), (20, .any), (32, .any), (33, .any), (34, .any), (35, .any), (36, .any), (49, .any)] := fun a0 a1 => rfl
  refine W_to (tr _ _) ?_; clear tr
  refine at_seq rfl ?_
  refine rg rfl ?_
  refine R_box rfl (by simp (disch := first | omega | (simp only [List.length_map, List.length_append, List.length_set, List.length_cons, List.length_nil, List.length_take, List.length_drop]; omega)) only [go_sem, ↓reduceIte, Nat.reduceEqDiff, reduceCtorEq]; rfl) rfl rfl ?_
  refine R_box rfl (by simp (disch := first | omega | (simp only [List.length_map, List.length_append, List.length_set, List.length_cons, List.length_nil, List.length_take, List.length_drop]; omega)) only [go_sem, ↓reduceIte, Nat.reduceEqDiff, reduceCtorEq]; rfl) rfl rfl ?_
  refine Rq ?_
  have tr : ∀ y0 y1 y2 y3 y4 y5 y6 y7 y8 y15 y17 y18 y19 y20 y32 y33 y34 y35 y36 y49 z0 z1 z2 : AV, trim [(4, z2), (3, z1), (2, z0), (0, y0), (1, y1), (2, y2), (3, y3), (4, y4), (5, y5), (6, y6), (7, y7), (8, y8), (15, y15), (17, y17), (18, y18), (19, y19), (20, y20), (32, y32), (33, y33), (34, y34), (35, y35), (36, y36), (49, y49)] [(0, y0), (1, y1), (2, y2), (3, y3), (4, y4), (5, y5), (6, y6), (7, y7), (8, y8), (15, y15), (17, y17), (18, y18), (19, y19), (20, y20), (32, y32), (33, y33), (34, y34), (35, y35), (36, y36), (49, y49)] = [(0, y0), (1, y1), (2, z0), (3, z1), (4, z2), (5, y5), (6, y6), (7, y7), (8, y8), (15, y15), (17, y17), (18, y18), (19, y19), (20, y20), (32, y32), (33, y33), (34, y34), (35, y35), (36, y36), (49, y49)] := fun y0 y1 y2 y3 y4 y5 y6 y7 y8 y15 y17 y18 y19 y20 y32 y33 y34 y35 y36 y49 z0 z1 z2 => rfl
  refine R_nil (tr _ _ _ _ _ _ _ _ _ _ _ _ _ _ _ _ _ _ _ _ _ _ _) ?_; clear tr
  refine then_n ?_
  refine at_seq rfl ?_
  refine at_seq rfl ?_
  refine rg rfl ?_
  refine Rq ?_
  refine Rq ?_
  refine Rq ?_
  refine Rq ?_
  refine Rq ?_
  refine Rq ?_
  refine Rq ?_
  have tr : ∀ y0 y1 y2 y3 y4 y5 y6 y7 y8 y15 y17 y18 y19 y20 y32 y33 y34 y35 y36 y49 z0 z1 z2 z3 z4 z5 z6 : AV, trim [(15, z6), (14, z5), (13, z4), (12, z3), (11, z2), (10, z1), (9, z0), (0, y0), (1, y1), (2, y2), (3, y3), (4, y4), (5, y5), (6, y6), (7, y7), (8, y8), (15, y15), (17, y17), (18, y18), (19, y19), (20, y20), (32, y32), (33, y33), (34, y34), (35, y35), (36, y36), (49, y49)] [(0, y0), (1, y1), (2, y2), (3, y3), (4, y4), (5, y5), (6, y6), (7, y7), (8, y8), (15, y15), (17, y17), (18, y18), (19, y19), (20, y20), (32, y32), (33, y33), (34, y34), (35, y35), (36, y36), (49, y49)] = [(0, y0), (1, y1), (2, y2), (3, y3), (4, y4), (5, y5), (6, y6), (7, y7), (8, y8), (15, z6), (17, y17), (18, y18), (19, y19), (20, y20), (32, y32), (33, y33), (34, y34), (35, y35), (36, y36), (49, y49)] := fun y0 y1 y2 y3 y4 y5 y6 y7 y8 y15 y17 y18 y19 y20 y32 y33 y34 y35 y36 y49 z0 z1 z2 z3 z4 z5 z6 => rfl
  refine R_nil (tr _ _ _ _ _ _ _ _ _ _ _ _ _ _ _ _ _ _ _ _ _ _ _ _ _ _ _) ?_; clear tr
  refine then_n ?_
  refine cdd (fun h1 => ?_) (fun h1 => ?_)
  · try simp only [decide_eq_true_eq, decide_eq_false_iff_not, Bool.not_eq_true', Bool.not_eq_false', beq_iff_eq, beq_eq_false_iff_ne, ne_eq] at h1
    refine at_seq rfl ?_
    refine rg rfl ?_
    refine Rq ?_
    have tr : ∀ y0 y1 y2 y3 y4 y5 y6 y7 y8 y15 y17 y18 y19 y20 y32 y33 y34 y35 y36 y49 z0 : AV, trim [(4, z0), (0, y0), (1, y1), (2, y2), (3, y3), (4, y4), (5, y5), (6, y6), (7, y7), (8, y8), (15, y15), (17, y17), (18, y18), (19, y19), (20, y20), (32, y32), (33, y33), (34, y34), (35, y35), (36, y36), (49, y49)] [(0, y0), (1, y1), (2, y2), (3, y3), (4, y4), (5, y5), (6, y6), (7, y7), (8, y8), (15, y15), (17, y17), (18, y18), (19, y19), (20, y20), (32, y32), (33, y33), (34, y34), (35, y35), (36, y36), (49, y49)] = [(0, y0), (1, y1), (2, y2), (3, y3), (4, z0), (5, y5), (6, y6), (7, y7), (8, y8), (15, y15), (17, y17), (18, y18), (19, y19), (20, y20), (32, y32), (33, y33), (34, y34), (35, y35), (36, y36), (49, y49)] := fun y0 y1 y2 y3 y4 y5 y6 y7 y8 y15 y17 y18 y19 y20 y32 y33 y34 y35 y36 y49 z0 => rfl
    refine R_nil (tr _ _ _ _ _ _ _ _ _ _ _ _ _ _ _ _ _ _ _ _ _) ?_; clear tr
    refine then_n ?_
    refine at_ret rfl ?_
    refine then_r ?_
    refine fpure ?_
    refine ⟨?_, rfl⟩
    rw [decide_eq_false (fun hh => by subst hh; omega)]
  · try simp only [decide_eq_true_eq, decide_eq_false_iff_not, Bool.not_eq_true', Bool.not_eq_false', beq_iff_eq, beq_eq_false_iff_ne, ne_eq] at h1
    refine at_skip rfl ?_
    refine then_n ?_
    refine at_seq rfl ?_
    refine at_seq rfl ?_
    refine rg rfl ?_
    refine Rq ?_
    refine Rq ?_
    refine Rq ?_
    refine Rq ?_
    have tr : ∀ y0 y1 y2 y3 y4 y5 y6 y7 y8 y15 y17 y18 y19 y20 y32 y33 y34 y35 y36 y49 z0 z1 z2 z3 : AV, trim [(19, z3), (18, z2), (17, z1), (16, z0), (0, y0), (1, y1), (2, y2), (3, y3), (4, y4), (5, y5), (6, y6), (7, y7), (8, y8), (15, y15), (17, y17), (18, y18), (19, y19), (20, y20), (32, y32), (33, y33), (34, y34), (35, y35), (36, y36), (49, y49)] [(0, y0), (1, y1), (2, y2), (3, y3), (4, y4), (5, y5), (6, y6), (7, y7), (8, y8), (15, y15), (17, y17), (18, y18), (19, y19), (20, y20), (32, y32), (33, y33), (34, y34), (35, y35), (36, y36), (49, y49)] = [(0, y0), (1, y1), (2, y2), (3, y3), (4, y4), (5, y5), (6, y6), (7, y7), (8, y8), (15, y15), (17, z1), (18, z2), (19, z3), (20, y20), (32, y32), (33, y33), (34, y34), (35, y35), (36, y36), (49, y49)] := fun y0 y1 y2 y3 y4 y5 y6 y7 y8 y15 y17 y18 y19 y20 y32 y33 y34 y35 y36 y49 z0 z1 z2 z3 => rfl
    refine R_nil (tr _ _ _ _ _ _ _ _ _ _ _ _ _ _ _ _ _ _ _ _ _ _ _ _) ?_; clear tr
    refine then_n ?_
    refine at_block rfl ?_
    refine loop_n rfl (fun mm kv H' => ∃ u : Nat, ∃ x4 x5 x6 x7 x8 x20 x32 x33 x34 x35 x36 x49 : AV, (kv = [(4, x4), (5, x5), (6, x6), (7, x7), (8, x8), (19, AV.i u), (20, x20), (32, x32), (33, x33), (34, x34), (35, x35), (36, x36), (49, x49)]) ∧ (mm = a.length - u) ∧ (H' = H ++ [some [rowsAV a]] ++ [some [rowsAV b]]) ∧ (u ≤ a.length) ∧ (∀ i, i < u → gt a i = gt b i)) ⟨0, _, _, _, _, _, _, _, _, _, _, _, _, rfl, rfl, rfl, by omega, by intro i hi; omega⟩ (by rfl) ?_
    rintro mm kv H' ⟨u, x4, x5, x6, x7, x8, x20, x32, x33, x34, x35, x36, x49, rfl, rfl, rfl, hu, hq⟩
    have tr : ∀ y0 y1 y2 y3 y4 y5 y6 y7 y8 y15 y17 y18 y19 y20 y32 y33 y34 y35 y36 y49 z4 z5 z6 z7 z8 z19 z20 z32 z33 z34 z35 z36 z49 : AV, upd [(0, y0), (1, y1), (2, y2), (3, y3), (4, y4), (5, y5), (6, y6), (7, y7), (8, y8), (15, y15), (17, y17), (18, y18), (19, y19), (20, y20), (32, y32), (33, y33), (34, y34), (35, y35), (36, y36), (49, y49)] [(4, z4), (5, z5), (6, z6), (7, z7), (8, z8), (19, z19), (20, z20), (32, z32), (33, z33), (34, z34), (35, z35), (36, z36), (49, z49)] = [(0, y0), (1, y1), (2, y2), (3, y3), (4, z4), (5, z5), (6, z6), (7, z7), (8, z8), (15, y15), (17, y17), (18, y18), (19, z19), (20, z20), (32, z32), (33, z33), (34, z34), (35, z35), (36, z36), (49, z49)] := fun y0 y1 y2 y3 y4 y5 y6 y7 y8 y15 y17 y18 y19 y20 y32 y33 y34 y35 y36 y49 z4 z5 z6 z7 z8 z19 z20 z32 z33 z34 z35 z36 z49 => rfl
    refine W_to (tr _ _ _ _ _ _ _ _ _ _ _ _ _ _ _ _ _ _ _ _ _ _ _ _ _ _ _ _ _ _ _ _ _) ?_; clear tr
    refine at_seq rfl ?_
    refine rg rfl ?_
    refine Rq ?_
    have tr : ∀ y0 y1 y2 y3 y4 y5 y6 y7 y8 y15 y17 y18 y19 y20 y32 y33 y34 y35 y36 y49 z0 : AV, trim [(20, z0), (0, y0), (1, y1), (2, y2), (3, y3), (4, y4), (5, y5), (6, y6), (7, y7), (8, y8), (15, y15), (17, y17), (18, y18), (19, y19), (20, y20), (32, y32), (33, y33), (34, y34), (35, y35), (36, y36), (49, y49)] [(0, y0), (1, y1), (2, y2), (3, y3), (4, y4), (5, y5), (6, y6), (7, y7), (8, y8), (15, y15), (17, y17), (18, y18), (19, y19), (20, y20), (32, y32), (33, y33), (34, y34), (35, y35), (36, y36), (49, y49)] = [(0, y0), (1, y1), (2, y2), (3, y3), (4, y4), (5, y5), (6, y6), (7, y7), (8, y8), (15, y15), (17, y17), (18, y18), (19, y19), (20, z0), (32, y32), (33, y33), (34, y34), (35, y35), (36, y36), (49, y49)] := fun y0 y1 y2 y3 y4 y5 y6 y7 y8 y15 y17 y18 y19 y20 y32 y33 y34 y35 y36 y49 z0 => rfl
    refine R_nil (tr _ _ _ _ _ _ _ _ _ _ _ _ _ _ _ _ _ _ _ _ _) ?_; clear tr
    refine then_n ?_
    refine at_seq rfl ?_
    refine cdd (fun h2 => ?_) (fun h2 => ?_)
    · try simp only [decide_eq_true_eq, decide_eq_false_iff_not, Bool.not_eq_true', Bool.not_eq_false', beq_iff_eq, beq_eq_false_iff_ne, ne_eq] at h2
      refine at_skip rfl ?_
      refine then_n ?_
      refine at_seq rfl ?_
      refine at_block rfl ?_
      refine at_seq rfl ?_
      refine rg rfl ?_
      have hru := hr u (by omega)
      refine Rq ?_
      refine Rq ?_
      refine Rq ?_
      refine Rq ?_
      refine Rq ?_
      have tr : ∀ y0 y1 y2 y3 y4 y5 y6 y7 y8 y15 y17 y18 y19 y20 y32 y33 y34 y35 y36 y49 z0 z1 z2 z3 z4 : AV, trim [(6, z4), (5, z3), (23, z2), (22, z1), (21, z0), (0, y0), (1, y1), (2, y2), (3, y3), (4, y4), (5, y5), (6, y6), (7, y7), (8, y8), (15, y15), (17, y17), (18, y18), (19, y19), (20, y20), (32, y32), (33, y33), (34, y34), (35, y35), (36, y36), (49, y49)] [(0, y0), (1, y1), (2, y2), (3, y3), (4, y4), (5, y5), (6, y6), (7, y7), (8, y8), (15, y15), (17, y17), (18, y18), (19, y19), (20, y20), (32, y32), (33, y33), (34, y34), (35, y35), (36, y36), (49, y49)] = [(0, y0), (1, y1), (2, y2), (3, y3), (4, y4), (5, z3), (6, z4), (7, y7), (8, y8), (15, y15), (17, y17), (18, y18), (19, y19), (20, y20), (32, y32), (33, y33), (34, y34), (35, y35), (36, y36), (49, y49)] := fun y0 y1 y2 y3 y4 y5 y6 y7 y8 y15 y17 y18 y19 y20 y32 y33 y34 y35 y36 y49 z0 z1 z2 z3 z4 => rfl
      refine R_nil (tr _ _ _ _ _ _ _ _ _ _ _ _ _ _ _ _ _ _ _ _ _ _ _ _ _) ?_; clear tr
      refine then_n ?_
      refine at_seq rfl ?_
      refine at_seq rfl ?_
      refine rg rfl ?_
      refine Rq ?_
      refine Rq ?_
      refine Rq ?_
      refine Rq ?_
      refine Rq ?_
      refine Rq ?_
      refine Rq ?_
      refine Rq ?_
      refine Rq ?_
      have tr : ∀ y0 y1 y2 y3 y4 y5 y6 y7 y8 y15 y17 y18 y19 y20 y32 y33 y34 y35 y36 y49 z0 z1 z2 z3 z4 z5 z6 z7 z8 : AV, trim [(32, z8), (31, z7), (30, z6), (29, z5), (28, z4), (27, z3), (26, z2), (25, z1), (24, z0), (0, y0), (1, y1), (2, y2), (3, y3), (4, y4), (5, y5), (6, y6), (7, y7), (8, y8), (15, y15), (17, y17), (18, y18), (19, y19), (20, y20), (32, y32), (33, y33), (34, y34), (35, y35), (36, y36), (49, y49)] [(0, y0), (1, y1), (2, y2), (3, y3), (4, y4), (5, y5), (6, y6), (7, y7), (8, y8), (15, y15), (17, y17), (18, y18), (19, y19), (20, y20), (32, y32), (33, y33), (34, y34), (35, y35), (36, y36), (49, y49)] = [(0, y0), (1, y1), (2, y2), (3, y3), (4, y4), (5, y5), (6, y6), (7, y7), (8, y8), (15, y15), (17, y17), (18, y18), (19, y19), (20, y20), (32, z8), (33, y33), (34, y34), (35, y35), (36, y36), (49, y49)] := fun y0 y1 y2 y3 y4 y5 y6 y7 y8 y15 y17 y18 y19 y20 y32 y33 y34 y35 y36 y49 z0 z1 z2 z3 z4 z5 z6 z7 z8 => rfl
      refine R_nil (tr _ _ _ _ _ _ _ _ _ _ _ _ _ _ _ _ _ _ _ _ _ _ _ _ _ _ _ _ _) ?_; clear tr
      refine then_n ?_
      refine cdd (fun h3 => ?_) (fun h3 => ?_)
      · try simp only [decide_eq_true_eq, decide_eq_false_iff_not, Bool.not_eq_true', Bool.not_eq_false', beq_iff_eq, beq_eq_false_iff_ne, ne_eq] at h3
        refine at_seq rfl ?_
        refine rg rfl ?_
        refine Rq ?_
        have tr : ∀ y0 y1 y2 y3 y4 y5 y6 y7 y8 y15 y17 y18 y19 y20 y32 y33 y34 y35 y36 y49 z0 : AV, trim [(4, z0), (0, y0), (1, y1), (2, y2), (3, y3), (4, y4), (5, y5), (6, y6), (7, y7), (8, y8), (15, y15), (17, y17), (18, y18), (19, y19), (20, y20), (32, y32), (33, y33), (34, y34), (35, y35), (36, y36), (49, y49)] [(0, y0), (1, y1), (2, y2), (3, y3), (4, y4), (5, y5), (6, y6), (7, y7), (8, y8), (15, y15), (17, y17), (18, y18), (19, y19), (20, y20), (32, y32), (33, y33), (34, y34), (35, y35), (36, y36), (49, y49)] = [(0, y0), (1, y1), (2, y2), (3, y3), (4, z0), (5, y5), (6, y6), (7, y7), (8, y8), (15, y15), (17, y17), (18, y18), (19, y19), (20, y20), (32, y32), (33, y33), (34, y34), (35, y35), (36, y36), (49, y49)] := fun y0 y1 y2 y3 y4 y5 y6 y7 y8 y15 y17 y18 y19 y20 y32 y33 y34 y35 y36 y49 z0 => rfl
        refine R_nil (tr _ _ _ _ _ _ _ _ _ _ _ _ _ _ _ _ _ _ _ _ _) ?_; clear tr
        refine then_n ?_
        refine at_ret rfl ?_
        refine then_r ?_
        refine blk_r ?_
        refine then_r ?_
        refine then_r ?_
        refine blk_r ?_
        refine then_r ?_
        refine fpure ?_
        refine ⟨?_, rfl⟩
        rw [decide_eq_false (fun hh => by subst hh; omega)]
      · try simp only [decide_eq_true_eq, decide_eq_false_iff_not, Bool.not_eq_true', Bool.not_eq_false', beq_iff_eq, beq_eq_false_iff_ne, ne_eq] at h3
        refine at_skip rfl ?_
        refine then_n ?_
        refine at_seq rfl ?_
        refine rg rfl ?_
        refine Rq ?_
        refine Rq ?_
        refine Rq ?_
        have tr : ∀ y0 y1 y2 y3 y4 y5 y6 y7 y8 y15 y17 y18 y19 y20 y32 y33 y34 y35 y36 y49 z0 z1 z2 : AV, trim [(35, z2), (34, z1), (33, z0), (0, y0), (1, y1), (2, y2), (3, y3), (4, y4), (5, y5), (6, y6), (7, y7), (8, y8), (15, y15), (17, y17), (18, y18), (19, y19), (20, y20), (32, y32), (33, y33), (34, y34), (35, y35), (36, y36), (49, y49)] [(0, y0), (1, y1), (2, y2), (3, y3), (4, y4), (5, y5), (6, y6), (7, y7), (8, y8), (15, y15), (17, y17), (18, y18), (19, y19), (20, y20), (32, y32), (33, y33), (34, y34), (35, y35), (36, y36), (49, y49)] = [(0, y0), (1, y1), (2, y2), (3, y3), (4, y4), (5, y5), (6, y6), (7, y7), (8, y8), (15, y15), (17, y17), (18, y18), (19, y19), (20, y20), (32, y32), (33, z0), (34, z1), (35, z2), (36, y36), (49, y49)] := fun y0 y1 y2 y3 y4 y5 y6 y7 y8 y15 y17 y18 y19 y20 y32 y33 y34 y35 y36 y49 z0 z1 z2 => rfl
        refine R_nil (tr _ _ _ _ _ _ _ _ _ _ _ _ _ _ _ _ _ _ _ _ _ _ _) ?_; clear tr
        refine then_n ?_
        refine at_block rfl ?_
        refine loop_n rfl (fun mm kv H' => ∃ w : Nat, ∃ x4 x7 x8 x36 x49 : AV, (kv = [(4, x4), (7, x7), (8, x8), (35, AV.i w), (36, x36), (49, x49)]) ∧ (mm = (gt a u).length - w) ∧ (H' = H ++ [some [rowsAV a]] ++ [some [rowsAV b]]) ∧ (w ≤ (gt a u).length) ∧ (∀ j, j < w → gt (gt a u) j = gt (gt b u) j)) ⟨0, _, _, _, _, _, rfl, rfl, rfl, by omega, by intro i hi; omega⟩ (by rfl) ?_
        rintro mm kv H' ⟨w, x4, x7, x8, x36, x49, rfl, rfl, rfl, hw, hs⟩
        have tr : ∀ y0 y1 y2 y3 y4 y5 y6 y7 y8 y15 y17 y18 y19 y20 y32 y33 y34 y35 y36 y49 z4 z7 z8 z35 z36 z49 : AV, upd [(0, y0), (1, y1), (2, y2), (3, y3), (4, y4), (5, y5), (6, y6), (7, y7), (8, y8), (15, y15), (17, y17), (18, y18), (19, y19), (20, y20), (32, y32), (33, y33), (34, y34), (35, y35), (36, y36), (49, y49)] [(4, z4), (7, z7), (8, z8), (35, z35), (36, z36), (49, z49)] = [(0, y0), (1, y1), (2, y2), (3, y3), (4, z4), (5, y5), (6, y6), (7, z7), (8, z8), (15, y15), (17, y17), (18, y18), (19, y19), (20, y20), (32, y32), (33, y33), (34, y34), (35, z35), (36, z36), (49, z49)] := fun y0 y1 y2 y3 y4 y5 y6 y7 y8 y15 y17 y18 y19 y20 y32 y33 y34 y35 y36 y49 z4 z7 z8 z35 z36 z49 => rfl
        refine W_to (tr _ _ _ _ _ _ _ _ _ _ _ _ _ _ _ _ _ _ _ _ _ _ _ _ _ _) ?_; clear tr
        refine at_seq rfl ?_
        refine rg rfl ?_
        refine Rq ?_
        have tr : ∀ y0 y1 y2 y3 y4 y5 y6 y7 y8 y15 y17 y18 y19 y20 y32 y33 y34 y35 y36 y49 z0 : AV, trim [(36, z0), (0, y0), (1, y1), (2, y2), (3, y3), (4, y4), (5, y5), (6, y6), (7, y7), (8, y8), (15, y15), (17, y17), (18, y18), (19, y19), (20, y20), (32, y32), (33, y33), (34, y34), (35, y35), (36, y36), (49, y49)] [(0, y0), (1, y1), (2, y2), (3, y3), (4, y4), (5, y5), (6, y6), (7, y7), (8, y8), (15, y15), (17, y17), (18, y18), (19, y19), (20, y20), (32, y32), (33, y33), (34, y34), (35, y35), (36, y36), (49, y49)] = [(0, y0), (1, y1), (2, y2), (3, y3), (4, y4), (5, y5), (6, y6), (7, y7), (8, y8), (15, y15), (17, y17), (18, y18), (19, y19), (20, y20), (32, y32), (33, y33), (34, y34), (35, y35), (36, z0), (49, y49)] := fun y0 y1 y2 y3 y4 y5 y6 y7 y8 y15 y17 y18 y19 y20 y32 y33 y34 y35 y36 y49 z0 => rfl
        refine R_nil (tr _ _ _ _ _ _ _ _ _ _ _ _ _ _ _ _ _ _ _ _ _) ?_; clear tr
        refine then_n ?_
        refine at_seq rfl ?_
        refine cdd (fun h4 => ?_) (fun h4 => ?_)
        · try simp only [decide_eq_true_eq, decide_eq_false_iff_not, Bool.not_eq_true', Bool.not_eq_false', beq_iff_eq, beq_eq_false_iff_ne, ne_eq] at h4
          refine at_skip rfl ?_
          refine then_n ?_
          refine at_seq rfl ?_
          refine at_block rfl ?_
          refine at_seq rfl ?_
          refine rg rfl ?_
          refine Rq ?_
          refine Rq ?_
          refine Rq ?_
          refine Rq ?_
          refine Rq ?_
          have tr : ∀ y0 y1 y2 y3 y4 y5 y6 y7 y8 y15 y17 y18 y19 y20 y32 y33 y34 y35 y36 y49 z0 z1 z2 z3 z4 : AV, trim [(8, z4), (7, z3), (39, z2), (38, z1), (37, z0), (0, y0), (1, y1), (2, y2), (3, y3), (4, y4), (5, y5), (6, y6), (7, y7), (8, y8), (15, y15), (17, y17), (18, y18), (19, y19), (20, y20), (32, y32), (33, y33), (34, y34), (35, y35), (36, y36), (49, y49)] [(0, y0), (1, y1), (2, y2), (3, y3), (4, y4), (5, y5), (6, y6), (7, y7), (8, y8), (15, y15), (17, y17), (18, y18), (19, y19), (20, y20), (32, y32), (33, y33), (34, y34), (35, y35), (36, y36), (49, y49)] = [(0, y0), (1, y1), (2, y2), (3, y3), (4, y4), (5, y5), (6, y6), (7, z3), (8, z4), (15, y15), (17, y17), (18, y18), (19, y19), (20, y20), (32, y32), (33, y33), (34, y34), (35, y35), (36, y36), (49, y49)] := fun y0 y1 y2 y3 y4 y5 y6 y7 y8 y15 y17 y18 y19 y20 y32 y33 y34 y35 y36 y49 z0 z1 z2 z3 z4 => rfl
          refine R_nil (tr _ _ _ _ _ _ _ _ _ _ _ _ _ _ _ _ _ _ _ _ _ _ _ _ _) ?_; clear tr
          refine then_n ?_
          refine at_seq rfl ?_
          refine rg rfl ?_
          refine Rq ?_
          refine Rq ?_
          refine Rq ?_
          refine Rq ?_
          refine Rq ?_
          refine Rq ?_
          refine Rq ?_
          refine Rq ?_
          refine Rq ?_
          refine Rq ?_
          have tr : ∀ y0 y1 y2 y3 y4 y5 y6 y7 y8 y15 y17 y18 y19 y20 y32 y33 y34 y35 y36 y49 z0 z1 z2 z3 z4 z5 z6 z7 z8 z9 : AV, trim [(49, z9), (48, z8), (47, z7), (46, z6), (45, z5), (44, z4), (43, z3), (42, z2), (41, z1), (40, z0), (0, y0), (1, y1), (2, y2), (3, y3), (4, y4), (5, y5), (6, y6), (7, y7), (8, y8), (15, y15), (17, y17), (18, y18), (19, y19), (20, y20), (32, y32), (33, y33), (34, y34), (35, y35), (36, y36), (49, y49)] [(0, y0), (1, y1), (2, y2), (3, y3), (4, y4), (5, y5), (6, y6), (7, y7), (8, y8), (15, y15), (17, y17), (18, y18), (19, y19), (20, y20), (32, y32), (33, y33), (34, y34), (35, y35), (36, y36), (49, y49)] = [(0, y0), (1, y1), (2, y2), (3, y3), (4, y4), (5, y5), (6, y6), (7, y7), (8, y8), (15, y15), (17, y17), (18, y18), (19, y19), (20, y20), (32, y32), (33, y33), (34, y34), (35, y35), (36, y36), (49, z9)] := fun y0 y1 y2 y3 y4 y5 y6 y7 y8 y15 y17 y18 y19 y20 y32 y33 y34 y35 y36 y49 z0 z1 z2 z3 z4 z5 z6 z7 z8 z9 => rfl
          refine R_nil (tr _ _ _ _ _ _ _ _ _ _ _ _ _ _ _ _ _ _ _ _ _ _ _ _ _ _ _ _ _ _) ?_; clear tr
          refine then_n ?_
          refine cdd (fun h5 => ?_) (fun h5 => ?_)
          · try simp only [decide_eq_true_eq, decide_eq_false_iff_not, Bool.not_eq_true', Bool.not_eq_false', beq_iff_eq, beq_eq_false_iff_ne, ne_eq] at h5
            refine at_seq rfl ?_
            refine rg rfl ?_
            refine Rq ?_
            have tr : ∀ y0 y1 y2 y3 y4 y5 y6 y7 y8 y15 y17 y18 y19 y20 y32 y33 y34 y35 y36 y49 z0 : AV, trim [(4, z0), (0, y0), (1, y1), (2, y2), (3, y3), (4, y4), (5, y5), (6, y6), (7, y7), (8, y8), (15, y15), (17, y17), (18, y18), (19, y19), (20, y20), (32, y32), (33, y33), (34, y34), (35, y35), (36, y36), (49, y49)] [(0, y0), (1, y1), (2, y2), (3, y3), (4, y4), (5, y5), (6, y6), (7, y7), (8, y8), (15, y15), (17, y17), (18, y18), (19, y19), (20, y20), (32, y32), (33, y33), (34, y34), (35, y35), (36, y36), (49, y49)] = [(0, y0), (1, y1), (2, y2), (3, y3), (4, z0), (5, y5), (6, y6), (7, y7), (8, y8), (15, y15), (17, y17), (18, y18), (19, y19), (20, y20), (32, y32), (33, y33), (34, y34), (35, y35), (36, y36), (49, y49)] := fun y0 y1 y2 y3 y4 y5 y6 y7 y8 y15 y17 y18 y19 y20 y32 y33 y34 y35 y36 y49 z0 => rfl
            refine R_nil (tr _ _ _ _ _ _ _ _ _ _ _ _ _ _ _ _ _ _ _ _ _) ?_; clear tr
            refine then_n ?_
            refine at_ret rfl ?_
            refine blk_r ?_
            refine then_r ?_
            refine then_r ?_
            refine blk_r ?_
            refine blk_r ?_
            refine then_r ?_
            refine then_r ?_
            refine blk_r ?_
            refine then_r ?_
            refine fpure ?_
            refine ⟨?_, rfl⟩
            rw [decide_eq_false (fun hh => by subst hh; omega)]
          · try simp only [decide_eq_true_eq, decide_eq_false_iff_not, Bool.not_eq_true', Bool.not_eq_false', beq_iff_eq, beq_eq_false_iff_ne, ne_eq] at h5
            refine at_skip rfl ?_
            refine blk_n ?_
            refine then_n ?_
            refine rg rfl ?_
            refine Rq ?_
            refine Rq ?_
            have tr : ∀ y0 y1 y2 y3 y4 y5 y6 y7 y8 y15 y17 y18 y19 y20 y32 y33 y34 y35 y36 y49 z0 z1 : AV, trim [(35, z1), (50, z0), (0, y0), (1, y1), (2, y2), (3, y3), (4, y4), (5, y5), (6, y6), (7, y7), (8, y8), (15, y15), (17, y17), (18, y18), (19, y19), (20, y20), (32, y32), (33, y33), (34, y34), (35, y35), (36, y36), (49, y49)] [(0, y0), (1, y1), (2, y2), (3, y3), (4, y4), (5, y5), (6, y6), (7, y7), (8, y8), (15, y15), (17, y17), (18, y18), (19, y19), (20, y20), (32, y32), (33, y33), (34, y34), (35, y35), (36, y36), (49, y49)] = [(0, y0), (1, y1), (2, y2), (3, y3), (4, y4), (5, y5), (6, y6), (7, y7), (8, y8), (15, y15), (17, y17), (18, y18), (19, y19), (20, y20), (32, y32), (33, y33), (34, y34), (35, z1), (36, y36), (49, y49)] := fun y0 y1 y2 y3 y4 y5 y6 y7 y8 y15 y17 y18 y19 y20 y32 y33 y34 y35 y36 y49 z0 z1 => rfl
            refine R_nil (tr _ _ _ _ _ _ _ _ _ _ _ _ _ _ _ _ _ _ _ _ _ _) ?_; clear tr
            refine then_n ?_
            exact ⟨_, _, ⟨w + 1, _, _, _, _, _, rfl, rfl, rfl, by omega, by exact all_step hs (by omega)⟩, by rfl, by omega⟩
        · try simp only [decide_eq_true_eq, decide_eq_false_iff_not, Bool.not_eq_true', Bool.not_eq_false', beq_iff_eq, beq_eq_false_iff_ne, ne_eq] at h4
          refine at_exit rfl ?_
          refine then_x ?_
          refine then_x ?_
          refine blk_x ?_
          refine blk_n ?_
          refine then_n ?_
          refine rg rfl ?_
          refine Rq ?_
          refine Rq ?_
          have tr : ∀ y0 y1 y2 y3 y4 y5 y6 y7 y8 y15 y17 y18 y19 y20 y32 y33 y34 y35 y36 y49 z0 z1 : AV, trim [(19, z1), (51, z0), (0, y0), (1, y1), (2, y2), (3, y3), (4, y4), (5, y5), (6, y6), (7, y7), (8, y8), (15, y15), (17, y17), (18, y18), (19, y19), (20, y20), (32, y32), (33, y33), (34, y34), (35, y35), (36, y36), (49, y49)] [(0, y0), (1, y1), (2, y2), (3, y3), (4, y4), (5, y5), (6, y6), (7, y7), (8, y8), (15, y15), (17, y17), (18, y18), (19, y19), (20, y20), (32, y32), (33, y33), (34, y34), (35, y35), (36, y36), (49, y49)] = [(0, y0), (1, y1), (2, y2), (3, y3), (4, y4), (5, y5), (6, y6), (7, y7), (8, y8), (15, y15), (17, y17), (18, y18), (19, z1), (20, y20), (32, y32), (33, y33), (34, y34), (35, y35), (36, y36), (49, y49)] := fun y0 y1 y2 y3 y4 y5 y6 y7 y8 y15 y17 y18 y19 y20 y32 y33 y34 y35 y36 y49 z0 z1 => rfl
          refine R_nil (tr _ _ _ _ _ _ _ _ _ _ _ _ _ _ _ _ _ _ _ _ _ _) ?_; clear tr
          refine then_n ?_
          exact ⟨_, _, ⟨u + 1, _, _, _, _, _, _, _, _, _, _, _, _, rfl, rfl, rfl, by omega, by exact all_step hq (ext_gt (by omega) fun i hi => hs i (by omega))⟩, by rfl, by omega⟩
    · try simp only [decide_eq_true_eq, decide_eq_false_iff_not, Bool.not_eq_true', Bool.not_eq_false', beq_iff_eq, beq_eq_false_iff_ne, ne_eq] at h2
      refine at_exit rfl ?_
      refine then_x ?_
      refine then_x ?_
      refine blk_x ?_
      refine then_n ?_
      refine at_seq rfl ?_
      refine rg rfl ?_
      refine Rq ?_
      have tr : ∀ y0 y1 y2 y3 y4 y5 y6 y7 y8 y15 y17 y18 y19 y20 y32 y33 y34 y35 y36 y49 z0 : AV, trim [(4, z0), (0, y0), (1, y1), (2, y2), (3, y3), (4, y4), (5, y5), (6, y6), (7, y7), (8, y8), (15, y15), (17, y17), (18, y18), (19, y19), (20, y20), (32, y32), (33, y33), (34, y34), (35, y35), (36, y36), (49, y49)] [(0, y0), (1, y1), (2, y2), (3, y3), (4, y4), (5, y5), (6, y6), (7, y7), (8, y8), (15, y15), (17, y17), (18, y18), (19, y19), (20, y20), (32, y32), (33, y33), (34, y34), (35, y35), (36, y36), (49, y49)] = [(0, y0), (1, y1), (2, y2), (3, y3), (4, z0), (5, y5), (6, y6), (7, y7), (8, y8), (15, y15), (17, y17), (18, y18), (19, y19), (20, y20), (32, y32), (33, y33), (34, y34), (35, y35), (36, y36), (49, y49)] := fun y0 y1 y2 y3 y4 y5 y6 y7 y8 y15 y17 y18 y19 y20 y32 y33 y34 y35 y36 y49 z0 => rfl
      refine R_nil (tr _ _ _ _ _ _ _ _ _ _ _ _ _ _ _ _ _ _ _ _ _) ?_; clear tr
      refine then_n ?_
      refine at_ret rfl ?_
      refine fpure ?_
      refine ⟨?_, rfl⟩
      rw [decide_eq_true (ext_gt (by omega) fun i hi => hq i (by omega))]

end Go.Proofs.Ytdkhgpdojjdadaa
