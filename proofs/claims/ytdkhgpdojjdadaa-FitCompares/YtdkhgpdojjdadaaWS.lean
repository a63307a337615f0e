/-
  Walks of chapter 38. The steps are written by program (walk.py).
-/
import Derived.Test.YtdkhgpdojjdadaaWR
import Derived.Test.YtdkhgpdojjdadaaWN
import Derived.KernelRfl
set_option linter.unusedSimpArgs false
set_option linter.unusedVariables false
set_option maxHeartbeats 40000000
set_option maxRecDepth 4000
namespace Go.Proofs.Ytdkhgpdojjdadaa
open Go Go.Am

theorem same_nil (lim : Nat) (H : Heap) :
    ACall sig lim 14 [.agg [(.v (.slice none 0 0) : AV)], .agg [(.v (.slice none 0 0) : AV)]] H fun r H' => r = .v (.bool true) ∧ H' = H := by
  refine ACall_pure (fa := fa14) rfl rfl rfl rfl ?_
  have tr : ∀ a0 a1 : AV, env0 fa14.keep [a0, a1] = [(0, a0), (1, a1), (2, .any), (3, .any), (4, .any), (5, .any), (6, .any), (7, .any), (8, .any), (15, .any), (17, .any), (18, .any), (19, .any), (20, .any), (32, .any), (33, .any), (34, .any), (35, .any), (36, .any), (49, .any)] := fun a0 a1 => rfl
  refine W_to (tr _ _) ?_; clear tr
  refine at_seq rfl ?_
  refine rg rfl ?_
  refine R_box rfl (by simp (disch := first | omega | (simp only [List.length_map, List.length_append, List.length_set, List.length_cons, List.length_nil, List.length_take, List.length_drop]; omega)) only [go_sem, ↓reduceIte, Nat.reduceEqDiff, reduceCtorEq]; rfl) rfl rfl ?_
  refine R_box rfl (by simp (disch := first | omega | (simp only [List.length_map, List.length_append, List.length_set, List.length_cons, List.length_nil, List.length_take, List.length_drop]; omega)) only [go_sem, ↓reduceIte, Nat.reduceEqDiff, reduceCtorEq]; rfl) rfl rfl ?_
  refine Rq ?_
  have tr : ∀ y0 y1 y2 y3 y4 y5 y6 y7 y8 y15 y17 y18 y19 y20 y32 y33 y34 y35 y36 y49 z0 z1 z2 : AV, trim [(4, z2), (3, z1), (2, z0), (0, y0), (1, y1), (2, y2), (3, y3), (4, y4), (5, y5), (6, y6), (7, y7), (8, y8), (15, y15), (17, y17), (18, y18), (19, y19), (20, y20), (32, y32), (33, y33), (34, y34), (35, y35), (36, y36), (49, y49)] [(0, y0), (1, y1), (2, y2), (3, y3), (4, y4), (5, y5), (6, y6), (7, y7), (8, y8), (15, y15), (17, y17), (18, y18), (19, y19), (20, y20), (32, y32), (33, y33), (34, y34), (35, y35), (36, y36), (49, y49)] = [(0, y0), (1, y1), (2, z0), (3, z1), (4, z2), (5, y5), (6, y6), (7, y7), (8, y8), (15, y15), (17, y17), (18, y18), (19, y19), (20, y20), (32, y32), (33, y33), (34, y34), (35, y35), (36, y36), (49, y49)] := fun y0 y1 y2 y3 y4 y5 y6 y7 y8 y15 y17 y18 y19 y20 y32 y33 y34 y35 y36 y49 z0 z1 z2 => rfl
  refine R_nil (tr _ _ _ _ _ _ _ _ _ _ _ _ _ _ _ _ _ _ _ _ _ _ _) ?_; clear tr
  refine then_n ?_
  refine at_seq rfl ?_
  refine at_seq rfl ?_
  refine rg rfl ?_
  refine Rq ?_
  refine Rq ?_
  refine Rq ?_
  refine Rq ?_
  refine Rq ?_
  refine Rq ?_
  refine Rq ?_
  have tr : ∀ y0 y1 y2 y3 y4 y5 y6 y7 y8 y15 y17 y18 y19 y20 y32 y33 y34 y35 y36 y49 z0 z1 z2 z3 z4 z5 z6 : AV, trim [(15, z6), (14, z5), (13, z4), (12, z3), (11, z2), (10, z1), (9, z0), (0, y0), (1, y1), (2, y2), (3, y3), (4, y4), (5, y5), (6, y6), (7, y7), (8, y8), (15, y15), (17, y17), (18, y18), (19, y19), (20, y20), (32, y32), (33, y33), (34, y34), (35, y35), (36, y36), (49, y49)] [(0, y0), (1, y1), (2, y2), (3, y3), (4, y4), (5, y5), (6, y6), (7, y7), (8, y8), (15, y15), (17, y17), (18, y18), (19, y19), (20, y20), (32, y32), (33, y33), (34, y34), (35, y35), (36, y36), (49, y49)] = [(0, y0), (1, y1), (2, y2), (3, y3), (4, y4), (5, y5), (6, y6), (7, y7), (8, y8), (15, z6), (17, y17), (18, y18), (19, y19), (20, y20), (32, y32), (33, y33), (34, y34), (35, y35), (36, y36), (49, y49)] := fun y0 y1 y2 y3 y4 y5 y6 y7 y8 y15 y17 y18 y19 y20 y32 y33 y34 y35 y36 y49 z0 z1 z2 z3 z4 z5 z6 => rfl
  refine R_nil (tr _ _ _ _ _ _ _ _ _ _ _ _ _ _ _ _ _ _ _ _ _ _ _ _ _ _ _) ?_; clear tr
  refine then_n ?_
  refine cdd (fun h1 => ?_) (fun h1 => ?_)
  · try simp only [decide_eq_true_eq, decide_eq_false_iff_not, Bool.not_eq_true', Bool.not_eq_false', beq_iff_eq, beq_eq_false_iff_ne, ne_eq] at h1
    first | omega | exact absurd trivial (by assumption) | (exfalso; simp_all)
  · try simp only [decide_eq_true_eq, decide_eq_false_iff_not, Bool.not_eq_true', Bool.not_eq_false', beq_iff_eq, beq_eq_false_iff_ne, ne_eq] at h1
    refine at_skip rfl ?_
    refine then_n ?_
    refine at_seq rfl ?_
    refine at_seq rfl ?_
    refine rg rfl ?_
    refine Rq ?_
    refine Rq ?_
    refine Rq ?_
    refine Rq ?_
    have tr : ∀ y0 y1 y2 y3 y4 y5 y6 y7 y8 y15 y17 y18 y19 y20 y32 y33 y34 y35 y36 y49 z0 z1 z2 z3 : AV, trim [(19, z3), (18, z2), (17, z1), (16, z0), (0, y0), (1, y1), (2, y2), (3, y3), (4, y4), (5, y5), (6, y6), (7, y7), (8, y8), (15, y15), (17, y17), (18, y18), (19, y19), (20, y20), (32, y32), (33, y33), (34, y34), (35, y35), (36, y36), (49, y49)] [(0, y0), (1, y1), (2, y2), (3, y3), (4, y4), (5, y5), (6, y6), (7, y7), (8, y8), (15, y15), (17, y17), (18, y18), (19, y19), (20, y20), (32, y32), (33, y33), (34, y34), (35, y35), (36, y36), (49, y49)] = [(0, y0), (1, y1), (2, y2), (3, y3), (4, y4), (5, y5), (6, y6), (7, y7), (8, y8), (15, y15), (17, z1), (18, z2), (19, z3), (20, y20), (32, y32), (33, y33), (34, y34), (35, y35), (36, y36), (49, y49)] := fun y0 y1 y2 y3 y4 y5 y6 y7 y8 y15 y17 y18 y19 y20 y32 y33 y34 y35 y36 y49 z0 z1 z2 z3 => rfl
    refine R_nil (tr _ _ _ _ _ _ _ _ _ _ _ _ _ _ _ _ _ _ _ _ _ _ _ _) ?_; clear tr
    refine then_n ?_
    refine at_block rfl ?_
    refine loop_n rfl (fun mm kv H' => ∃ x4 x5 x6 x7 x8 x20 x32 x33 x34 x35 x36 x49 : AV, (kv = [(4, x4), (5, x5), (6, x6), (7, x7), (8, x8), (19, AV.i 0), (20, x20), (32, x32), (33, x33), (34, x34), (35, x35), (36, x36), (49, x49)]) ∧ (mm = 0) ∧ (H' = H ++ [some [(.v (.slice none 0 0) : AV)]] ++ [some [(.v (.slice none 0 0) : AV)]])) ⟨_, _, _, _, _, _, _, _, _, _, _, _, rfl, rfl, rfl⟩ (by rfl) ?_
    rintro mm kv H' ⟨x4, x5, x6, x7, x8, x20, x32, x33, x34, x35, x36, x49, rfl, rfl, rfl⟩
    have tr : ∀ y0 y1 y2 y3 y4 y5 y6 y7 y8 y15 y17 y18 y19 y20 y32 y33 y34 y35 y36 y49 z4 z5 z6 z7 z8 z19 z20 z32 z33 z34 z35 z36 z49 : AV, upd [(0, y0), (1, y1), (2, y2), (3, y3), (4, y4), (5, y5), (6, y6), (7, y7), (8, y8), (15, y15), (17, y17), (18, y18), (19, y19), (20, y20), (32, y32), (33, y33), (34, y34), (35, y35), (36, y36), (49, y49)] [(4, z4), (5, z5), (6, z6), (7, z7), (8, z8), (19, z19), (20, z20), (32, z32), (33, z33), (34, z34), (35, z35), (36, z36), (49, z49)] = [(0, y0), (1, y1), (2, y2), (3, y3), (4, z4), (5, z5), (6, z6), (7, z7), (8, z8), (15, y15), (17, y17), (18, y18), (19, z19), (20, z20), (32, z32), (33, z33), (34, z34), (35, z35), (36, z36), (49, z49)] := fun y0 y1 y2 y3 y4 y5 y6 y7 y8 y15 y17 y18 y19 y20 y32 y33 y34 y35 y36 y49 z4 z5 z6 z7 z8 z19 z20 z32 z33 z34 z35 z36 z49 => rfl
    refine W_to (tr _ _ _ _ _ _ _ _ _ _ _ _ _ _ _ _ _ _ _ _ _ _ _ _ _ _ _ _ _ _ _ _ _) ?_; clear tr
    refine at_seq rfl ?_
    refine rg rfl ?_
    refine Rq ?_
    have tr : ∀ y0 y1 y2 y3 y4 y5 y6 y7 y8 y15 y17 y18 y19 y20 y32 y33 y34 y35 y36 y49 z0 : AV, trim [(20, z0), (0, y0), (1, y1), (2, y2), (3, y3), (4, y4), (5, y5), (6, y6), (7, y7), (8, y8), (15, y15), (17, y17), (18, y18), (19, y19), (20, y20), (32, y32), (33, y33), (34, y34), (35, y35), (36, y36), (49, y49)] [(0, y0), (1, y1), (2, y2), (3, y3), (4, y4), (5, y5), (6, y6), (7, y7), (8, y8), (15, y15), (17, y17), (18, y18), (19, y19), (20, y20), (32, y32), (33, y33), (34, y34), (35, y35), (36, y36), (49, y49)] = [(0, y0), (1, y1), (2, y2), (3, y3), (4, y4), (5, y5), (6, y6), (7, y7), (8, y8), (15, y15), (17, y17), (18, y18), (19, y19), (20, z0), (32, y32), (33, y33), (34, y34), (35, y35), (36, y36), (49, y49)] := fun y0 y1 y2 y3 y4 y5 y6 y7 y8 y15 y17 y18 y19 y20 y32 y33 y34 y35 y36 y49 z0 => rfl
    refine R_nil (tr _ _ _ _ _ _ _ _ _ _ _ _ _ _ _ _ _ _ _ _ _) ?_; clear tr
    refine then_n ?_
    refine at_seq rfl ?_
    refine cdd (fun h2 => ?_) (fun h2 => ?_)
    · try simp only [decide_eq_true_eq, decide_eq_false_iff_not, Bool.not_eq_true', Bool.not_eq_false', beq_iff_eq, beq_eq_false_iff_ne, ne_eq] at h2
      first | omega | exact absurd trivial (by assumption) | (exfalso; simp_all)
    · try simp only [decide_eq_true_eq, decide_eq_false_iff_not, Bool.not_eq_true', Bool.not_eq_false', beq_iff_eq, beq_eq_false_iff_ne, ne_eq] at h2
      refine at_exit rfl ?_
      refine then_x ?_
      refine then_x ?_
      refine blk_x ?_
      refine then_n ?_
      refine at_seq rfl ?_
      refine rg rfl ?_
      refine Rq ?_
      have tr : ∀ y0 y1 y2 y3 y4 y5 y6 y7 y8 y15 y17 y18 y19 y20 y32 y33 y34 y35 y36 y49 z0 : AV, trim [(4, z0), (0, y0), (1, y1), (2, y2), (3, y3), (4, y4), (5, y5), (6, y6), (7, y7), (8, y8), (15, y15), (17, y17), (18, y18), (19, y19), (20, y20), (32, y32), (33, y33), (34, y34), (35, y35), (36, y36), (49, y49)] [(0, y0), (1, y1), (2, y2), (3, y3), (4, y4), (5, y5), (6, y6), (7, y7), (8, y8), (15, y15), (17, y17), (18, y18), (19, y19), (20, y20), (32, y32), (33, y33), (34, y34), (35, y35), (36, y36), (49, y49)] = [(0, y0), (1, y1), (2, y2), (3, y3), (4, z0), (5, y5), (6, y6), (7, y7), (8, y8), (15, y15), (17, y17), (18, y18), (19, y19), (20, y20), (32, y32), (33, y33), (34, y34), (35, y35), (36, y36), (49, y49)] := fun y0 y1 y2 y3 y4 y5 y6 y7 y8 y15 y17 y18 y19 y20 y32 y33 y34 y35 y36 y49 z0 => rfl
      refine R_nil (tr _ _ _ _ _ _ _ _ _ _ _ _ _ _ _ _ _ _ _ _ _) ?_; clear tr
      refine then_n ?_
      refine at_ret rfl ?_
      refine fpure ?_
      refine ⟨?_, rfl⟩
      rfl

theorem mean_case (a b : Tb) : ∃ ta, meanAV a b = ta ∧ storable ta = true ∧ ((formS a b = 0 ∧ ta = rowsAV (meanT a b)) ∨ (formS a b ≠ 0 ∧ ta = .v (.slice none 0 0))) := by
  by_cases h : formS a b = 0
  · exact ⟨_, by rw [meanAV, if_pos h], rfl, .inl ⟨h, rfl⟩⟩
  · exact ⟨_, by rw [meanAV, if_neg h], rfl, .inr ⟨h, rfl⟩⟩
theorem mean_lens {a b : Tb} (h : formS a b = 0) : (meanT a b).length ≤ 4611686018427387904 ∧ ∀ u, u < (meanT a b).length → (gt (meanT a b) u).length ≤ 4611686018427387904 := by
  have s := shaped_of (raw_zero (mean_raw h)).1
  have h1 := s.most
  have h2 := s.ten
  exact ⟨by omega, fun u hu => by rw [s.len u hu]; omega⟩
theorem same_mean (lim : Nat) (H : Heap) (a b : Tb) (ta : AV) (h : (formS a b = 0 ∧ ta = rowsAV (meanT a b)) ∨ (formS a b ≠ 0 ∧ ta = .v (.slice none 0 0))) :
    ACall sig lim 14 [.agg [ta], .agg [ta]] H fun r H' => r = .v (.bool true) ∧ H' = H := by
  rcases h with ⟨h, rfl⟩ | ⟨_, rfl⟩
  · refine ACall_mono (same_ok _ _ (meanT a b) (meanT a b) (mean_lens h).1 (mean_lens h).2) ?_
    rintro r H' ⟨rfl, rfl⟩
    exact ⟨by simp, rfl⟩
  · exact same_nil _ _

theorem means_ok (a b : Tb) (ia : I64T a) : ACall sig 0 5 [.agg [rowsAV a], .agg [rowsAV b]] [] fun r _ => r = .v (.bool true) := by
  have hst : True := trivial
  have hst1 := hst
  refine ACall_pure (fa := fa5) rfl rfl rfl rfl ?_
  have tr : ∀ a0 a1 : AV, env0 fa5.keep [a0, a1] = [(0, a0), (1, a1), (2, .any), (3, .any), (4, .any), (5, .any), (6, .any), (7, .any), (8, .any), (10, .any), (12, .any), (17, .any), (42, .any), (44, .any)] := fun a0 a1 => rfl
  refine W_to (tr _ _) ?_; clear tr
  refine at_seq rfl ?_
  refine rg rfl ?_
  refine R_box rfl (by simp (disch := first | omega | (simp only [List.length_map, List.length_append, List.length_set, List.length_cons, List.length_nil, List.length_take, List.length_drop]; omega)) only [go_sem, ↓reduceIte, Nat.reduceEqDiff, reduceCtorEq, hst, hst1]; rfl) rfl rfl ?_
  refine R_box rfl (by simp (disch := first | omega | (simp only [List.length_map, List.length_append, List.length_set, List.length_cons, List.length_nil, List.length_take, List.length_drop]; omega)) only [go_sem, ↓reduceIte, Nat.reduceEqDiff, reduceCtorEq, hst, hst1]; rfl) rfl rfl ?_
  refine Rq ?_
  have tr : ∀ y0 y1 y2 y3 y4 y5 y6 y7 y8 y10 y12 y17 y42 y44 z0 z1 z2 : AV, trim [(4, z2), (3, z1), (2, z0), (0, y0), (1, y1), (2, y2), (3, y3), (4, y4), (5, y5), (6, y6), (7, y7), (8, y8), (10, y10), (12, y12), (17, y17), (42, y42), (44, y44)] [(0, y0), (1, y1), (2, y2), (3, y3), (4, y4), (5, y5), (6, y6), (7, y7), (8, y8), (10, y10), (12, y12), (17, y17), (42, y42), (44, y44)] = [(0, y0), (1, y1), (2, z0), (3, z1), (4, z2), (5, y5), (6, y6), (7, y7), (8, y8), (10, y10), (12, y12), (17, y17), (42, y42), (44, y44)] := fun y0 y1 y2 y3 y4 y5 y6 y7 y8 y10 y12 y17 y42 y44 z0 z1 z2 => rfl
  refine R_nil (tr _ _ _ _ _ _ _ _ _ _ _ _ _ _ _ _ _) ?_; clear tr
  refine then_n ?_
  refine at_seq rfl ?_
  refine at_seq rfl ?_
  refine rg rfl ?_
  refine Rcall ?_
  refine ACall_eval 300 (awake_2 _ _ _) ?_
  refine Rq ?_
  have tr : ∀ y0 y1 y2 y3 y4 y5 y6 y7 y8 y10 y12 y17 y42 y44 z0 z1 : AV, trim [(12, z1), (11, z0), (0, y0), (1, y1), (2, y2), (3, y3), (4, y4), (5, y5), (6, y6), (7, y7), (8, y8), (10, y10), (12, y12), (17, y17), (42, y42), (44, y44)] [(0, y0), (1, y1), (2, y2), (3, y3), (4, y4), (5, y5), (6, y6), (7, y7), (8, y8), (10, y10), (12, y12), (17, y17), (42, y42), (44, y44)] = [(0, y0), (1, y1), (2, y2), (3, y3), (4, y4), (5, y5), (6, y6), (7, y7), (8, y8), (10, y10), (12, z1), (17, y17), (42, y42), (44, y44)] := fun y0 y1 y2 y3 y4 y5 y6 y7 y8 y10 y12 y17 y42 y44 z0 z1 => rfl
  refine R_nil (tr _ _ _ _ _ _ _ _ _ _ _ _ _ _ _ _) ?_; clear tr
  refine then_n ?_
  refine cdf ?_
  refine at_skip rfl ?_
  refine then_n ?_
  refine at_seq rfl ?_
  refine at_seq rfl ?_
  refine rg rfl ?_
  refine R_q rfl (by simp (disch := first | omega | (simp only [List.length_map, List.length_append, List.length_set, List.length_cons, List.length_nil, List.length_take, List.length_drop]; omega)) only [go_sem, ↓reduceIte, Nat.reduceEqDiff, reduceCtorEq, hst, hst1]; rfl) ?_
  refine R_q rfl (by simp (disch := first | omega | (simp only [List.length_map, List.length_append, List.length_set, List.length_cons, List.length_nil, List.length_take, List.length_drop]; omega)) only [go_sem, ↓reduceIte, Nat.reduceEqDiff, reduceCtorEq, hst, hst1]; rfl) ?_
  refine R_buildSlice (bs38_2 _ _ _ _ _ _ _ rfl rfl (by simp only [go_sem, ↓reduceIte, Nat.reduceEqDiff]; rfl) (by simp only [go_sem, ↓reduceIte, Nat.reduceEqDiff]; rfl)) ?_
  refine Rcall ?_
  refine ACall_eq (small_ok _ _ _ [a, b] (by simp only [go_sem]; rfl) (by simp)) ?_
  refine Rq ?_
  have tr : ∀ y0 y1 y2 y3 y4 y5 y6 y7 y8 y10 y12 y17 y42 y44 z0 z1 z2 z3 z4 : AV, trim [(17, z4), (16, z3), (15, z2), (14, z1), (13, z0), (0, y0), (1, y1), (2, y2), (3, y3), (4, y4), (5, y5), (6, y6), (7, y7), (8, y8), (10, y10), (12, y12), (17, y17), (42, y42), (44, y44)] [(0, y0), (1, y1), (2, y2), (3, y3), (4, y4), (5, y5), (6, y6), (7, y7), (8, y8), (10, y10), (12, y12), (17, y17), (42, y42), (44, y44)] = [(0, y0), (1, y1), (2, y2), (3, y3), (4, y4), (5, y5), (6, y6), (7, y7), (8, y8), (10, y10), (12, y12), (17, z4), (42, y42), (44, y44)] := fun y0 y1 y2 y3 y4 y5 y6 y7 y8 y10 y12 y17 y42 y44 z0 z1 z2 z3 z4 => rfl
  refine R_nil (tr _ _ _ _ _ _ _ _ _ _ _ _ _ _ _ _ _ _ _) ?_; clear tr
  refine then_n ?_
  refine cdd (fun h1 => ?_) (fun h1 => ?_)
  · try simp only [decide_eq_true_eq, decide_eq_false_iff_not, Bool.not_eq_true', Bool.not_eq_false', beq_iff_eq, beq_eq_false_iff_ne, ne_eq] at h1
    refine at_seq rfl ?_
    refine rg rfl ?_
    refine Rq ?_
    have tr : ∀ y0 y1 y2 y3 y4 y5 y6 y7 y8 y10 y12 y17 y42 y44 z0 : AV, trim [(4, z0), (0, y0), (1, y1), (2, y2), (3, y3), (4, y4), (5, y5), (6, y6), (7, y7), (8, y8), (10, y10), (12, y12), (17, y17), (42, y42), (44, y44)] [(0, y0), (1, y1), (2, y2), (3, y3), (4, y4), (5, y5), (6, y6), (7, y7), (8, y8), (10, y10), (12, y12), (17, y17), (42, y42), (44, y44)] = [(0, y0), (1, y1), (2, y2), (3, y3), (4, z0), (5, y5), (6, y6), (7, y7), (8, y8), (10, y10), (12, y12), (17, y17), (42, y42), (44, y44)] := fun y0 y1 y2 y3 y4 y5 y6 y7 y8 y10 y12 y17 y42 y44 z0 => rfl
    refine R_nil (tr _ _ _ _ _ _ _ _ _ _ _ _ _ _ _) ?_; clear tr
    refine then_n ?_
    refine at_ret rfl ?_
    refine then_r ?_
    refine fpure ?_
    rfl
  · try simp only [decide_eq_true_eq, decide_eq_false_iff_not, Bool.not_eq_true', Bool.not_eq_false', beq_iff_eq, beq_eq_false_iff_ne, ne_eq] at h1
    refine at_skip rfl ?_
    refine then_n ?_
    refine at_seq rfl ?_
    refine rg rfl ?_
    refine Rq ?_
    refine R_q rfl (by simp (disch := first | omega | (simp only [List.length_map, List.length_append, List.length_set, List.length_cons, List.length_nil, List.length_take, List.length_drop]; omega)) only [go_sem, ↓reduceIte, Nat.reduceEqDiff, reduceCtorEq, hst, hst1]; rfl) ?_
    refine Rq ?_
    refine R_q rfl (by simp (disch := first | omega | (simp only [List.length_map, List.length_append, List.length_set, List.length_cons, List.length_nil, List.length_take, List.length_drop]; omega)) only [go_sem, ↓reduceIte, Nat.reduceEqDiff, reduceCtorEq, hst, hst1]; rfl) ?_
    refine Rcall ?_
    refine ACall_mono (mean_ok _ _ a b ia) ?_
    rintro r H6 ⟨rfl, rfl⟩
    obtain ⟨ta, hta, hst, hcase⟩ := mean_case a b
    rw [hta]
    refine Rq ?_
    refine Rq ?_
    refine Rq ?_
    refine R_alloc (by simp (disch := first | omega | (simp only [List.length_map, List.length_append, List.length_set, List.length_cons, List.length_nil, List.length_take, List.length_drop]; omega)) only [go_sem, ↓reduceIte, Nat.reduceEqDiff, reduceCtorEq, hst, hst1]; rfl) rfl (by simp only [List.map_cons, List.map_nil]; rfl) ?_
    refine R_store ty24 (by simp (disch := first | omega | (simp only [List.length_map, List.length_append, List.length_set, List.length_cons, List.length_nil, List.length_take, List.length_drop]; omega)) only [go_sem, ↓reduceIte, Nat.reduceEqDiff, reduceCtorEq, hst, hst1]; rfl) (by simp (disch := first | omega | (simp only [List.length_map, List.length_append, List.length_set, List.length_cons, List.length_nil, List.length_take, List.length_drop]; omega)) only [go_sem, ↓reduceIte, Nat.reduceEqDiff, reduceCtorEq, hst, hst1]; rfl) (by simp (disch := first | omega | (simp only [List.length_map, List.length_append, List.length_set, List.length_cons, List.length_nil, List.length_take, List.length_drop]; omega)) only [go_sem, ↓reduceIte, Nat.reduceEqDiff, reduceCtorEq, hst, hst1]; rfl) (by simp) (by rfl) (by simp (disch := first | omega | (simp only [List.length_map, List.length_append, List.length_set, List.length_cons, List.length_nil, List.length_take, List.length_drop]; omega)) only [go_sem, ↓reduceIte, Nat.reduceEqDiff, reduceCtorEq, hst, hst1]; rfl) ?_
    refine Rq ?_
    have tr : ∀ y0 y1 y2 y3 y4 y5 y6 y7 y8 y10 y12 y17 y42 y44 z0 z1 z2 z3 z4 z5 z6 z7 z8 z9 : AV, trim [(6, z9), (5, z8), (25, z7), (24, z6), (18, z5), (23, z4), (22, z3), (21, z2), (20, z1), (19, z0), (0, y0), (1, y1), (2, y2), (3, y3), (4, y4), (5, y5), (6, y6), (7, y7), (8, y8), (10, y10), (12, y12), (17, y17), (42, y42), (44, y44)] [(0, y0), (1, y1), (2, y2), (3, y3), (4, y4), (5, y5), (6, y6), (7, y7), (8, y8), (10, y10), (12, y12), (17, y17), (42, y42), (44, y44)] = [(0, y0), (1, y1), (2, y2), (3, y3), (4, y4), (5, z8), (6, z9), (7, y7), (8, y8), (10, y10), (12, y12), (17, y17), (42, y42), (44, y44)] := fun y0 y1 y2 y3 y4 y5 y6 y7 y8 y10 y12 y17 y42 y44 z0 z1 z2 z3 z4 z5 z6 z7 z8 z9 => rfl
    refine R_nil (tr _ _ _ _ _ _ _ _ _ _ _ _ _ _ _ _ _ _ _ _ _ _ _ _) ?_; clear tr
    refine then_n ?_
    refine at_seq rfl ?_
    refine rg rfl ?_
    refine Rq ?_
    refine R_q rfl (by simp (disch := first | omega | (simp only [List.length_map, List.length_append, List.length_set, List.length_cons, List.length_nil, List.length_take, List.length_drop]; omega)) only [go_sem, ↓reduceIte, Nat.reduceEqDiff, reduceCtorEq, hst, hst1]; rfl) ?_
    refine Rq ?_
    refine R_q rfl (by simp (disch := first | omega | (simp only [List.length_map, List.length_append, List.length_set, List.length_cons, List.length_nil, List.length_take, List.length_drop]; omega)) only [go_sem, ↓reduceIte, Nat.reduceEqDiff, reduceCtorEq, hst, hst1]; rfl) ?_
    refine Rcall ?_
    refine ACall_mono (rmean_ok _ _ a b ia) ?_
    rintro r H6 ⟨rfl, rfl⟩
    rw [hta]
    refine Rq ?_
    refine Rq ?_
    refine Rq ?_
    refine R_alloc (by simp (disch := first | omega | (simp only [List.length_map, List.length_append, List.length_set, List.length_cons, List.length_nil, List.length_take, List.length_drop]; omega)) only [go_sem, ↓reduceIte, Nat.reduceEqDiff, reduceCtorEq, hst, hst1]; rfl) rfl (by simp only [List.map_cons, List.map_nil]; rfl) ?_
    refine R_store ty24 (by simp (disch := first | omega | (simp only [List.length_map, List.length_append, List.length_set, List.length_cons, List.length_nil, List.length_take, List.length_drop]; omega)) only [go_sem, ↓reduceIte, Nat.reduceEqDiff, reduceCtorEq, hst, hst1]; rfl) (by simp (disch := first | omega | (simp only [List.length_map, List.length_append, List.length_set, List.length_cons, List.length_nil, List.length_take, List.length_drop]; omega)) only [go_sem, ↓reduceIte, Nat.reduceEqDiff, reduceCtorEq, hst, hst1]; rfl) (by simp (disch := first | omega | (simp only [List.length_map, List.length_append, List.length_set, List.length_cons, List.length_nil, List.length_take, List.length_drop]; omega)) only [go_sem, ↓reduceIte, Nat.reduceEqDiff, reduceCtorEq, hst, hst1]; rfl) (by simp) (by rfl) (by simp (disch := first | omega | (simp only [List.length_map, List.length_append, List.length_set, List.length_cons, List.length_nil, List.length_take, List.length_drop]; omega)) only [go_sem, ↓reduceIte, Nat.reduceEqDiff, reduceCtorEq, hst, hst1]; rfl) ?_
    refine Rq ?_
    have tr : ∀ y0 y1 y2 y3 y4 y5 y6 y7 y8 y10 y12 y17 y42 y44 z0 z1 z2 z3 z4 z5 z6 z7 z8 z9 : AV, trim [(8, z9), (7, z8), (33, z7), (32, z6), (26, z5), (31, z4), (30, z3), (29, z2), (28, z1), (27, z0), (0, y0), (1, y1), (2, y2), (3, y3), (4, y4), (5, y5), (6, y6), (7, y7), (8, y8), (10, y10), (12, y12), (17, y17), (42, y42), (44, y44)] [(0, y0), (1, y1), (2, y2), (3, y3), (4, y4), (5, y5), (6, y6), (7, y7), (8, y8), (10, y10), (12, y12), (17, y17), (42, y42), (44, y44)] = [(0, y0), (1, y1), (2, y2), (3, y3), (4, y4), (5, y5), (6, y6), (7, z8), (8, z9), (10, y10), (12, y12), (17, y17), (42, y42), (44, y44)] := fun y0 y1 y2 y3 y4 y5 y6 y7 y8 y10 y12 y17 y42 y44 z0 z1 z2 z3 z4 z5 z6 z7 z8 z9 => rfl
    refine R_nil (tr _ _ _ _ _ _ _ _ _ _ _ _ _ _ _ _ _ _ _ _ _ _ _ _) ?_; clear tr
    refine then_n ?_
    refine at_seq rfl ?_
    refine at_seq rfl ?_
    refine rg rfl ?_
    refine R_q rfl (by simp (disch := first | omega | (simp only [List.length_map, List.length_append, List.length_set, List.length_cons, List.length_nil, List.length_take, List.length_drop]; omega)) only [go_sem, ↓reduceIte, Nat.reduceEqDiff, reduceCtorEq, hst, hst1]; rfl) ?_
    refine R_q rfl (by simp (disch := first | omega | (simp only [List.length_map, List.length_append, List.length_set, List.length_cons, List.length_nil, List.length_take, List.length_drop]; omega)) only [go_sem, ↓reduceIte, Nat.reduceEqDiff, reduceCtorEq, hst, hst1]; rfl) ?_
    refine Rcall ?_
    refine ACall_eq (same_mean _ _ a b ta hcase) ?_
    refine Rq ?_
    refine Rq ?_
    refine Ry ?_
    refine Rq ?_
    refine Ry ?_
    refine Rq ?_
    refine Ry ?_
    refine Rq ?_
    refine Rq ?_
    have tr : ∀ y0 y1 y2 y3 y4 y5 y6 y7 y8 y10 y12 y17 y42 y44 z0 z1 z2 z3 z4 z5 z6 z7 z8 : AV, trim [(42, z8), (41, z7), (40, z6), (39, z5), (38, z4), (37, z3), (36, z2), (35, z1), (34, z0), (0, y0), (1, y1), (2, y2), (3, y3), (4, y4), (5, y5), (6, y6), (7, y7), (8, y8), (10, y10), (12, y12), (17, y17), (42, y42), (44, y44)] [(0, y0), (1, y1), (2, y2), (3, y3), (4, y4), (5, y5), (6, y6), (7, y7), (8, y8), (10, y10), (12, y12), (17, y17), (42, y42), (44, y44)] = [(0, y0), (1, y1), (2, y2), (3, y3), (4, y4), (5, y5), (6, y6), (7, y7), (8, y8), (10, y10), (12, y12), (17, y17), (42, z8), (44, y44)] := fun y0 y1 y2 y3 y4 y5 y6 y7 y8 y10 y12 y17 y42 y44 z0 z1 z2 z3 z4 z5 z6 z7 z8 => rfl
    refine R_nil (tr _ _ _ _ _ _ _ _ _ _ _ _ _ _ _ _ _ _ _ _ _ _ _) ?_; clear tr
    refine then_n ?_
    refine cdd (fun h2 => ?_) (fun h2 => ?_)
    · try simp only [decide_eq_true_eq, decide_eq_false_iff_not, Bool.not_eq_true', Bool.not_eq_false', beq_iff_eq, beq_eq_false_iff_ne, ne_eq] at h2
      exact absurd trivial (by assumption)
    · try simp only [decide_eq_true_eq, decide_eq_false_iff_not, Bool.not_eq_true', Bool.not_eq_false', beq_iff_eq, beq_eq_false_iff_ne, ne_eq] at h2
      refine at_skip rfl ?_
      refine then_n ?_
      refine at_seq rfl ?_
      refine at_seq rfl ?_
      refine rg rfl ?_
      refine Rq ?_
      refine Rq ?_
      have tr : ∀ y0 y1 y2 y3 y4 y5 y6 y7 y8 y10 y12 y17 y42 y44 z0 z1 : AV, trim [(44, z1), (43, z0), (0, y0), (1, y1), (2, y2), (3, y3), (4, y4), (5, y5), (6, y6), (7, y7), (8, y8), (10, y10), (12, y12), (17, y17), (42, y42), (44, y44)] [(0, y0), (1, y1), (2, y2), (3, y3), (4, y4), (5, y5), (6, y6), (7, y7), (8, y8), (10, y10), (12, y12), (17, y17), (42, y42), (44, y44)] = [(0, y0), (1, y1), (2, y2), (3, y3), (4, y4), (5, y5), (6, y6), (7, y7), (8, y8), (10, y10), (12, y12), (17, y17), (42, y42), (44, z1)] := fun y0 y1 y2 y3 y4 y5 y6 y7 y8 y10 y12 y17 y42 y44 z0 z1 => rfl
      refine R_nil (tr _ _ _ _ _ _ _ _ _ _ _ _ _ _ _ _) ?_; clear tr
      refine then_n ?_
      refine cdd (fun h3 => ?_) (fun h3 => ?_)
      · try simp only [decide_eq_true_eq, decide_eq_false_iff_not, Bool.not_eq_true', Bool.not_eq_false', beq_iff_eq, beq_eq_false_iff_ne, ne_eq] at h3
        refine at_seq rfl ?_
        refine rg rfl ?_
        refine Rq ?_
        have tr : ∀ y0 y1 y2 y3 y4 y5 y6 y7 y8 y10 y12 y17 y42 y44 z0 : AV, trim [(4, z0), (0, y0), (1, y1), (2, y2), (3, y3), (4, y4), (5, y5), (6, y6), (7, y7), (8, y8), (10, y10), (12, y12), (17, y17), (42, y42), (44, y44)] [(0, y0), (1, y1), (2, y2), (3, y3), (4, y4), (5, y5), (6, y6), (7, y7), (8, y8), (10, y10), (12, y12), (17, y17), (42, y42), (44, y44)] = [(0, y0), (1, y1), (2, y2), (3, y3), (4, z0), (5, y5), (6, y6), (7, y7), (8, y8), (10, y10), (12, y12), (17, y17), (42, y42), (44, y44)] := fun y0 y1 y2 y3 y4 y5 y6 y7 y8 y10 y12 y17 y42 y44 z0 => rfl
        refine R_nil (tr _ _ _ _ _ _ _ _ _ _ _ _ _ _ _) ?_; clear tr
        refine then_n ?_
        refine at_ret rfl ?_
        refine then_r ?_
        refine fpure ?_
        rfl
      · try simp only [decide_eq_true_eq, decide_eq_false_iff_not, Bool.not_eq_true', Bool.not_eq_false', beq_iff_eq, beq_eq_false_iff_ne, ne_eq] at h3
        refine at_skip rfl ?_
        refine then_n ?_
        refine at_seq rfl ?_
        refine rg rfl ?_
        refine R_q rfl (by simp (disch := first | omega | (simp only [List.length_map, List.length_append, List.length_set, List.length_cons, List.length_nil, List.length_take, List.length_drop]; omega)) only [go_sem, ↓reduceIte, Nat.reduceEqDiff, reduceCtorEq, hst, hst1]; rfl) ?_
        refine Rcall ?_
        obtain ⟨hf0, htb⟩ := hcase.resolve_right (fun hh => hh.1 (by assumption))
        subst htb
        refine ACall_mono (above_ok _ _ (meanT a b)) ?_
        rintro r H7 ⟨rfl, hA1⟩
        obtain ⟨t1, ta1, rfl, hst1, hcase1⟩ := above_case hA1
        rw [mean_raw hf0]
        refine Rq ?_
        refine Rq ?_
        refine Rq ?_
        refine R_alloc (by simp (disch := first | omega | (simp only [List.length_map, List.length_append, List.length_set, List.length_cons, List.length_nil, List.length_take, List.length_drop]; omega)) only [go_sem, ↓reduceIte, Nat.reduceEqDiff, reduceCtorEq, hst, hst1]; rfl) rfl (by simp only [List.map_cons, List.map_nil]; rfl) ?_
        refine R_store ty24 (by simp (disch := first | omega | (simp only [List.length_map, List.length_append, List.length_set, List.length_cons, List.length_nil, List.length_take, List.length_drop]; omega)) only [go_sem, ↓reduceIte, Nat.reduceEqDiff, reduceCtorEq, hst, hst1]; rfl) (by simp (disch := first | omega | (simp only [List.length_map, List.length_append, List.length_set, List.length_cons, List.length_nil, List.length_take, List.length_drop]; omega)) only [go_sem, ↓reduceIte, Nat.reduceEqDiff, reduceCtorEq, hst, hst1]; rfl) (by simp (disch := first | omega | (simp only [List.length_map, List.length_append, List.length_set, List.length_cons, List.length_nil, List.length_take, List.length_drop]; omega)) only [go_sem, ↓reduceIte, Nat.reduceEqDiff, reduceCtorEq, hst, hst1]; rfl) (by simp) (by rfl) (by simp (disch := first | omega | (simp only [List.length_map, List.length_append, List.length_set, List.length_cons, List.length_nil, List.length_take, List.length_drop]; omega)) only [go_sem, ↓reduceIte, Nat.reduceEqDiff, reduceCtorEq, hst, hst1]; rfl) ?_
        refine Rq ?_
        have tr : ∀ y0 y1 y2 y3 y4 y5 y6 y7 y8 y10 y12 y17 y42 y44 z0 z1 z2 z3 z4 z5 z6 : AV, trim [(10, z6), (9, z5), (49, z4), (48, z3), (45, z2), (47, z1), (46, z0), (0, y0), (1, y1), (2, y2), (3, y3), (4, y4), (5, y5), (6, y6), (7, y7), (8, y8), (10, y10), (12, y12), (17, y17), (42, y42), (44, y44)] [(0, y0), (1, y1), (2, y2), (3, y3), (4, y4), (5, y5), (6, y6), (7, y7), (8, y8), (10, y10), (12, y12), (17, y17), (42, y42), (44, y44)] = [(0, y0), (1, y1), (2, y2), (3, y3), (4, y4), (5, y5), (6, y6), (7, y7), (8, y8), (10, z6), (12, y12), (17, y17), (42, y42), (44, y44)] := fun y0 y1 y2 y3 y4 y5 y6 y7 y8 y10 y12 y17 y42 y44 z0 z1 z2 z3 z4 z5 z6 => rfl
        refine R_nil (tr _ _ _ _ _ _ _ _ _ _ _ _ _ _ _ _ _ _ _ _ _) ?_; clear tr
        refine then_n ?_
        refine at_seq rfl ?_
        refine rg rfl ?_
        refine Rq ?_
        refine Rq ?_
        refine Rq ?_
        have tr : ∀ y0 y1 y2 y3 y4 y5 y6 y7 y8 y10 y12 y17 y42 y44 z0 z1 z2 : AV, trim [(4, z2), (51, z1), (50, z0), (0, y0), (1, y1), (2, y2), (3, y3), (4, y4), (5, y5), (6, y6), (7, y7), (8, y8), (10, y10), (12, y12), (17, y17), (42, y42), (44, y44)] [(0, y0), (1, y1), (2, y2), (3, y3), (4, y4), (5, y5), (6, y6), (7, y7), (8, y8), (10, y10), (12, y12), (17, y17), (42, y42), (44, y44)] = [(0, y0), (1, y1), (2, y2), (3, y3), (4, z2), (5, y5), (6, y6), (7, y7), (8, y8), (10, y10), (12, y12), (17, y17), (42, y42), (44, y44)] := fun y0 y1 y2 y3 y4 y5 y6 y7 y8 y10 y12 y17 y42 y44 z0 z1 z2 => rfl
        refine R_nil (tr _ _ _ _ _ _ _ _ _ _ _ _ _ _ _ _ _) ?_; clear tr
        refine then_n ?_
        refine at_ret rfl ?_
        refine fpure ?_
        rfl

end Go.Proofs.Ytdkhgpdojjdadaa
