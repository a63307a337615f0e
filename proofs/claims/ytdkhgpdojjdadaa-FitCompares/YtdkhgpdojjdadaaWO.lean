/-
  Walks of chapter 38. The steps are written by program (walk.py).
-/
import Derived.Test.YtdkhgpdojjdadaaR
import Derived.Test.YtdkhgpdojjdadaaWJ
set_option linter.unusedSimpArgs false
set_option linter.unusedVariables false
set_option maxHeartbeats 40000000
set_option maxRecDepth 4000
namespace Go.Proofs.Ytdkhgpdojjdadaa
open Go Go.Am

/-- The lesser numbers of two tables. -/
structure MinT (a b t : Tb) : Prop where
  same : Same2 a t
  cell : ∀ u, u < a.length → ∀ w, w < (gt a u).length → gt (gt t u) w = min (gt (gt a u) w) (gt (gt b u) w)
open Classical in
noncomputable def lmS (a b : Tb) : Int := if shapeS a ≠ 0 then shapeS a else if shapeS b ≠ 0 then shapeS b else if ¬ Alike a b then 1 else 0

theorem leastw_ok (lim : Nat) (H : Heap) (a b : Tb) :
    ACall sig lim 18 [.agg [rowsAV a], .agg [rowsAV b]] H fun r H' => H' = H ∧ ((lmS a b ≠ 0 ∧ r = .tup [.agg [.v (.slice none 0 0)], AV.i (lmS a b)]) ∨ (lmS a b = 0 ∧ ∃ t, r = .tup [.agg [rowsAV t], AV.i 0] ∧ MinT a b t)) := by
  have hT : True := trivial
  have cu := hT
  have hcell := hT
  have hrow := hT
  have hbx := hT
  refine ACall_pure (fa := fa18) rfl rfl rfl rfl ?_
  have tr : ∀ a0 a1 : AV, env0 fa18.keep [a0, a1] = [(0, a0), (1, a1), (2, .any), (3, .any), (4, .any), (5, .any), (6, .any), (7, .any), (8, .any), (9, .any), (10, .any), (11, .any), (15, .any), (21, .any), (27, .any), (32, .any), (33, .any), (34, .any), (35, .any), (40, .any), (41, .any), (42, .any)] := fun a0 a1 => rfl
  refine W_to (tr _ _) ?_; clear tr
  refine at_seq rfl ?_
  refine rg rfl ?_
  refine R_box rfl (by simp (disch := first | omega | (simp only [List.length_map, List.length_append, List.length_set, List.length_cons, List.length_nil, List.length_take, List.length_drop]; omega)) only [go_sem, ↓reduceIte, Nat.reduceEqDiff, reduceCtorEq, hT, cu, hrow, hcell, hbx]; rfl) rfl rfl ?_
  refine R_box rfl (by simp (disch := first | omega | (simp only [List.length_map, List.length_append, List.length_set, List.length_cons, List.length_nil, List.length_take, List.length_drop]; omega)) only [go_sem, ↓reduceIte, Nat.reduceEqDiff, reduceCtorEq, hT, cu, hrow, hcell, hbx]; rfl) rfl rfl ?_
  refine R_alloc (by simp (disch := first | omega | (simp only [List.length_map, List.length_append, List.length_set, List.length_cons, List.length_nil, List.length_take, List.length_drop]; omega)) only [go_sem, ↓reduceIte, Nat.reduceEqDiff, reduceCtorEq, hT, cu, hrow, hcell, hbx]; rfl) rfl (by simp only [List.map_cons, List.map_nil]; rfl) ?_
  refine Rq ?_
  have tr : ∀ y0 y1 y2 y3 y4 y5 y6 y7 y8 y9 y10 y11 y15 y21 y27 y32 y33 y34 y35 y40 y41 y42 z0 z1 z2 z3 : AV, trim [(5, z3), (4, z2), (3, z1), (2, z0), (0, y0), (1, y1), (2, y2), (3, y3), (4, y4), (5, y5), (6, y6), (7, y7), (8, y8), (9, y9), (10, y10), (11, y11), (15, y15), (21, y21), (27, y27), (32, y32), (33, y33), (34, y34), (35, y35), (40, y40), (41, y41), (42, y42)] [(0, y0), (1, y1), (2, y2), (3, y3), (4, y4), (5, y5), (6, y6), (7, y7), (8, y8), (9, y9), (10, y10), (11, y11), (15, y15), (21, y21), (27, y27), (32, y32), (33, y33), (34, y34), (35, y35), (40, y40), (41, y41), (42, y42)] = [(0, y0), (1, y1), (2, z0), (3, z1), (4, z2), (5, z3), (6, y6), (7, y7), (8, y8), (9, y9), (10, y10), (11, y11), (15, y15), (21, y21), (27, y27), (32, y32), (33, y33), (34, y34), (35, y35), (40, y40), (41, y41), (42, y42)] := fun y0 y1 y2 y3 y4 y5 y6 y7 y8 y9 y10 y11 y15 y21 y27 y32 y33 y34 y35 y40 y41 y42 z0 z1 z2 z3 => rfl
  refine R_nil (tr _ _ _ _ _ _ _ _ _ _ _ _ _ _ _ _ _ _ _ _ _ _ _ _ _ _) ?_; clear tr
  refine then_n ?_
  refine at_seq rfl ?_
  refine at_seq rfl ?_
  refine rg rfl ?_
  refine R_q rfl (by simp (disch := first | omega | (simp only [List.length_map, List.length_append, List.length_set, List.length_cons, List.length_nil, List.length_take, List.length_drop]; omega)) only [go_sem, ↓reduceIte, Nat.reduceEqDiff, reduceCtorEq, hT, cu, hrow, hcell, hbx]; rfl) ?_
  refine Rcall ?_
  refine ACall_eq (shape_ok _ _ _) ?_
  refine Rq ?_
  have tr : ∀ y0 y1 y2 y3 y4 y5 y6 y7 y8 y9 y10 y11 y15 y21 y27 y32 y33 y34 y35 y40 y41 y42 z0 z1 z2 : AV, trim [(6, z2), (13, z1), (12, z0), (0, y0), (1, y1), (2, y2), (3, y3), (4, y4), (5, y5), (6, y6), (7, y7), (8, y8), (9, y9), (10, y10), (11, y11), (15, y15), (21, y21), (27, y27), (32, y32), (33, y33), (34, y34), (35, y35), (40, y40), (41, y41), (42, y42)] [(0, y0), (1, y1), (2, y2), (3, y3), (4, y4), (5, y5), (6, y6), (7, y7), (8, y8), (9, y9), (10, y10), (11, y11), (15, y15), (21, y21), (27, y27), (32, y32), (33, y33), (34, y34), (35, y35), (40, y40), (41, y41), (42, y42)] = [(0, y0), (1, y1), (2, y2), (3, y3), (4, y4), (5, y5), (6, z2), (7, y7), (8, y8), (9, y9), (10, y10), (11, y11), (15, y15), (21, y21), (27, y27), (32, y32), (33, y33), (34, y34), (35, y35), (40, y40), (41, y41), (42, y42)] := fun y0 y1 y2 y3 y4 y5 y6 y7 y8 y9 y10 y11 y15 y21 y27 y32 y33 y34 y35 y40 y41 y42 z0 z1 z2 => rfl
  refine R_nil (tr _ _ _ _ _ _ _ _ _ _ _ _ _ _ _ _ _ _ _ _ _ _ _ _ _) ?_; clear tr
  refine then_n ?_
  refine at_seq rfl ?_
  refine rg rfl ?_
  refine Rq ?_
  refine Rq ?_
  have tr : ∀ y0 y1 y2 y3 y4 y5 y6 y7 y8 y9 y10 y11 y15 y21 y27 y32 y33 y34 y35 y40 y41 y42 z0 z1 : AV, trim [(15, z1), (14, z0), (0, y0), (1, y1), (2, y2), (3, y3), (4, y4), (5, y5), (6, y6), (7, y7), (8, y8), (9, y9), (10, y10), (11, y11), (15, y15), (21, y21), (27, y27), (32, y32), (33, y33), (34, y34), (35, y35), (40, y40), (41, y41), (42, y42)] [(0, y0), (1, y1), (2, y2), (3, y3), (4, y4), (5, y5), (6, y6), (7, y7), (8, y8), (9, y9), (10, y10), (11, y11), (15, y15), (21, y21), (27, y27), (32, y32), (33, y33), (34, y34), (35, y35), (40, y40), (41, y41), (42, y42)] = [(0, y0), (1, y1), (2, y2), (3, y3), (4, y4), (5, y5), (6, y6), (7, y7), (8, y8), (9, y9), (10, y10), (11, y11), (15, z1), (21, y21), (27, y27), (32, y32), (33, y33), (34, y34), (35, y35), (40, y40), (41, y41), (42, y42)] := fun y0 y1 y2 y3 y4 y5 y6 y7 y8 y9 y10 y11 y15 y21 y27 y32 y33 y34 y35 y40 y41 y42 z0 z1 => rfl
  refine R_nil (tr _ _ _ _ _ _ _ _ _ _ _ _ _ _ _ _ _ _ _ _ _ _ _ _) ?_; clear tr
  refine then_n ?_
  refine cdd (fun h1 => ?_) (fun h1 => ?_)
  · try simp only [decide_eq_true_eq, decide_eq_false_iff_not, Bool.not_eq_true', Bool.not_eq_false', beq_iff_eq, beq_eq_false_iff_ne, ne_eq] at h1
    refine at_seq rfl ?_
    refine rg rfl ?_
    refine R_q rfl (by simp only [go_sem, List.map_nil, bld24_0]; rfl) ?_
    refine Rq ?_
    refine R_store ty24 (by simp (disch := first | omega | (simp only [List.length_map, List.length_append, List.length_set, List.length_cons, List.length_nil, List.length_take, List.length_drop]; omega)) only [go_sem, ↓reduceIte, Nat.reduceEqDiff, reduceCtorEq, hT, cu, hrow, hcell, hbx]; rfl) (by simp (disch := first | omega | (simp only [List.length_map, List.length_append, List.length_set, List.length_cons, List.length_nil, List.length_take, List.length_drop]; omega)) only [go_sem, ↓reduceIte, Nat.reduceEqDiff, reduceCtorEq, hT, cu, hrow, hcell, hbx]; rfl) (by simp (disch := first | omega | (simp only [List.length_map, List.length_append, List.length_set, List.length_cons, List.length_nil, List.length_take, List.length_drop]; omega)) only [go_sem, ↓reduceIte, Nat.reduceEqDiff, reduceCtorEq, hT, cu, hrow, hcell, hbx]; rfl) (by simp) (by rfl) (by simp (disch := first | omega | (simp only [List.length_map, List.length_append, List.length_set, List.length_cons, List.length_nil, List.length_take, List.length_drop]; omega)) only [go_sem, ↓reduceIte, Nat.reduceEqDiff, reduceCtorEq, hT, cu, hrow, hcell, hbx]; rfl) ?_
    refine Rq ?_
    have tr : ∀ y0 y1 y2 y3 y4 y5 y6 y7 y8 y9 y10 y11 y15 y21 y27 y32 y33 y34 y35 y40 y41 y42 z0 z1 z2 : AV, trim [(5, z2), (17, z1), (16, z0), (0, y0), (1, y1), (2, y2), (3, y3), (4, y4), (5, y5), (6, y6), (7, y7), (8, y8), (9, y9), (10, y10), (11, y11), (15, y15), (21, y21), (27, y27), (32, y32), (33, y33), (34, y34), (35, y35), (40, y40), (41, y41), (42, y42)] [(0, y0), (1, y1), (2, y2), (3, y3), (4, y4), (5, y5), (6, y6), (7, y7), (8, y8), (9, y9), (10, y10), (11, y11), (15, y15), (21, y21), (27, y27), (32, y32), (33, y33), (34, y34), (35, y35), (40, y40), (41, y41), (42, y42)] = [(0, y0), (1, y1), (2, y2), (3, y3), (4, y4), (5, z2), (6, y6), (7, y7), (8, y8), (9, y9), (10, y10), (11, y11), (15, y15), (21, y21), (27, y27), (32, y32), (33, y33), (34, y34), (35, y35), (40, y40), (41, y41), (42, y42)] := fun y0 y1 y2 y3 y4 y5 y6 y7 y8 y9 y10 y11 y15 y21 y27 y32 y33 y34 y35 y40 y41 y42 z0 z1 z2 => rfl
    refine R_nil (tr _ _ _ _ _ _ _ _ _ _ _ _ _ _ _ _ _ _ _ _ _ _ _ _ _) ?_; clear tr
    refine then_n ?_
    refine at_ret rfl ?_
    refine then_r ?_
    refine fin_pure (rs := [.cell 4 24, .tmp 5]) rfl (by simp only [go_sem, ↓reduceIte, Nat.reduceEqDiff]; rfl) (by simp only [go_sem, ↓reduceIte, Nat.reduceEqDiff]; rfl) ?_
    exact ⟨rfl, .inl ⟨by rw [lmS, if_pos h1]; exact h1, by rw [lmS, if_pos h1]⟩⟩
  · try simp only [decide_eq_true_eq, decide_eq_false_iff_not, Bool.not_eq_true', Bool.not_eq_false', beq_iff_eq, beq_eq_false_iff_ne, ne_eq] at h1
    refine at_skip rfl ?_
    refine then_n ?_
    refine at_seq rfl ?_
    refine at_seq rfl ?_
    refine rg rfl ?_
    refine R_q rfl (by simp (disch := first | omega | (simp only [List.length_map, List.length_append, List.length_set, List.length_cons, List.length_nil, List.length_take, List.length_drop]; omega)) only [go_sem, ↓reduceIte, Nat.reduceEqDiff, reduceCtorEq, hT, cu, hrow, hcell, hbx]; rfl) ?_
    refine Rcall ?_
    refine ACall_eq (shape_ok _ _ _) ?_
    refine Rq ?_
    have tr : ∀ y0 y1 y2 y3 y4 y5 y6 y7 y8 y9 y10 y11 y15 y21 y27 y32 y33 y34 y35 y40 y41 y42 z0 z1 z2 : AV, trim [(7, z2), (19, z1), (18, z0), (0, y0), (1, y1), (2, y2), (3, y3), (4, y4), (5, y5), (6, y6), (7, y7), (8, y8), (9, y9), (10, y10), (11, y11), (15, y15), (21, y21), (27, y27), (32, y32), (33, y33), (34, y34), (35, y35), (40, y40), (41, y41), (42, y42)] [(0, y0), (1, y1), (2, y2), (3, y3), (4, y4), (5, y5), (6, y6), (7, y7), (8, y8), (9, y9), (10, y10), (11, y11), (15, y15), (21, y21), (27, y27), (32, y32), (33, y33), (34, y34), (35, y35), (40, y40), (41, y41), (42, y42)] = [(0, y0), (1, y1), (2, y2), (3, y3), (4, y4), (5, y5), (6, y6), (7, z2), (8, y8), (9, y9), (10, y10), (11, y11), (15, y15), (21, y21), (27, y27), (32, y32), (33, y33), (34, y34), (35, y35), (40, y40), (41, y41), (42, y42)] := fun y0 y1 y2 y3 y4 y5 y6 y7 y8 y9 y10 y11 y15 y21 y27 y32 y33 y34 y35 y40 y41 y42 z0 z1 z2 => rfl
    refine R_nil (tr _ _ _ _ _ _ _ _ _ _ _ _ _ _ _ _ _ _ _ _ _ _ _ _ _) ?_; clear tr
    refine then_n ?_
    refine at_seq rfl ?_
    refine rg rfl ?_
    refine Rq ?_
    refine Rq ?_
    have tr : ∀ y0 y1 y2 y3 y4 y5 y6 y7 y8 y9 y10 y11 y15 y21 y27 y32 y33 y34 y35 y40 y41 y42 z0 z1 : AV, trim [(21, z1), (20, z0), (0, y0), (1, y1), (2, y2), (3, y3), (4, y4), (5, y5), (6, y6), (7, y7), (8, y8), (9, y9), (10, y10), (11, y11), (15, y15), (21, y21), (27, y27), (32, y32), (33, y33), (34, y34), (35, y35), (40, y40), (41, y41), (42, y42)] [(0, y0), (1, y1), (2, y2), (3, y3), (4, y4), (5, y5), (6, y6), (7, y7), (8, y8), (9, y9), (10, y10), (11, y11), (15, y15), (21, y21), (27, y27), (32, y32), (33, y33), (34, y34), (35, y35), (40, y40), (41, y41), (42, y42)] = [(0, y0), (1, y1), (2, y2), (3, y3), (4, y4), (5, y5), (6, y6), (7, y7), (8, y8), (9, y9), (10, y10), (11, y11), (15, y15), (21, z1), (27, y27), (32, y32), (33, y33), (34, y34), (35, y35), (40, y40), (41, y41), (42, y42)] := fun y0 y1 y2 y3 y4 y5 y6 y7 y8 y9 y10 y11 y15 y21 y27 y32 y33 y34 y35 y40 y41 y42 z0 z1 => rfl
    refine R_nil (tr _ _ _ _ _ _ _ _ _ _ _ _ _ _ _ _ _ _ _ _ _ _ _ _) ?_; clear tr
    refine then_n ?_
    refine cdd (fun h2 => ?_) (fun h2 => ?_)
    · try simp only [decide_eq_true_eq, decide_eq_false_iff_not, Bool.not_eq_true', Bool.not_eq_false', beq_iff_eq, beq_eq_false_iff_ne, ne_eq] at h2
      refine at_seq rfl ?_
      refine rg rfl ?_
      refine R_q rfl (by simp only [go_sem, List.map_nil, bld24_0]; rfl) ?_
      refine Rq ?_
      refine R_store ty24 (by simp (disch := first | omega | (simp only [List.length_map, List.length_append, List.length_set, List.length_cons, List.length_nil, List.length_take, List.length_drop]; omega)) only [go_sem, ↓reduceIte, Nat.reduceEqDiff, reduceCtorEq, hT, cu, hrow, hcell, hbx]; rfl) (by simp (disch := first | omega | (simp only [List.length_map, List.length_append, List.length_set, List.length_cons, List.length_nil, List.length_take, List.length_drop]; omega)) only [go_sem, ↓reduceIte, Nat.reduceEqDiff, reduceCtorEq, hT, cu, hrow, hcell, hbx]; rfl) (by simp (disch := first | omega | (simp only [List.length_map, List.length_append, List.length_set, List.length_cons, List.length_nil, List.length_take, List.length_drop]; omega)) only [go_sem, ↓reduceIte, Nat.reduceEqDiff, reduceCtorEq, hT, cu, hrow, hcell, hbx]; rfl) (by simp) (by rfl) (by simp (disch := first | omega | (simp only [List.length_map, List.length_append, List.length_set, List.length_cons, List.length_nil, List.length_take, List.length_drop]; omega)) only [go_sem, ↓reduceIte, Nat.reduceEqDiff, reduceCtorEq, hT, cu, hrow, hcell, hbx]; rfl) ?_
      refine Rq ?_
      have tr : ∀ y0 y1 y2 y3 y4 y5 y6 y7 y8 y9 y10 y11 y15 y21 y27 y32 y33 y34 y35 y40 y41 y42 z0 z1 z2 : AV, trim [(5, z2), (23, z1), (22, z0), (0, y0), (1, y1), (2, y2), (3, y3), (4, y4), (5, y5), (6, y6), (7, y7), (8, y8), (9, y9), (10, y10), (11, y11), (15, y15), (21, y21), (27, y27), (32, y32), (33, y33), (34, y34), (35, y35), (40, y40), (41, y41), (42, y42)] [(0, y0), (1, y1), (2, y2), (3, y3), (4, y4), (5, y5), (6, y6), (7, y7), (8, y8), (9, y9), (10, y10), (11, y11), (15, y15), (21, y21), (27, y27), (32, y32), (33, y33), (34, y34), (35, y35), (40, y40), (41, y41), (42, y42)] = [(0, y0), (1, y1), (2, y2), (3, y3), (4, y4), (5, z2), (6, y6), (7, y7), (8, y8), (9, y9), (10, y10), (11, y11), (15, y15), (21, y21), (27, y27), (32, y32), (33, y33), (34, y34), (35, y35), (40, y40), (41, y41), (42, y42)] := fun y0 y1 y2 y3 y4 y5 y6 y7 y8 y9 y10 y11 y15 y21 y27 y32 y33 y34 y35 y40 y41 y42 z0 z1 z2 => rfl
      refine R_nil (tr _ _ _ _ _ _ _ _ _ _ _ _ _ _ _ _ _ _ _ _ _ _ _ _ _) ?_; clear tr
      refine then_n ?_
      refine at_ret rfl ?_
      refine then_r ?_
      refine fin_pure (rs := [.cell 4 24, .tmp 5]) rfl (by simp only [go_sem, ↓reduceIte, Nat.reduceEqDiff]; rfl) (by simp only [go_sem, ↓reduceIte, Nat.reduceEqDiff]; rfl) ?_
      exact ⟨rfl, .inl ⟨by rw [lmS, if_neg (by omega), if_pos h2]; exact h2, by rw [lmS, if_neg (by omega), if_pos h2]⟩⟩
    · try simp only [decide_eq_true_eq, decide_eq_false_iff_not, Bool.not_eq_true', Bool.not_eq_false', beq_iff_eq, beq_eq_false_iff_ne, ne_eq] at h2
      refine at_skip rfl ?_
      refine then_n ?_
      refine at_seq rfl ?_
      refine at_seq rfl ?_
      refine rg rfl ?_
      refine R_q rfl (by simp (disch := first | omega | (simp only [List.length_map, List.length_append, List.length_set, List.length_cons, List.length_nil, List.length_take, List.length_drop]; omega)) only [go_sem, ↓reduceIte, Nat.reduceEqDiff, reduceCtorEq, hT, cu, hrow, hcell, hbx]; rfl) ?_
      refine R_q rfl (by simp (disch := first | omega | (simp only [List.length_map, List.length_append, List.length_set, List.length_cons, List.length_nil, List.length_take, List.length_drop]; omega)) only [go_sem, ↓reduceIte, Nat.reduceEqDiff, reduceCtorEq, hT, cu, hrow, hcell, hbx]; rfl) ?_
      refine Rcall ?_
      refine ACall_eq (alike_ok _ _ a b) ?_
      refine Rq ?_
      have tr : ∀ y0 y1 y2 y3 y4 y5 y6 y7 y8 y9 y10 y11 y15 y21 y27 y32 y33 y34 y35 y40 y41 y42 z0 z1 z2 z3 : AV, trim [(27, z3), (26, z2), (25, z1), (24, z0), (0, y0), (1, y1), (2, y2), (3, y3), (4, y4), (5, y5), (6, y6), (7, y7), (8, y8), (9, y9), (10, y10), (11, y11), (15, y15), (21, y21), (27, y27), (32, y32), (33, y33), (34, y34), (35, y35), (40, y40), (41, y41), (42, y42)] [(0, y0), (1, y1), (2, y2), (3, y3), (4, y4), (5, y5), (6, y6), (7, y7), (8, y8), (9, y9), (10, y10), (11, y11), (15, y15), (21, y21), (27, y27), (32, y32), (33, y33), (34, y34), (35, y35), (40, y40), (41, y41), (42, y42)] = [(0, y0), (1, y1), (2, y2), (3, y3), (4, y4), (5, y5), (6, y6), (7, y7), (8, y8), (9, y9), (10, y10), (11, y11), (15, y15), (21, y21), (27, z3), (32, y32), (33, y33), (34, y34), (35, y35), (40, y40), (41, y41), (42, y42)] := fun y0 y1 y2 y3 y4 y5 y6 y7 y8 y9 y10 y11 y15 y21 y27 y32 y33 y34 y35 y40 y41 y42 z0 z1 z2 z3 => rfl
      refine R_nil (tr _ _ _ _ _ _ _ _ _ _ _ _ _ _ _ _ _ _ _ _ _ _ _ _ _ _) ?_; clear tr
      refine then_n ?_
      refine cdd (fun h3 => ?_) (fun h3 => ?_)
      · try simp only [decide_eq_true_eq, decide_eq_false_iff_not, Bool.not_eq_true', Bool.not_eq_false', beq_iff_eq, beq_eq_false_iff_ne, ne_eq] at h3
        refine at_seq rfl ?_
        refine rg rfl ?_
        refine R_q rfl (by simp only [go_sem, List.map_nil, bld24_0]; rfl) ?_
        refine R_store ty24 (by simp (disch := first | omega | (simp only [List.length_map, List.length_append, List.length_set, List.length_cons, List.length_nil, List.length_take, List.length_drop]; omega)) only [go_sem, ↓reduceIte, Nat.reduceEqDiff, reduceCtorEq, hT, cu, hrow, hcell, hbx]; rfl) (by simp (disch := first | omega | (simp only [List.length_map, List.length_append, List.length_set, List.length_cons, List.length_nil, List.length_take, List.length_drop]; omega)) only [go_sem, ↓reduceIte, Nat.reduceEqDiff, reduceCtorEq, hT, cu, hrow, hcell, hbx]; rfl) (by simp (disch := first | omega | (simp only [List.length_map, List.length_append, List.length_set, List.length_cons, List.length_nil, List.length_take, List.length_drop]; omega)) only [go_sem, ↓reduceIte, Nat.reduceEqDiff, reduceCtorEq, hT, cu, hrow, hcell, hbx]; rfl) (by simp) (by rfl) (by simp (disch := first | omega | (simp only [List.length_map, List.length_append, List.length_set, List.length_cons, List.length_nil, List.length_take, List.length_drop]; omega)) only [go_sem, ↓reduceIte, Nat.reduceEqDiff, reduceCtorEq, hT, cu, hrow, hcell, hbx]; rfl) ?_
        refine Rq ?_
        have tr : ∀ y0 y1 y2 y3 y4 y5 y6 y7 y8 y9 y10 y11 y15 y21 y27 y32 y33 y34 y35 y40 y41 y42 z0 z1 : AV, trim [(5, z1), (28, z0), (0, y0), (1, y1), (2, y2), (3, y3), (4, y4), (5, y5), (6, y6), (7, y7), (8, y8), (9, y9), (10, y10), (11, y11), (15, y15), (21, y21), (27, y27), (32, y32), (33, y33), (34, y34), (35, y35), (40, y40), (41, y41), (42, y42)] [(0, y0), (1, y1), (2, y2), (3, y3), (4, y4), (5, y5), (6, y6), (7, y7), (8, y8), (9, y9), (10, y10), (11, y11), (15, y15), (21, y21), (27, y27), (32, y32), (33, y33), (34, y34), (35, y35), (40, y40), (41, y41), (42, y42)] = [(0, y0), (1, y1), (2, y2), (3, y3), (4, y4), (5, z1), (6, y6), (7, y7), (8, y8), (9, y9), (10, y10), (11, y11), (15, y15), (21, y21), (27, y27), (32, y32), (33, y33), (34, y34), (35, y35), (40, y40), (41, y41), (42, y42)] := fun y0 y1 y2 y3 y4 y5 y6 y7 y8 y9 y10 y11 y15 y21 y27 y32 y33 y34 y35 y40 y41 y42 z0 z1 => rfl
        refine R_nil (tr _ _ _ _ _ _ _ _ _ _ _ _ _ _ _ _ _ _ _ _ _ _ _ _) ?_; clear tr
        refine then_n ?_
        refine at_ret rfl ?_
        refine then_r ?_
        refine fin_pure (rs := [.cell 4 24, .tmp 5]) rfl (by simp only [go_sem, ↓reduceIte, Nat.reduceEqDiff]; rfl) (by simp only [go_sem, ↓reduceIte, Nat.reduceEqDiff]; rfl) ?_
        have hna := of_alikeB_f (by assumption)
        have e1 : lmS a b = 1 := by rw [lmS, if_neg (by omega), if_neg (by omega), if_pos hna]
        exact ⟨rfl, .inl ⟨by omega, by rw [e1]⟩⟩
      · try simp only [decide_eq_true_eq, decide_eq_false_iff_not, Bool.not_eq_true', Bool.not_eq_false', beq_iff_eq, beq_eq_false_iff_ne, ne_eq] at h3
        refine at_skip rfl ?_
        refine then_n ?_
        refine at_seq rfl ?_
        refine rg rfl ?_
        have hal := of_alikeB (by assumption)
        obtain ⟨hsa, hsb, hl, hl0⟩ := hal
        obtain ⟨a2, a91, a1, a10, al, ar⟩ := shaped_of hsa
        obtain ⟨b2, b91, b1, b10, bl, br⟩ := shaped_of hsb
        refine Rq ?_
        refine R_q rfl (by simp (disch := first | omega | (simp only [List.length_map, List.length_append, List.length_set, List.length_cons, List.length_nil, List.length_take, List.length_drop]; omega)) only [go_sem, ↓reduceIte, Nat.reduceEqDiff, reduceCtorEq, hT, cu, hrow, hcell, hbx]; rfl) ?_
        refine Rcall ?_
        refine ACall_mono (clone_ok _ _ (by simp) a (by omega) (fun i hi => by rw [al i hi]; omega)) ?_
        rintro r H5 ⟨X, rfl, hO⟩
        rcases hO with ⟨h0, _⟩ | ⟨b0, bs, rfl, T⟩
        · exfalso; subst h0; simp at a2
        refine Rq ?_
        have tr : ∀ y0 y1 y2 y3 y4 y5 y6 y7 y8 y9 y10 y11 y15 y21 y27 y32 y33 y34 y35 y40 y41 y42 z0 z1 z2 z3 : AV, trim [(8, z3), (31, z2), (30, z1), (29, z0), (0, y0), (1, y1), (2, y2), (3, y3), (4, y4), (5, y5), (6, y6), (7, y7), (8, y8), (9, y9), (10, y10), (11, y11), (15, y15), (21, y21), (27, y27), (32, y32), (33, y33), (34, y34), (35, y35), (40, y40), (41, y41), (42, y42)] [(0, y0), (1, y1), (2, y2), (3, y3), (4, y4), (5, y5), (6, y6), (7, y7), (8, y8), (9, y9), (10, y10), (11, y11), (15, y15), (21, y21), (27, y27), (32, y32), (33, y33), (34, y34), (35, y35), (40, y40), (41, y41), (42, y42)] = [(0, y0), (1, y1), (2, y2), (3, y3), (4, y4), (5, y5), (6, y6), (7, y7), (8, z3), (9, y9), (10, y10), (11, y11), (15, y15), (21, y21), (27, y27), (32, y32), (33, y33), (34, y34), (35, y35), (40, y40), (41, y41), (42, y42)] := fun y0 y1 y2 y3 y4 y5 y6 y7 y8 y9 y10 y11 y15 y21 y27 y32 y33 y34 y35 y40 y41 y42 z0 z1 z2 z3 => rfl
        refine R_nil (tr _ _ _ _ _ _ _ _ _ _ _ _ _ _ _ _ _ _ _ _ _ _ _ _ _ _) ?_; clear tr
        refine then_n ?_
        refine at_seq rfl ?_
        refine at_seq rfl ?_
        refine rg rfl ?_
        have J00 := MJ.start (f := fun i j => min (gt (gt a i) j) (gt (gt b i) j)) (D := fun i _ => i < 0) T (fun _ _ _ _ h => by omega)
        have hT := J00.tab.outer
        have hln := J00.same.len
        have hrl : Rect _ (gt a 0).length := J00.same.rect al
        obtain ⟨cu, hcell⟩ := tab_facts J00.tab hrl
        have hrow := J00.tab.row
        have hbx : hget ((H ++ [some [rowsAV a]] ++ [some [rowsAV b]] ++ [some [AV.v (.slice none 0 0)]]) ++ X) (H ++ [some [rowsAV a]]).length = some [rowsAV b] := by
          rw [J00.frame _ (by simp), hget_low _ _ _ (by simp), hget_low _ _ _ (by simp), hget_app]; rfl
        refine Rq ?_
        refine Rq ?_
        refine Rq ?_
        have tr : ∀ y0 y1 y2 y3 y4 y5 y6 y7 y8 y9 y10 y11 y15 y21 y27 y32 y33 y34 y35 y40 y41 y42 z0 z1 z2 : AV, trim [(34, z2), (33, z1), (32, z0), (0, y0), (1, y1), (2, y2), (3, y3), (4, y4), (5, y5), (6, y6), (7, y7), (8, y8), (9, y9), (10, y10), (11, y11), (15, y15), (21, y21), (27, y27), (32, y32), (33, y33), (34, y34), (35, y35), (40, y40), (41, y41), (42, y42)] [(0, y0), (1, y1), (2, y2), (3, y3), (4, y4), (5, y5), (6, y6), (7, y7), (8, y8), (9, y9), (10, y10), (11, y11), (15, y15), (21, y21), (27, y27), (32, y32), (33, y33), (34, y34), (35, y35), (40, y40), (41, y41), (42, y42)] = [(0, y0), (1, y1), (2, y2), (3, y3), (4, y4), (5, y5), (6, y6), (7, y7), (8, y8), (9, y9), (10, y10), (11, y11), (15, y15), (21, y21), (27, y27), (32, z0), (33, z1), (34, z2), (35, y35), (40, y40), (41, y41), (42, y42)] := fun y0 y1 y2 y3 y4 y5 y6 y7 y8 y9 y10 y11 y15 y21 y27 y32 y33 y34 y35 y40 y41 y42 z0 z1 z2 => rfl
        refine R_nil (tr _ _ _ _ _ _ _ _ _ _ _ _ _ _ _ _ _ _ _ _ _ _ _ _ _) ?_; clear tr
        refine then_n ?_
        refine at_block rfl ?_
        refine loop_n rfl (fun mm kv H' => ∃ u : Nat, ∃ l : Tb, ∃ x9 x10 x11 x35 x40 x41 x42 : AV, (kv = [(9, x9), (10, x10), (11, x11), (34, AV.i u), (35, x35), (40, x40), (41, x41), (42, x42)]) ∧ (mm = a.length - u) ∧ (u ≤ a.length) ∧ (MJ a (fun i j => min (gt (gt a i) j) (gt (gt b i) j)) (H ++ [some [rowsAV a]] ++ [some [rowsAV b]] ++ [some [AV.v (.slice none 0 0)]]).length b0 bs (fun i _ => i < u) ((H ++ [some [rowsAV a]] ++ [some [rowsAV b]] ++ [some [AV.v (.slice none 0 0)]]) ++ X) H' l)) ⟨0, a, _, _, _, _, _, _, _, rfl, rfl, by omega, by exact J00⟩ (by rfl) ?_
        rintro mm kv H1' ⟨u, l, x9, x10, x11, x35, x40, x41, x42, rfl, rfl, hu, J0⟩
        have tr : ∀ y0 y1 y2 y3 y4 y5 y6 y7 y8 y9 y10 y11 y15 y21 y27 y32 y33 y34 y35 y40 y41 y42 z9 z10 z11 z34 z35 z40 z41 z42 : AV, upd [(0, y0), (1, y1), (2, y2), (3, y3), (4, y4), (5, y5), (6, y6), (7, y7), (8, y8), (9, y9), (10, y10), (11, y11), (15, y15), (21, y21), (27, y27), (32, y32), (33, y33), (34, y34), (35, y35), (40, y40), (41, y41), (42, y42)] [(9, z9), (10, z10), (11, z11), (34, z34), (35, z35), (40, z40), (41, z41), (42, z42)] = [(0, y0), (1, y1), (2, y2), (3, y3), (4, y4), (5, y5), (6, y6), (7, y7), (8, y8), (9, z9), (10, z10), (11, z11), (15, y15), (21, y21), (27, y27), (32, y32), (33, y33), (34, z34), (35, z35), (40, z40), (41, z41), (42, z42)] := fun y0 y1 y2 y3 y4 y5 y6 y7 y8 y9 y10 y11 y15 y21 y27 y32 y33 y34 y35 y40 y41 y42 z9 z10 z11 z34 z35 z40 z41 z42 => rfl
        refine W_to (tr _ _ _ _ _ _ _ _ _ _ _ _ _ _ _ _ _ _ _ _ _ _ _ _ _ _ _ _ _ _) ?_; clear tr
        have hT := J0.tab.outer
        have hln := J0.same.len
        have hrl : Rect _ (gt a 0).length := J0.same.rect al
        obtain ⟨cu, hcell⟩ := tab_facts J0.tab hrl
        have hrow := J0.tab.row
        have hbx : hget H1' (H ++ [some [rowsAV a]]).length = some [rowsAV b] := by
          rw [J0.frame _ (by simp), hget_low _ _ _ (by simp), hget_low _ _ _ (by simp), hget_app]; rfl
        refine at_seq rfl ?_
        refine rg rfl ?_
        refine Rq ?_
        have tr : ∀ y0 y1 y2 y3 y4 y5 y6 y7 y8 y9 y10 y11 y15 y21 y27 y32 y33 y34 y35 y40 y41 y42 z0 : AV, trim [(35, z0), (0, y0), (1, y1), (2, y2), (3, y3), (4, y4), (5, y5), (6, y6), (7, y7), (8, y8), (9, y9), (10, y10), (11, y11), (15, y15), (21, y21), (27, y27), (32, y32), (33, y33), (34, y34), (35, y35), (40, y40), (41, y41), (42, y42)] [(0, y0), (1, y1), (2, y2), (3, y3), (4, y4), (5, y5), (6, y6), (7, y7), (8, y8), (9, y9), (10, y10), (11, y11), (15, y15), (21, y21), (27, y27), (32, y32), (33, y33), (34, y34), (35, y35), (40, y40), (41, y41), (42, y42)] = [(0, y0), (1, y1), (2, y2), (3, y3), (4, y4), (5, y5), (6, y6), (7, y7), (8, y8), (9, y9), (10, y10), (11, y11), (15, y15), (21, y21), (27, y27), (32, y32), (33, y33), (34, y34), (35, z0), (40, y40), (41, y41), (42, y42)] := fun y0 y1 y2 y3 y4 y5 y6 y7 y8 y9 y10 y11 y15 y21 y27 y32 y33 y34 y35 y40 y41 y42 z0 => rfl
        refine R_nil (tr _ _ _ _ _ _ _ _ _ _ _ _ _ _ _ _ _ _ _ _ _ _ _) ?_; clear tr
        refine then_n ?_
        refine at_seq rfl ?_
        refine cdd (fun h4 => ?_) (fun h4 => ?_)
        · try simp only [decide_eq_true_eq, decide_eq_false_iff_not, Bool.not_eq_true', Bool.not_eq_false', beq_iff_eq, beq_eq_false_iff_ne, ne_eq] at h4
          refine at_skip rfl ?_
          refine then_n ?_
          refine at_seq rfl ?_
          refine at_block rfl ?_
          refine at_seq rfl ?_
          refine rg rfl ?_
          refine Rq ?_
          refine Rq ?_
          refine R_q rfl (by simp (disch := first | omega | (simp only [List.length_map, List.length_append, List.length_set, List.length_cons, List.length_nil, List.length_take, List.length_drop]; omega)) only [go_sem, ↓reduceIte, Nat.reduceEqDiff, reduceCtorEq, hT, cu, hrow, hcell, hbx]; rfl) ?_
          refine Rq ?_
          refine Rq ?_
          have tr : ∀ y0 y1 y2 y3 y4 y5 y6 y7 y8 y9 y10 y11 y15 y21 y27 y32 y33 y34 y35 y40 y41 y42 z0 z1 z2 z3 z4 : AV, trim [(10, z4), (9, z3), (38, z2), (37, z1), (36, z0), (0, y0), (1, y1), (2, y2), (3, y3), (4, y4), (5, y5), (6, y6), (7, y7), (8, y8), (9, y9), (10, y10), (11, y11), (15, y15), (21, y21), (27, y27), (32, y32), (33, y33), (34, y34), (35, y35), (40, y40), (41, y41), (42, y42)] [(0, y0), (1, y1), (2, y2), (3, y3), (4, y4), (5, y5), (6, y6), (7, y7), (8, y8), (9, y9), (10, y10), (11, y11), (15, y15), (21, y21), (27, y27), (32, y32), (33, y33), (34, y34), (35, y35), (40, y40), (41, y41), (42, y42)] = [(0, y0), (1, y1), (2, y2), (3, y3), (4, y4), (5, y5), (6, y6), (7, y7), (8, y8), (9, z3), (10, z4), (11, y11), (15, y15), (21, y21), (27, y27), (32, y32), (33, y33), (34, y34), (35, y35), (40, y40), (41, y41), (42, y42)] := fun y0 y1 y2 y3 y4 y5 y6 y7 y8 y9 y10 y11 y15 y21 y27 y32 y33 y34 y35 y40 y41 y42 z0 z1 z2 z3 z4 => rfl
          refine R_nil (tr _ _ _ _ _ _ _ _ _ _ _ _ _ _ _ _ _ _ _ _ _ _ _ _ _ _ _) ?_; clear tr
          refine then_n ?_
          refine at_seq rfl ?_
          refine rg rfl ?_
          have hau := al u (by omega)
          have hbu := bl u (by omega)
          have hlu := hrl u (by omega)
          refine Rq ?_
          refine Rq ?_
          refine Rq ?_
          have tr : ∀ y0 y1 y2 y3 y4 y5 y6 y7 y8 y9 y10 y11 y15 y21 y27 y32 y33 y34 y35 y40 y41 y42 z0 z1 z2 : AV, trim [(41, z2), (40, z1), (39, z0), (0, y0), (1, y1), (2, y2), (3, y3), (4, y4), (5, y5), (6, y6), (7, y7), (8, y8), (9, y9), (10, y10), (11, y11), (15, y15), (21, y21), (27, y27), (32, y32), (33, y33), (34, y34), (35, y35), (40, y40), (41, y41), (42, y42)] [(0, y0), (1, y1), (2, y2), (3, y3), (4, y4), (5, y5), (6, y6), (7, y7), (8, y8), (9, y9), (10, y10), (11, y11), (15, y15), (21, y21), (27, y27), (32, y32), (33, y33), (34, y34), (35, y35), (40, y40), (41, y41), (42, y42)] = [(0, y0), (1, y1), (2, y2), (3, y3), (4, y4), (5, y5), (6, y6), (7, y7), (8, y8), (9, y9), (10, y10), (11, y11), (15, y15), (21, y21), (27, y27), (32, y32), (33, y33), (34, y34), (35, y35), (40, z1), (41, z2), (42, y42)] := fun y0 y1 y2 y3 y4 y5 y6 y7 y8 y9 y10 y11 y15 y21 y27 y32 y33 y34 y35 y40 y41 y42 z0 z1 z2 => rfl
          refine R_nil (tr _ _ _ _ _ _ _ _ _ _ _ _ _ _ _ _ _ _ _ _ _ _ _ _ _) ?_; clear tr
          refine then_n ?_
          refine at_block rfl ?_
          refine loop_n rfl (fun mm kv H' => ∃ w : Nat, ∃ l1 : Tb, ∃ x11 x42 : AV, (kv = [(11, x11), (41, AV.i w), (42, x42)]) ∧ (mm = (gt a 0).length - w) ∧ (w ≤ (gt a 0).length) ∧ (MJ a (fun i j => min (gt (gt a i) j) (gt (gt b i) j)) (H ++ [some [rowsAV a]] ++ [some [rowsAV b]] ++ [some [AV.v (.slice none 0 0)]]).length b0 bs (fun i j => i < u ∨ (i = u ∧ j < w)) ((H ++ [some [rowsAV a]] ++ [some [rowsAV b]] ++ [some [AV.v (.slice none 0 0)]]) ++ X) H' l1)) ⟨0, l, _, _, rfl, rfl, by omega, by exact J0.congr fun i j hi hj => by omega⟩ (by rfl) ?_
          rintro mm kv H2' ⟨w, l1, x11, x42, rfl, rfl, hw, J1⟩
          have tr : ∀ y0 y1 y2 y3 y4 y5 y6 y7 y8 y9 y10 y11 y15 y21 y27 y32 y33 y34 y35 y40 y41 y42 z11 z41 z42 : AV, upd [(0, y0), (1, y1), (2, y2), (3, y3), (4, y4), (5, y5), (6, y6), (7, y7), (8, y8), (9, y9), (10, y10), (11, y11), (15, y15), (21, y21), (27, y27), (32, y32), (33, y33), (34, y34), (35, y35), (40, y40), (41, y41), (42, y42)] [(11, z11), (41, z41), (42, z42)] = [(0, y0), (1, y1), (2, y2), (3, y3), (4, y4), (5, y5), (6, y6), (7, y7), (8, y8), (9, y9), (10, y10), (11, z11), (15, y15), (21, y21), (27, y27), (32, y32), (33, y33), (34, y34), (35, y35), (40, y40), (41, z41), (42, z42)] := fun y0 y1 y2 y3 y4 y5 y6 y7 y8 y9 y10 y11 y15 y21 y27 y32 y33 y34 y35 y40 y41 y42 z11 z41 z42 => rfl
          refine W_to (tr _ _ _ _ _ _ _ _ _ _ _ _ _ _ _ _ _ _ _ _ _ _ _ _ _) ?_; clear tr
          clear hT cu hcell hrow hbx hln hrl hlu
          have hT := J1.tab.outer
          have hln := J1.same.len
          have hrl : Rect _ (gt a 0).length := J1.same.rect al
          obtain ⟨cu, hcell⟩ := tab_facts J1.tab hrl
          have hrow := J1.tab.row
          have hbx : hget H2' (H ++ [some [rowsAV a]]).length = some [rowsAV b] := by
            rw [J1.frame _ (by simp), hget_low _ _ _ (by simp), hget_low _ _ _ (by simp), hget_app]; rfl
          have hlu := hrl u (by omega)
          refine at_seq rfl ?_
          refine rg rfl ?_
          refine Rq ?_
          have tr : ∀ y0 y1 y2 y3 y4 y5 y6 y7 y8 y9 y10 y11 y15 y21 y27 y32 y33 y34 y35 y40 y41 y42 z0 : AV, trim [(42, z0), (0, y0), (1, y1), (2, y2), (3, y3), (4, y4), (5, y5), (6, y6), (7, y7), (8, y8), (9, y9), (10, y10), (11, y11), (15, y15), (21, y21), (27, y27), (32, y32), (33, y33), (34, y34), (35, y35), (40, y40), (41, y41), (42, y42)] [(0, y0), (1, y1), (2, y2), (3, y3), (4, y4), (5, y5), (6, y6), (7, y7), (8, y8), (9, y9), (10, y10), (11, y11), (15, y15), (21, y21), (27, y27), (32, y32), (33, y33), (34, y34), (35, y35), (40, y40), (41, y41), (42, y42)] = [(0, y0), (1, y1), (2, y2), (3, y3), (4, y4), (5, y5), (6, y6), (7, y7), (8, y8), (9, y9), (10, y10), (11, y11), (15, y15), (21, y21), (27, y27), (32, y32), (33, y33), (34, y34), (35, y35), (40, y40), (41, y41), (42, z0)] := fun y0 y1 y2 y3 y4 y5 y6 y7 y8 y9 y10 y11 y15 y21 y27 y32 y33 y34 y35 y40 y41 y42 z0 => rfl
          refine R_nil (tr _ _ _ _ _ _ _ _ _ _ _ _ _ _ _ _ _ _ _ _ _ _ _) ?_; clear tr
          refine then_n ?_
          refine at_seq rfl ?_
          refine cdd (fun h5 => ?_) (fun h5 => ?_)
          · try simp only [decide_eq_true_eq, decide_eq_false_iff_not, Bool.not_eq_true', Bool.not_eq_false', beq_iff_eq, beq_eq_false_iff_ne, ne_eq] at h5
            refine at_skip rfl ?_
            refine then_n ?_
            refine at_seq rfl ?_
            refine at_block rfl ?_
            refine at_seq rfl ?_
            refine rg rfl ?_
            refine Rq ?_
            refine Rq ?_
            have tr : ∀ y0 y1 y2 y3 y4 y5 y6 y7 y8 y9 y10 y11 y15 y21 y27 y32 y33 y34 y35 y40 y41 y42 z0 z1 : AV, trim [(11, z1), (43, z0), (0, y0), (1, y1), (2, y2), (3, y3), (4, y4), (5, y5), (6, y6), (7, y7), (8, y8), (9, y9), (10, y10), (11, y11), (15, y15), (21, y21), (27, y27), (32, y32), (33, y33), (34, y34), (35, y35), (40, y40), (41, y41), (42, y42)] [(0, y0), (1, y1), (2, y2), (3, y3), (4, y4), (5, y5), (6, y6), (7, y7), (8, y8), (9, y9), (10, y10), (11, y11), (15, y15), (21, y21), (27, y27), (32, y32), (33, y33), (34, y34), (35, y35), (40, y40), (41, y41), (42, y42)] = [(0, y0), (1, y1), (2, y2), (3, y3), (4, y4), (5, y5), (6, y6), (7, y7), (8, y8), (9, y9), (10, y10), (11, z1), (15, y15), (21, y21), (27, y27), (32, y32), (33, y33), (34, y34), (35, y35), (40, y40), (41, y41), (42, y42)] := fun y0 y1 y2 y3 y4 y5 y6 y7 y8 y9 y10 y11 y15 y21 y27 y32 y33 y34 y35 y40 y41 y42 z0 z1 => rfl
            refine R_nil (tr _ _ _ _ _ _ _ _ _ _ _ _ _ _ _ _ _ _ _ _ _ _ _ _) ?_; clear tr
            refine then_n ?_
            refine rd rfl rfl ?_
            refine Qq ?_
            refine Qq ?_
            refine Qq ?_
            refine Qq ?_
            refine Qq ?_
            refine Q_q rfl (by simp (disch := first | omega | (simp only [List.length_map, List.length_append, List.length_set, List.length_cons, List.length_nil, List.length_take, List.length_drop]; omega)) only [go_sem, ↓reduceIte, Nat.reduceEqDiff, reduceCtorEq, hT, cu, hrow, hcell, hbx]; rfl) ?_
            refine Qq ?_
            refine Q_q rfl (by simp (disch := first | omega | (simp only [List.length_map, List.length_append, List.length_set, List.length_cons, List.length_nil, List.length_take, List.length_drop]; omega)) only [go_sem, ↓reduceIte, Nat.reduceEqDiff, reduceCtorEq, hT, cu, hrow, hcell, hbx]; rfl) ?_
            refine Qq ?_
            refine Qq ?_
            refine Q_q rfl (by simp (disch := first | omega | (simp only [List.length_map, List.length_append, List.length_set, List.length_cons, List.length_nil, List.length_take, List.length_drop]; omega)) only [go_sem, ↓reduceIte, Nat.reduceEqDiff, reduceCtorEq, hT, cu, hrow, hcell, hbx]; rfl) ?_
            refine Qq ?_
            refine Qq ?_
            refine Q_q rfl (by simp (disch := first | omega | (simp only [List.length_map, List.length_append, List.length_set, List.length_cons, List.length_nil, List.length_take, List.length_drop]; omega)) only [go_sem, ↓reduceIte, Nat.reduceEqDiff, reduceCtorEq, hT, cu, hrow, hcell, hbx]; rfl) ?_
            refine Qq ?_
            refine Qq ?_
            refine Q_nil ?_
            refine R_store ty2 (by simp (disch := first | omega | (simp only [List.length_map, List.length_append, List.length_set, List.length_cons, List.length_nil, List.length_take, List.length_drop]; omega)) only [go_sem, ↓reduceIte, Nat.reduceEqDiff, reduceCtorEq, hT, cu, hrow, hcell, hbx]; rfl) (by simp (disch := first | omega | (simp only [List.length_map, List.length_append, List.length_set, List.length_cons, List.length_nil, List.length_take, List.length_drop]; omega)) only [go_sem, ↓reduceIte, Nat.reduceEqDiff, reduceCtorEq, hT, cu, hrow, hcell, hbx]; rfl) (hrow u (by omega)) ⟨Nat.le_trans (by simp) (J1.tab.low u (by omega)), rfl, by simp only [List.length_map, hrl u (by omega)]; omega⟩ (setL_map _ _ _) rfl ?_
            have tr : ∀ y0 y1 y2 y3 y4 y5 y6 y7 y8 y9 y10 y11 y15 y21 y27 y32 y33 y34 y35 y40 y41 y42 z0 z1 z2 z3 z4 z5 z6 z7 z8 z9 z10 z11 z12 z13 z14 z15 : AV, trim [(59, z15), (58, z14), (57, z13), (56, z12), (55, z11), (54, z10), (53, z9), (52, z8), (51, z7), (50, z6), (49, z5), (48, z4), (47, z3), (46, z2), (45, z1), (44, z0), (0, y0), (1, y1), (2, y2), (3, y3), (4, y4), (5, y5), (6, y6), (7, y7), (8, y8), (9, y9), (10, y10), (11, y11), (15, y15), (21, y21), (27, y27), (32, y32), (33, y33), (34, y34), (35, y35), (40, y40), (41, y41), (42, y42)] [(0, y0), (1, y1), (2, y2), (3, y3), (4, y4), (5, y5), (6, y6), (7, y7), (8, y8), (9, y9), (10, y10), (11, y11), (15, y15), (21, y21), (27, y27), (32, y32), (33, y33), (34, y34), (35, y35), (40, y40), (41, y41), (42, y42)] = [(0, y0), (1, y1), (2, y2), (3, y3), (4, y4), (5, y5), (6, y6), (7, y7), (8, y8), (9, y9), (10, y10), (11, y11), (15, y15), (21, y21), (27, y27), (32, y32), (33, y33), (34, y34), (35, y35), (40, y40), (41, y41), (42, y42)] := fun y0 y1 y2 y3 y4 y5 y6 y7 y8 y9 y10 y11 y15 y21 y27 y32 y33 y34 y35 y40 y41 y42 z0 z1 z2 z3 z4 z5 z6 z7 z8 z9 z10 z11 z12 z13 z14 z15 => rfl
            refine R_nil (tr _ _ _ _ _ _ _ _ _ _ _ _ _ _ _ _ _ _ _ _ _ _ _ _ _ _ _ _ _ _ _ _ _ _ _ _ _ _) ?_; clear tr
            refine blk_n ?_
            refine then_n ?_
            refine rg rfl ?_
            refine Rq ?_
            refine Rq ?_
            have tr : ∀ y0 y1 y2 y3 y4 y5 y6 y7 y8 y9 y10 y11 y15 y21 y27 y32 y33 y34 y35 y40 y41 y42 z0 z1 : AV, trim [(41, z1), (60, z0), (0, y0), (1, y1), (2, y2), (3, y3), (4, y4), (5, y5), (6, y6), (7, y7), (8, y8), (9, y9), (10, y10), (11, y11), (15, y15), (21, y21), (27, y27), (32, y32), (33, y33), (34, y34), (35, y35), (40, y40), (41, y41), (42, y42)] [(0, y0), (1, y1), (2, y2), (3, y3), (4, y4), (5, y5), (6, y6), (7, y7), (8, y8), (9, y9), (10, y10), (11, y11), (15, y15), (21, y21), (27, y27), (32, y32), (33, y33), (34, y34), (35, y35), (40, y40), (41, y41), (42, y42)] = [(0, y0), (1, y1), (2, y2), (3, y3), (4, y4), (5, y5), (6, y6), (7, y7), (8, y8), (9, y9), (10, y10), (11, y11), (15, y15), (21, y21), (27, y27), (32, y32), (33, y33), (34, y34), (35, y35), (40, y40), (41, z1), (42, y42)] := fun y0 y1 y2 y3 y4 y5 y6 y7 y8 y9 y10 y11 y15 y21 y27 y32 y33 y34 y35 y40 y41 y42 z0 z1 => rfl
            refine R_nil (tr _ _ _ _ _ _ _ _ _ _ _ _ _ _ _ _ _ _ _ _ _ _ _ _) ?_; clear tr
            refine then_n ?_
            exact ⟨_, _, ⟨w + 1, _, _, _, rfl, rfl, by omega, by exact J1.put (by omega) (by omega) _ (by rw [J1.left u w (by omega) (by omega) (by omega)]) fun i j hi hj => by omega⟩, by rfl, by omega⟩
          · try simp only [decide_eq_true_eq, decide_eq_false_iff_not, Bool.not_eq_true', Bool.not_eq_false', beq_iff_eq, beq_eq_false_iff_ne, ne_eq] at h5
            refine at_exit rfl ?_
            refine then_x ?_
            refine then_x ?_
            refine blk_x ?_
            refine blk_n ?_
            refine then_n ?_
            refine rg rfl ?_
            refine Rq ?_
            refine Rq ?_
            have tr : ∀ y0 y1 y2 y3 y4 y5 y6 y7 y8 y9 y10 y11 y15 y21 y27 y32 y33 y34 y35 y40 y41 y42 z0 z1 : AV, trim [(34, z1), (61, z0), (0, y0), (1, y1), (2, y2), (3, y3), (4, y4), (5, y5), (6, y6), (7, y7), (8, y8), (9, y9), (10, y10), (11, y11), (15, y15), (21, y21), (27, y27), (32, y32), (33, y33), (34, y34), (35, y35), (40, y40), (41, y41), (42, y42)] [(0, y0), (1, y1), (2, y2), (3, y3), (4, y4), (5, y5), (6, y6), (7, y7), (8, y8), (9, y9), (10, y10), (11, y11), (15, y15), (21, y21), (27, y27), (32, y32), (33, y33), (34, y34), (35, y35), (40, y40), (41, y41), (42, y42)] = [(0, y0), (1, y1), (2, y2), (3, y3), (4, y4), (5, y5), (6, y6), (7, y7), (8, y8), (9, y9), (10, y10), (11, y11), (15, y15), (21, y21), (27, y27), (32, y32), (33, y33), (34, z1), (35, y35), (40, y40), (41, y41), (42, y42)] := fun y0 y1 y2 y3 y4 y5 y6 y7 y8 y9 y10 y11 y15 y21 y27 y32 y33 y34 y35 y40 y41 y42 z0 z1 => rfl
            refine R_nil (tr _ _ _ _ _ _ _ _ _ _ _ _ _ _ _ _ _ _ _ _ _ _ _ _) ?_; clear tr
            refine then_n ?_
            exact ⟨_, _, ⟨u + 1, _, _, _, _, _, _, _, _, rfl, rfl, by omega, by exact J1.congr fun i j hi hj => by rw [al i hi] at hj; omega⟩, by rfl, by omega⟩
        · try simp only [decide_eq_true_eq, decide_eq_false_iff_not, Bool.not_eq_true', Bool.not_eq_false', beq_iff_eq, beq_eq_false_iff_ne, ne_eq] at h4
          refine at_exit rfl ?_
          refine then_x ?_
          refine then_x ?_
          refine blk_x ?_
          refine then_n ?_
          refine at_seq rfl ?_
          refine rg rfl ?_
          have hq0 : hget H1' (H ++ [some [rowsAV a]] ++ [some [rowsAV b]]).length = some [AV.v (.slice none 0 0)] := by
            rw [J0.frame _ (by simp), hget_low _ _ _ (by simp), hget_app]; rfl
          have hq1 := hget_lt hq0
          refine Rq ?_
          refine R_q rfl (by simp only [go_sem, ↓reduceIte, Nat.reduceEqDiff, List.map_cons, List.map_nil, bld24]; rfl) ?_
          refine R_store ty24 (by simp (disch := first | omega | (simp only [List.length_map, List.length_append, List.length_set, List.length_cons, List.length_nil, List.length_take, List.length_drop]; omega)) only [go_sem, ↓reduceIte, Nat.reduceEqDiff, reduceCtorEq]; rfl) (by simp (disch := first | omega | (simp only [List.length_map, List.length_append, List.length_set, List.length_cons, List.length_nil, List.length_take, List.length_drop]; omega)) only [go_sem, ↓reduceIte, Nat.reduceEqDiff, reduceCtorEq]; rfl) hq0 (by simp) (by rfl) (by rfl) ?_
          refine Rq ?_
          have tr : ∀ y0 y1 y2 y3 y4 y5 y6 y7 y8 y9 y10 y11 y15 y21 y27 y32 y33 y34 y35 y40 y41 y42 z0 z1 z2 : AV, trim [(5, z2), (63, z1), (62, z0), (0, y0), (1, y1), (2, y2), (3, y3), (4, y4), (5, y5), (6, y6), (7, y7), (8, y8), (9, y9), (10, y10), (11, y11), (15, y15), (21, y21), (27, y27), (32, y32), (33, y33), (34, y34), (35, y35), (40, y40), (41, y41), (42, y42)] [(0, y0), (1, y1), (2, y2), (3, y3), (4, y4), (5, y5), (6, y6), (7, y7), (8, y8), (9, y9), (10, y10), (11, y11), (15, y15), (21, y21), (27, y27), (32, y32), (33, y33), (34, y34), (35, y35), (40, y40), (41, y41), (42, y42)] = [(0, y0), (1, y1), (2, y2), (3, y3), (4, y4), (5, z2), (6, y6), (7, y7), (8, y8), (9, y9), (10, y10), (11, y11), (15, y15), (21, y21), (27, y27), (32, y32), (33, y33), (34, y34), (35, y35), (40, y40), (41, y41), (42, y42)] := fun y0 y1 y2 y3 y4 y5 y6 y7 y8 y9 y10 y11 y15 y21 y27 y32 y33 y34 y35 y40 y41 y42 z0 z1 z2 => rfl
          refine R_nil (tr _ _ _ _ _ _ _ _ _ _ _ _ _ _ _ _ _ _ _ _ _ _ _ _ _) ?_; clear tr
          refine then_n ?_
          refine at_ret rfl ?_
          have e0 : lmS a b = 0 := by rw [lmS, if_neg (by omega), if_neg (by omega), if_neg (fun hh => hh (of_alikeB (by assumption)))]
          refine fin_pure (rs := [.cell 4 24, .tmp 5]) rfl (l := [.agg [.own 1 b0 0 a.length], AV.i 0]) (by simp only [go_sem, ↓reduceIte, Nat.reduceEqDiff, hget_set_self _ _ _ hq1]; rfl) (by rewrite [J0.same.len]; simp only [go_sem, (J0.tab.other (H ++ [some [rowsAV a]] ++ [some [rowsAV b]]).length _ (by simp)).frz H.length 3 (by simp)]; rfl) ?_
          exact ⟨rfl, .inr ⟨e0, l, rfl, J0.same, fun i hi j hj => J0.done i j hi hj (by omega)⟩⟩

end Go.Proofs.Ytdkhgpdojjdadaa
