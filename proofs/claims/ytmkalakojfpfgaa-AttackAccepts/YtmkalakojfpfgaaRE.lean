/-
  Walks of chapter 46. The steps are written by program (walk.py).
-/
import Derived.Test.YtmkalakojfpfgaaRB
set_option linter.unusedSimpArgs false
set_option linter.unusedVariables false
set_option maxHeartbeats 40000000
set_option maxRecDepth 4000
namespace Go.Proofs.Ytmkalakojfpfgaa
open Go Go.Am

theorem rcost_ok (lim : Nat) (H : Heap) (rows : Tb) (q la : Int) (l : List Int) (g1 : 0 < rows.length) (g2 : rows.length ≤ 12) (g3 : 1 ≤ (gt rows 0).length) (g4 : (gt rows 0).length ≤ 6) (g5 : ∀ u, u < rows.length → (gt rows u).length = (gt rows 0).length) (g6 : ∀ u, u < rows.length → ∀ j, j < (gt rows u).length → okC (gt (gt rows u) j)) (g7 : 1 ≤ q) (g8 : q ≤ 12) :
    ACall sig lim 23 [.agg [rowsAV rows, AV.i q, AV.i la], .sl l.length (l.map AV.i)] H fun r H' => r = .tup [AV.i (costV rows q la l).1, AV.i (costV rows q la l).2] ∧ H' = H := by
  refine ACall_pure (fa := fa23) rfl rfl rfl rfl ?_
  have tr : ∀ a0 a1 : AV, env0 fa23.keep [a0, a1] = [(0, a0), (1, a1), (2, .any), (4, .any), (5, .any), (6, .any), (7, .any), (8, .any), (9, .any), (10, .any), (12, .any), (18, .any), (21, .any), (22, .any), (23, .any), (24, .any), (39, .any), (42, .any), (45, .any), (46, .any), (47, .any), (48, .any), (53, .any), (60, .any)] := fun a0 a1 => rfl
  refine W_to (tr _ _) ?_; clear tr
  refine at_seq rfl ?_
  refine rg rfl ?_
  refine R_box rfl (by simp (disch := first | omega | (simp only [List.length_map, List.length_append, List.length_set, List.length_cons, List.length_nil, List.length_take, List.length_drop]; omega)) only [go_sem, ↓reduceIte, Nat.reduceEqDiff, reduceCtorEq]; rfl) rfl rfl ?_
  refine Rq ?_
  refine Rq ?_
  have tr : ∀ y0 y1 y2 y4 y5 y6 y7 y8 y9 y10 y12 y18 y21 y22 y23 y24 y39 y42 y45 y46 y47 y48 y53 y60 z0 z1 z2 : AV, trim [(5, z2), (4, z1), (2, z0), (0, y0), (1, y1), (2, y2), (4, y4), (5, y5), (6, y6), (7, y7), (8, y8), (9, y9), (10, y10), (12, y12), (18, y18), (21, y21), (22, y22), (23, y23), (24, y24), (39, y39), (42, y42), (45, y45), (46, y46), (47, y47), (48, y48), (53, y53), (60, y60)] [(0, y0), (1, y1), (2, y2), (4, y4), (5, y5), (6, y6), (7, y7), (8, y8), (9, y9), (10, y10), (12, y12), (18, y18), (21, y21), (22, y22), (23, y23), (24, y24), (39, y39), (42, y42), (45, y45), (46, y46), (47, y47), (48, y48), (53, y53), (60, y60)] = [(0, y0), (1, y1), (2, z0), (4, z1), (5, z2), (6, y6), (7, y7), (8, y8), (9, y9), (10, y10), (12, y12), (18, y18), (21, y21), (22, y22), (23, y23), (24, y24), (39, y39), (42, y42), (45, y45), (46, y46), (47, y47), (48, y48), (53, y53), (60, y60)] := fun y0 y1 y2 y4 y5 y6 y7 y8 y9 y10 y12 y18 y21 y22 y23 y24 y39 y42 y45 y46 y47 y48 y53 y60 z0 z1 z2 => rfl
  refine R_nil (tr _ _ _ _ _ _ _ _ _ _ _ _ _ _ _ _ _ _ _ _ _ _ _ _ _ _ _) ?_; clear tr
  refine then_n ?_
  refine at_seq rfl ?_
  refine at_seq rfl ?_
  refine rg rfl ?_
  refine Rq ?_
  refine Rq ?_
  refine Rq ?_
  refine Rq ?_
  refine Rq ?_
  refine Rq ?_
  have tr : ∀ y0 y1 y2 y4 y5 y6 y7 y8 y9 y10 y12 y18 y21 y22 y23 y24 y39 y42 y45 y46 y47 y48 y53 y60 z0 z1 z2 z3 z4 z5 : AV, trim [(18, z5), (17, z4), (16, z3), (15, z2), (14, z1), (13, z0), (0, y0), (1, y1), (2, y2), (4, y4), (5, y5), (6, y6), (7, y7), (8, y8), (9, y9), (10, y10), (12, y12), (18, y18), (21, y21), (22, y22), (23, y23), (24, y24), (39, y39), (42, y42), (45, y45), (46, y46), (47, y47), (48, y48), (53, y53), (60, y60)] [(0, y0), (1, y1), (2, y2), (4, y4), (5, y5), (6, y6), (7, y7), (8, y8), (9, y9), (10, y10), (12, y12), (18, y18), (21, y21), (22, y22), (23, y23), (24, y24), (39, y39), (42, y42), (45, y45), (46, y46), (47, y47), (48, y48), (53, y53), (60, y60)] = [(0, y0), (1, y1), (2, y2), (4, y4), (5, y5), (6, y6), (7, y7), (8, y8), (9, y9), (10, y10), (12, y12), (18, z5), (21, y21), (22, y22), (23, y23), (24, y24), (39, y39), (42, y42), (45, y45), (46, y46), (47, y47), (48, y48), (53, y53), (60, y60)] := fun y0 y1 y2 y4 y5 y6 y7 y8 y9 y10 y12 y18 y21 y22 y23 y24 y39 y42 y45 y46 y47 y48 y53 y60 z0 z1 z2 z3 z4 z5 => rfl
  refine R_nil (tr _ _ _ _ _ _ _ _ _ _ _ _ _ _ _ _ _ _ _ _ _ _ _ _ _ _ _ _ _ _) ?_; clear tr
  refine then_n ?_
  refine cdd (fun h1 => ?_) (fun h1 => ?_)
  · try simp only [decide_eq_true_eq, decide_eq_false_iff_not, Bool.not_eq_true', Bool.not_eq_false', beq_iff_eq, beq_eq_false_iff_ne, ne_eq] at h1
    refine at_seq rfl ?_
    refine rg rfl ?_
    refine Rq ?_
    refine Rq ?_
    have tr : ∀ y0 y1 y2 y4 y5 y6 y7 y8 y9 y10 y12 y18 y21 y22 y23 y24 y39 y42 y45 y46 y47 y48 y53 y60 z0 z1 : AV, trim [(5, z1), (4, z0), (0, y0), (1, y1), (2, y2), (4, y4), (5, y5), (6, y6), (7, y7), (8, y8), (9, y9), (10, y10), (12, y12), (18, y18), (21, y21), (22, y22), (23, y23), (24, y24), (39, y39), (42, y42), (45, y45), (46, y46), (47, y47), (48, y48), (53, y53), (60, y60)] [(0, y0), (1, y1), (2, y2), (4, y4), (5, y5), (6, y6), (7, y7), (8, y8), (9, y9), (10, y10), (12, y12), (18, y18), (21, y21), (22, y22), (23, y23), (24, y24), (39, y39), (42, y42), (45, y45), (46, y46), (47, y47), (48, y48), (53, y53), (60, y60)] = [(0, y0), (1, y1), (2, y2), (4, z0), (5, z1), (6, y6), (7, y7), (8, y8), (9, y9), (10, y10), (12, y12), (18, y18), (21, y21), (22, y22), (23, y23), (24, y24), (39, y39), (42, y42), (45, y45), (46, y46), (47, y47), (48, y48), (53, y53), (60, y60)] := fun y0 y1 y2 y4 y5 y6 y7 y8 y9 y10 y12 y18 y21 y22 y23 y24 y39 y42 y45 y46 y47 y48 y53 y60 z0 z1 => rfl
    refine R_nil (tr _ _ _ _ _ _ _ _ _ _ _ _ _ _ _ _ _ _ _ _ _ _ _ _ _ _) ?_; clear tr
    refine then_n ?_
    refine at_ret rfl ?_
    refine then_r ?_
    refine fpure ?_
    refine ⟨?_, rfl⟩
    rw [costV, if_pos (by omega)]
  · try simp only [decide_eq_true_eq, decide_eq_false_iff_not, Bool.not_eq_true', Bool.not_eq_false', beq_iff_eq, beq_eq_false_iff_ne, ne_eq] at h1
    refine at_skip rfl ?_
    refine then_n ?_
    refine at_seq rfl ?_
    refine rg rfl ?_
    refine Rq ?_
    have tr : ∀ y0 y1 y2 y4 y5 y6 y7 y8 y9 y10 y12 y18 y21 y22 y23 y24 y39 y42 y45 y46 y47 y48 y53 y60 z0 : AV, trim [(6, z0), (0, y0), (1, y1), (2, y2), (4, y4), (5, y5), (6, y6), (7, y7), (8, y8), (9, y9), (10, y10), (12, y12), (18, y18), (21, y21), (22, y22), (23, y23), (24, y24), (39, y39), (42, y42), (45, y45), (46, y46), (47, y47), (48, y48), (53, y53), (60, y60)] [(0, y0), (1, y1), (2, y2), (4, y4), (5, y5), (6, y6), (7, y7), (8, y8), (9, y9), (10, y10), (12, y12), (18, y18), (21, y21), (22, y22), (23, y23), (24, y24), (39, y39), (42, y42), (45, y45), (46, y46), (47, y47), (48, y48), (53, y53), (60, y60)] = [(0, y0), (1, y1), (2, y2), (4, y4), (5, y5), (6, z0), (7, y7), (8, y8), (9, y9), (10, y10), (12, y12), (18, y18), (21, y21), (22, y22), (23, y23), (24, y24), (39, y39), (42, y42), (45, y45), (46, y46), (47, y47), (48, y48), (53, y53), (60, y60)] := fun y0 y1 y2 y4 y5 y6 y7 y8 y9 y10 y12 y18 y21 y22 y23 y24 y39 y42 y45 y46 y47 y48 y53 y60 z0 => rfl
    refine R_nil (tr _ _ _ _ _ _ _ _ _ _ _ _ _ _ _ _ _ _ _ _ _ _ _ _ _) ?_; clear tr
    refine then_n ?_
    refine at_seq rfl ?_
    refine rg rfl ?_
    refine Rq ?_
    refine Rq ?_
    refine Rq ?_
    have tr : ∀ y0 y1 y2 y4 y5 y6 y7 y8 y9 y10 y12 y18 y21 y22 y23 y24 y39 y42 y45 y46 y47 y48 y53 y60 z0 z1 z2 : AV, trim [(7, z2), (20, z1), (19, z0), (0, y0), (1, y1), (2, y2), (4, y4), (5, y5), (6, y6), (7, y7), (8, y8), (9, y9), (10, y10), (12, y12), (18, y18), (21, y21), (22, y22), (23, y23), (24, y24), (39, y39), (42, y42), (45, y45), (46, y46), (47, y47), (48, y48), (53, y53), (60, y60)] [(0, y0), (1, y1), (2, y2), (4, y4), (5, y5), (6, y6), (7, y7), (8, y8), (9, y9), (10, y10), (12, y12), (18, y18), (21, y21), (22, y22), (23, y23), (24, y24), (39, y39), (42, y42), (45, y45), (46, y46), (47, y47), (48, y48), (53, y53), (60, y60)] = [(0, y0), (1, y1), (2, y2), (4, y4), (5, y5), (6, y6), (7, z2), (8, y8), (9, y9), (10, y10), (12, y12), (18, y18), (21, y21), (22, y22), (23, y23), (24, y24), (39, y39), (42, y42), (45, y45), (46, y46), (47, y47), (48, y48), (53, y53), (60, y60)] := fun y0 y1 y2 y4 y5 y6 y7 y8 y9 y10 y12 y18 y21 y22 y23 y24 y39 y42 y45 y46 y47 y48 y53 y60 z0 z1 z2 => rfl
    refine R_nil (tr _ _ _ _ _ _ _ _ _ _ _ _ _ _ _ _ _ _ _ _ _ _ _ _ _ _ _) ?_; clear tr
    refine then_n ?_
    refine at_seq rfl ?_
    refine at_seq rfl ?_
    refine rg rfl ?_
    refine Rq ?_
    refine Rq ?_
    refine Rq ?_
    have tr : ∀ y0 y1 y2 y4 y5 y6 y7 y8 y9 y10 y12 y18 y21 y22 y23 y24 y39 y42 y45 y46 y47 y48 y53 y60 z0 z1 z2 : AV, trim [(23, z2), (22, z1), (21, z0), (0, y0), (1, y1), (2, y2), (4, y4), (5, y5), (6, y6), (7, y7), (8, y8), (9, y9), (10, y10), (12, y12), (18, y18), (21, y21), (22, y22), (23, y23), (24, y24), (39, y39), (42, y42), (45, y45), (46, y46), (47, y47), (48, y48), (53, y53), (60, y60)] [(0, y0), (1, y1), (2, y2), (4, y4), (5, y5), (6, y6), (7, y7), (8, y8), (9, y9), (10, y10), (12, y12), (18, y18), (21, y21), (22, y22), (23, y23), (24, y24), (39, y39), (42, y42), (45, y45), (46, y46), (47, y47), (48, y48), (53, y53), (60, y60)] = [(0, y0), (1, y1), (2, y2), (4, y4), (5, y5), (6, y6), (7, y7), (8, y8), (9, y9), (10, y10), (12, y12), (18, y18), (21, z0), (22, z1), (23, z2), (24, y24), (39, y39), (42, y42), (45, y45), (46, y46), (47, y47), (48, y48), (53, y53), (60, y60)] := fun y0 y1 y2 y4 y5 y6 y7 y8 y9 y10 y12 y18 y21 y22 y23 y24 y39 y42 y45 y46 y47 y48 y53 y60 z0 z1 z2 => rfl
    refine R_nil (tr _ _ _ _ _ _ _ _ _ _ _ _ _ _ _ _ _ _ _ _ _ _ _ _ _ _ _) ?_; clear tr
    refine then_n ?_
    refine at_block rfl ?_
    refine loop_n rfl (fun mm kv H' => ∃ u : Nat, ∃ x : Int, ∃ s : Int, ∃ x4 x5 x8 x9 x10 x12 x24 x39 x42 x45 x46 x47 x48 x53 x60 : AV, (kv = [(4, x4), (5, x5), (6, AV.i s), (7, AV.i x), (8, x8), (9, x9), (10, x10), (12, x12), (23, AV.i u), (24, x24), (39, x39), (42, x42), (45, x45), (46, x46), (47, x47), (48, x48), (53, x53), (60, x60)]) ∧ (mm = l.length - u) ∧ (H' = H ++ [some [rowsAV rows, AV.i q, AV.i la]]) ∧ (u ≤ l.length) ∧ (0 ≤ s) ∧ (s ≤ u * 1048576) ∧ (costL rows q l u x s (l.drop u) = costL rows q l 0 la 0 l) ∧ (∀ j, cnt (l.take u) j ≤ q)) ⟨0, la, 0, _, _, _, _, _, _, _, _, _, _, _, _, _, _, _, rfl, rfl, rfl, by omega, by omega, by omega, by rfl, by intro j; rw [List.take_zero, cnt_nil]; omega⟩ (by rfl) ?_
    rintro mm kv H' ⟨u, x, s, x4, x5, x8, x9, x10, x12, x24, x39, x42, x45, x46, x47, x48, x53, x60, rfl, rfl, rfl, hu, hs0, hs1, hs, hq⟩
    have tr : ∀ y0 y1 y2 y4 y5 y6 y7 y8 y9 y10 y12 y18 y21 y22 y23 y24 y39 y42 y45 y46 y47 y48 y53 y60 z4 z5 z6 z7 z8 z9 z10 z12 z23 z24 z39 z42 z45 z46 z47 z48 z53 z60 : AV, upd [(0, y0), (1, y1), (2, y2), (4, y4), (5, y5), (6, y6), (7, y7), (8, y8), (9, y9), (10, y10), (12, y12), (18, y18), (21, y21), (22, y22), (23, y23), (24, y24), (39, y39), (42, y42), (45, y45), (46, y46), (47, y47), (48, y48), (53, y53), (60, y60)] [(4, z4), (5, z5), (6, z6), (7, z7), (8, z8), (9, z9), (10, z10), (12, z12), (23, z23), (24, z24), (39, z39), (42, z42), (45, z45), (46, z46), (47, z47), (48, z48), (53, z53), (60, z60)] = [(0, y0), (1, y1), (2, y2), (4, z4), (5, z5), (6, z6), (7, z7), (8, z8), (9, z9), (10, z10), (12, z12), (18, y18), (21, y21), (22, y22), (23, z23), (24, z24), (39, z39), (42, z42), (45, z45), (46, z46), (47, z47), (48, z48), (53, z53), (60, z60)] := fun y0 y1 y2 y4 y5 y6 y7 y8 y9 y10 y12 y18 y21 y22 y23 y24 y39 y42 y45 y46 y47 y48 y53 y60 z4 z5 z6 z7 z8 z9 z10 z12 z23 z24 z39 z42 z45 z46 z47 z48 z53 z60 => rfl
    refine W_to (tr _ _ _ _ _ _ _ _ _ _ _ _ _ _ _ _ _ _ _ _ _ _ _ _ _ _ _ _ _ _ _ _ _ _ _ _ _ _ _ _ _ _) ?_; clear tr
    refine at_seq rfl ?_
    refine rg rfl ?_
    refine Rq ?_
    have tr : ∀ y0 y1 y2 y4 y5 y6 y7 y8 y9 y10 y12 y18 y21 y22 y23 y24 y39 y42 y45 y46 y47 y48 y53 y60 z0 : AV, trim [(24, z0), (0, y0), (1, y1), (2, y2), (4, y4), (5, y5), (6, y6), (7, y7), (8, y8), (9, y9), (10, y10), (12, y12), (18, y18), (21, y21), (22, y22), (23, y23), (24, y24), (39, y39), (42, y42), (45, y45), (46, y46), (47, y47), (48, y48), (53, y53), (60, y60)] [(0, y0), (1, y1), (2, y2), (4, y4), (5, y5), (6, y6), (7, y7), (8, y8), (9, y9), (10, y10), (12, y12), (18, y18), (21, y21), (22, y22), (23, y23), (24, y24), (39, y39), (42, y42), (45, y45), (46, y46), (47, y47), (48, y48), (53, y53), (60, y60)] = [(0, y0), (1, y1), (2, y2), (4, y4), (5, y5), (6, y6), (7, y7), (8, y8), (9, y9), (10, y10), (12, y12), (18, y18), (21, y21), (22, y22), (23, y23), (24, z0), (39, y39), (42, y42), (45, y45), (46, y46), (47, y47), (48, y48), (53, y53), (60, y60)] := fun y0 y1 y2 y4 y5 y6 y7 y8 y9 y10 y12 y18 y21 y22 y23 y24 y39 y42 y45 y46 y47 y48 y53 y60 z0 => rfl
    refine R_nil (tr _ _ _ _ _ _ _ _ _ _ _ _ _ _ _ _ _ _ _ _ _ _ _ _ _) ?_; clear tr
    refine then_n ?_
    refine at_seq rfl ?_
    refine cdd (fun h2 => ?_) (fun h2 => ?_)
    · try simp only [decide_eq_true_eq, decide_eq_false_iff_not, Bool.not_eq_true', Bool.not_eq_false', beq_iff_eq, beq_eq_false_iff_ne, ne_eq] at h2
      refine at_skip rfl ?_
      refine then_n ?_
      refine at_seq rfl ?_
      refine at_block rfl ?_
      refine at_seq rfl ?_
      refine rg rfl ?_
      refine Rq ?_
      refine Rq ?_
      refine Rq ?_
      refine Rq ?_
      refine Rq ?_
      have tr : ∀ y0 y1 y2 y4 y5 y6 y7 y8 y9 y10 y12 y18 y21 y22 y23 y24 y39 y42 y45 y46 y47 y48 y53 y60 z0 z1 z2 z3 z4 : AV, trim [(9, z4), (8, z3), (27, z2), (26, z1), (25, z0), (0, y0), (1, y1), (2, y2), (4, y4), (5, y5), (6, y6), (7, y7), (8, y8), (9, y9), (10, y10), (12, y12), (18, y18), (21, y21), (22, y22), (23, y23), (24, y24), (39, y39), (42, y42), (45, y45), (46, y46), (47, y47), (48, y48), (53, y53), (60, y60)] [(0, y0), (1, y1), (2, y2), (4, y4), (5, y5), (6, y6), (7, y7), (8, y8), (9, y9), (10, y10), (12, y12), (18, y18), (21, y21), (22, y22), (23, y23), (24, y24), (39, y39), (42, y42), (45, y45), (46, y46), (47, y47), (48, y48), (53, y53), (60, y60)] = [(0, y0), (1, y1), (2, y2), (4, y4), (5, y5), (6, y6), (7, y7), (8, z3), (9, z4), (10, y10), (12, y12), (18, y18), (21, y21), (22, y22), (23, y23), (24, y24), (39, y39), (42, y42), (45, y45), (46, y46), (47, y47), (48, y48), (53, y53), (60, y60)] := fun y0 y1 y2 y4 y5 y6 y7 y8 y9 y10 y12 y18 y21 y22 y23 y24 y39 y42 y45 y46 y47 y48 y53 y60 z0 z1 z2 z3 z4 => rfl
      refine R_nil (tr _ _ _ _ _ _ _ _ _ _ _ _ _ _ _ _ _ _ _ _ _ _ _ _ _ _ _ _ _) ?_; clear tr
      refine then_n ?_
      refine at_seq rfl ?_
      refine at_seq rfl ?_
      refine rg rfl ?_
      refine Rq ?_
      refine Rq ?_
      refine Rq ?_
      refine Rp_split (fun h3 => ?_) (fun h3 => ?_)
      · try simp only [decide_eq_true_eq, decide_eq_false_iff_not, Bool.not_eq_true', Bool.not_eq_false', beq_iff_eq, beq_eq_false_iff_ne, ne_eq] at h3
        refine Rn ?_
        refine Rn ?_
        refine Rn ?_
        have hlen := g5 u (by omega)
        refine Rn ?_
        refine Rn ?_
        refine Rn ?_
        refine Rn ?_
        refine Rn ?_
        refine Rq ?_
        have tr : ∀ y0 y1 y2 y4 y5 y6 y7 y8 y9 y10 y12 y18 y21 y22 y23 y24 y39 y42 y45 y46 y47 y48 y53 y60 z0 z1 z2 z3 z4 z5 z6 z7 z8 z9 z10 z11 : AV, trim [(39, z11), (38, z10), (37, z9), (36, z8), (35, z7), (34, z6), (33, z5), (32, z4), (31, z3), (30, z2), (29, z1), (28, z0), (0, y0), (1, y1), (2, y2), (4, y4), (5, y5), (6, y6), (7, y7), (8, y8), (9, y9), (10, y10), (12, y12), (18, y18), (21, y21), (22, y22), (23, y23), (24, y24), (39, y39), (42, y42), (45, y45), (46, y46), (47, y47), (48, y48), (53, y53), (60, y60)] [(0, y0), (1, y1), (2, y2), (4, y4), (5, y5), (6, y6), (7, y7), (8, y8), (9, y9), (10, y10), (12, y12), (18, y18), (21, y21), (22, y22), (23, y23), (24, y24), (39, y39), (42, y42), (45, y45), (46, y46), (47, y47), (48, y48), (53, y53), (60, y60)] = [(0, y0), (1, y1), (2, y2), (4, y4), (5, y5), (6, y6), (7, y7), (8, y8), (9, y9), (10, y10), (12, y12), (18, y18), (21, y21), (22, y22), (23, y23), (24, y24), (39, z11), (42, y42), (45, y45), (46, y46), (47, y47), (48, y48), (53, y53), (60, y60)] := fun y0 y1 y2 y4 y5 y6 y7 y8 y9 y10 y12 y18 y21 y22 y23 y24 y39 y42 y45 y46 y47 y48 y53 y60 z0 z1 z2 z3 z4 z5 z6 z7 z8 z9 z10 z11 => rfl
        refine R_nil (tr _ _ _ _ _ _ _ _ _ _ _ _ _ _ _ _ _ _ _ _ _ _ _ _ _ _ _ _ _ _ _ _ _ _ _ _) ?_; clear tr
        refine then_n ?_
        refine cdt ?_
        refine at_seq rfl ?_
        refine rg rfl ?_
        refine Rq ?_
        refine Rq ?_
        have tr : ∀ y0 y1 y2 y4 y5 y6 y7 y8 y9 y10 y12 y18 y21 y22 y23 y24 y39 y42 y45 y46 y47 y48 y53 y60 z0 z1 : AV, trim [(5, z1), (4, z0), (0, y0), (1, y1), (2, y2), (4, y4), (5, y5), (6, y6), (7, y7), (8, y8), (9, y9), (10, y10), (12, y12), (18, y18), (21, y21), (22, y22), (23, y23), (24, y24), (39, y39), (42, y42), (45, y45), (46, y46), (47, y47), (48, y48), (53, y53), (60, y60)] [(0, y0), (1, y1), (2, y2), (4, y4), (5, y5), (6, y6), (7, y7), (8, y8), (9, y9), (10, y10), (12, y12), (18, y18), (21, y21), (22, y22), (23, y23), (24, y24), (39, y39), (42, y42), (45, y45), (46, y46), (47, y47), (48, y48), (53, y53), (60, y60)] = [(0, y0), (1, y1), (2, y2), (4, z0), (5, z1), (6, y6), (7, y7), (8, y8), (9, y9), (10, y10), (12, y12), (18, y18), (21, y21), (22, y22), (23, y23), (24, y24), (39, y39), (42, y42), (45, y45), (46, y46), (47, y47), (48, y48), (53, y53), (60, y60)] := fun y0 y1 y2 y4 y5 y6 y7 y8 y9 y10 y12 y18 y21 y22 y23 y24 y39 y42 y45 y46 y47 y48 y53 y60 z0 z1 => rfl
        refine R_nil (tr _ _ _ _ _ _ _ _ _ _ _ _ _ _ _ _ _ _ _ _ _ _ _ _ _ _) ?_; clear tr
        refine then_n ?_
        refine at_ret rfl ?_
        refine then_r ?_
        refine blk_r ?_
        refine then_r ?_
        refine then_r ?_
        refine blk_r ?_
        refine then_r ?_
        refine fpure ?_
        refine ⟨?_, rfl⟩
        rw [costV, if_neg (fun hh => hh (by omega)), ← hs, costL_rng (by omega) (by omega)]
      · try simp only [decide_eq_true_eq, decide_eq_false_iff_not, Bool.not_eq_true', Bool.not_eq_false', beq_iff_eq, beq_eq_false_iff_ne, ne_eq] at h3
        refine Ry ?_
        refine Rq ?_
        refine Ry ?_
        refine Rq ?_
        refine Ry ?_
        refine Rq ?_
        have hlen := g5 u (by omega)
        refine Ry ?_
        refine Rq ?_
        refine Ry ?_
        refine Rq ?_
        refine Ry ?_
        refine Rq ?_
        refine Ry ?_
        refine Rq ?_
        refine Ry ?_
        refine Rq ?_
        refine Rq ?_
        have tr : ∀ y0 y1 y2 y4 y5 y6 y7 y8 y9 y10 y12 y18 y21 y22 y23 y24 y39 y42 y45 y46 y47 y48 y53 y60 z0 z1 z2 z3 z4 z5 z6 z7 z8 z9 z10 z11 : AV, trim [(39, z11), (38, z10), (37, z9), (36, z8), (35, z7), (34, z6), (33, z5), (32, z4), (31, z3), (30, z2), (29, z1), (28, z0), (0, y0), (1, y1), (2, y2), (4, y4), (5, y5), (6, y6), (7, y7), (8, y8), (9, y9), (10, y10), (12, y12), (18, y18), (21, y21), (22, y22), (23, y23), (24, y24), (39, y39), (42, y42), (45, y45), (46, y46), (47, y47), (48, y48), (53, y53), (60, y60)] [(0, y0), (1, y1), (2, y2), (4, y4), (5, y5), (6, y6), (7, y7), (8, y8), (9, y9), (10, y10), (12, y12), (18, y18), (21, y21), (22, y22), (23, y23), (24, y24), (39, y39), (42, y42), (45, y45), (46, y46), (47, y47), (48, y48), (53, y53), (60, y60)] = [(0, y0), (1, y1), (2, y2), (4, y4), (5, y5), (6, y6), (7, y7), (8, y8), (9, y9), (10, y10), (12, y12), (18, y18), (21, y21), (22, y22), (23, y23), (24, y24), (39, z11), (42, y42), (45, y45), (46, y46), (47, y47), (48, y48), (53, y53), (60, y60)] := fun y0 y1 y2 y4 y5 y6 y7 y8 y9 y10 y12 y18 y21 y22 y23 y24 y39 y42 y45 y46 y47 y48 y53 y60 z0 z1 z2 z3 z4 z5 z6 z7 z8 z9 z10 z11 => rfl
        refine R_nil (tr _ _ _ _ _ _ _ _ _ _ _ _ _ _ _ _ _ _ _ _ _ _ _ _ _ _ _ _ _ _ _ _ _ _ _ _) ?_; clear tr
        refine then_n ?_
        refine cdd (fun h4 => ?_) (fun h4 => ?_)
        · try simp only [decide_eq_true_eq, decide_eq_false_iff_not, Bool.not_eq_true', Bool.not_eq_false', beq_iff_eq, beq_eq_false_iff_ne, ne_eq] at h4
          refine at_seq rfl ?_
          refine rg rfl ?_
          refine Rq ?_
          refine Rq ?_
          have tr : ∀ y0 y1 y2 y4 y5 y6 y7 y8 y9 y10 y12 y18 y21 y22 y23 y24 y39 y42 y45 y46 y47 y48 y53 y60 z0 z1 : AV, trim [(5, z1), (4, z0), (0, y0), (1, y1), (2, y2), (4, y4), (5, y5), (6, y6), (7, y7), (8, y8), (9, y9), (10, y10), (12, y12), (18, y18), (21, y21), (22, y22), (23, y23), (24, y24), (39, y39), (42, y42), (45, y45), (46, y46), (47, y47), (48, y48), (53, y53), (60, y60)] [(0, y0), (1, y1), (2, y2), (4, y4), (5, y5), (6, y6), (7, y7), (8, y8), (9, y9), (10, y10), (12, y12), (18, y18), (21, y21), (22, y22), (23, y23), (24, y24), (39, y39), (42, y42), (45, y45), (46, y46), (47, y47), (48, y48), (53, y53), (60, y60)] = [(0, y0), (1, y1), (2, y2), (4, z0), (5, z1), (6, y6), (7, y7), (8, y8), (9, y9), (10, y10), (12, y12), (18, y18), (21, y21), (22, y22), (23, y23), (24, y24), (39, y39), (42, y42), (45, y45), (46, y46), (47, y47), (48, y48), (53, y53), (60, y60)] := fun y0 y1 y2 y4 y5 y6 y7 y8 y9 y10 y12 y18 y21 y22 y23 y24 y39 y42 y45 y46 y47 y48 y53 y60 z0 z1 => rfl
          refine R_nil (tr _ _ _ _ _ _ _ _ _ _ _ _ _ _ _ _ _ _ _ _ _ _ _ _ _ _) ?_; clear tr
          refine then_n ?_
          refine at_ret rfl ?_
          refine then_r ?_
          refine blk_r ?_
          refine then_r ?_
          refine then_r ?_
          refine blk_r ?_
          refine then_r ?_
          refine fpure ?_
          refine ⟨?_, rfl⟩
          rw [costV, if_neg (fun hh => hh (by omega)), ← hs, costL_rng (by omega) (by omega)]
        · try simp only [decide_eq_true_eq, decide_eq_false_iff_not, Bool.not_eq_true', Bool.not_eq_false', beq_iff_eq, beq_eq_false_iff_ne, ne_eq] at h4
          refine at_skip rfl ?_
          refine then_n ?_
          refine at_seq rfl ?_
          refine at_seq rfl ?_
          refine rg rfl ?_
          refine Rq ?_
          refine Rq ?_
          refine Rq ?_
          have tr : ∀ y0 y1 y2 y4 y5 y6 y7 y8 y9 y10 y12 y18 y21 y22 y23 y24 y39 y42 y45 y46 y47 y48 y53 y60 z0 z1 z2 : AV, trim [(42, z2), (41, z1), (40, z0), (0, y0), (1, y1), (2, y2), (4, y4), (5, y5), (6, y6), (7, y7), (8, y8), (9, y9), (10, y10), (12, y12), (18, y18), (21, y21), (22, y22), (23, y23), (24, y24), (39, y39), (42, y42), (45, y45), (46, y46), (47, y47), (48, y48), (53, y53), (60, y60)] [(0, y0), (1, y1), (2, y2), (4, y4), (5, y5), (6, y6), (7, y7), (8, y8), (9, y9), (10, y10), (12, y12), (18, y18), (21, y21), (22, y22), (23, y23), (24, y24), (39, y39), (42, y42), (45, y45), (46, y46), (47, y47), (48, y48), (53, y53), (60, y60)] = [(0, y0), (1, y1), (2, y2), (4, y4), (5, y5), (6, y6), (7, y7), (8, y8), (9, y9), (10, y10), (12, y12), (18, y18), (21, y21), (22, y22), (23, y23), (24, y24), (39, y39), (42, z2), (45, y45), (46, y46), (47, y47), (48, y48), (53, y53), (60, y60)] := fun y0 y1 y2 y4 y5 y6 y7 y8 y9 y10 y12 y18 y21 y22 y23 y24 y39 y42 y45 y46 y47 y48 y53 y60 z0 z1 z2 => rfl
          refine R_nil (tr _ _ _ _ _ _ _ _ _ _ _ _ _ _ _ _ _ _ _ _ _ _ _ _ _ _ _) ?_; clear tr
          refine then_n ?_
          refine cdd (fun h5 => ?_) (fun h5 => ?_)
          · try simp only [decide_eq_true_eq, decide_eq_false_iff_not, Bool.not_eq_true', Bool.not_eq_false', beq_iff_eq, beq_eq_false_iff_ne, ne_eq] at h5
            refine at_seq rfl ?_
            refine rg rfl ?_
            refine Rq ?_
            refine Rq ?_
            have tr : ∀ y0 y1 y2 y4 y5 y6 y7 y8 y9 y10 y12 y18 y21 y22 y23 y24 y39 y42 y45 y46 y47 y48 y53 y60 z0 z1 : AV, trim [(5, z1), (4, z0), (0, y0), (1, y1), (2, y2), (4, y4), (5, y5), (6, y6), (7, y7), (8, y8), (9, y9), (10, y10), (12, y12), (18, y18), (21, y21), (22, y22), (23, y23), (24, y24), (39, y39), (42, y42), (45, y45), (46, y46), (47, y47), (48, y48), (53, y53), (60, y60)] [(0, y0), (1, y1), (2, y2), (4, y4), (5, y5), (6, y6), (7, y7), (8, y8), (9, y9), (10, y10), (12, y12), (18, y18), (21, y21), (22, y22), (23, y23), (24, y24), (39, y39), (42, y42), (45, y45), (46, y46), (47, y47), (48, y48), (53, y53), (60, y60)] = [(0, y0), (1, y1), (2, y2), (4, z0), (5, z1), (6, y6), (7, y7), (8, y8), (9, y9), (10, y10), (12, y12), (18, y18), (21, y21), (22, y22), (23, y23), (24, y24), (39, y39), (42, y42), (45, y45), (46, y46), (47, y47), (48, y48), (53, y53), (60, y60)] := fun y0 y1 y2 y4 y5 y6 y7 y8 y9 y10 y12 y18 y21 y22 y23 y24 y39 y42 y45 y46 y47 y48 y53 y60 z0 z1 => rfl
            refine R_nil (tr _ _ _ _ _ _ _ _ _ _ _ _ _ _ _ _ _ _ _ _ _ _ _ _ _ _) ?_; clear tr
            refine then_n ?_
            refine at_ret rfl ?_
            refine then_r ?_
            refine blk_r ?_
            refine then_r ?_
            refine then_r ?_
            refine blk_r ?_
            refine then_r ?_
            refine fpure ?_
            refine ⟨?_, rfl⟩
            rw [costV, if_neg (fun hh => hh (by omega)), ← hs, costL_ord (by omega) (by omega) (by omega)]
          · try simp only [decide_eq_true_eq, decide_eq_false_iff_not, Bool.not_eq_true', Bool.not_eq_false', beq_iff_eq, beq_eq_false_iff_ne, ne_eq] at h5
            refine at_skip rfl ?_
            refine then_n ?_
            refine at_seq rfl ?_
            refine rg rfl ?_
            refine Rq ?_
            have tr : ∀ y0 y1 y2 y4 y5 y6 y7 y8 y9 y10 y12 y18 y21 y22 y23 y24 y39 y42 y45 y46 y47 y48 y53 y60 z0 : AV, trim [(10, z0), (0, y0), (1, y1), (2, y2), (4, y4), (5, y5), (6, y6), (7, y7), (8, y8), (9, y9), (10, y10), (12, y12), (18, y18), (21, y21), (22, y22), (23, y23), (24, y24), (39, y39), (42, y42), (45, y45), (46, y46), (47, y47), (48, y48), (53, y53), (60, y60)] [(0, y0), (1, y1), (2, y2), (4, y4), (5, y5), (6, y6), (7, y7), (8, y8), (9, y9), (10, y10), (12, y12), (18, y18), (21, y21), (22, y22), (23, y23), (24, y24), (39, y39), (42, y42), (45, y45), (46, y46), (47, y47), (48, y48), (53, y53), (60, y60)] = [(0, y0), (1, y1), (2, y2), (4, y4), (5, y5), (6, y6), (7, y7), (8, y8), (9, y9), (10, z0), (12, y12), (18, y18), (21, y21), (22, y22), (23, y23), (24, y24), (39, y39), (42, y42), (45, y45), (46, y46), (47, y47), (48, y48), (53, y53), (60, y60)] := fun y0 y1 y2 y4 y5 y6 y7 y8 y9 y10 y12 y18 y21 y22 y23 y24 y39 y42 y45 y46 y47 y48 y53 y60 z0 => rfl
            refine R_nil (tr _ _ _ _ _ _ _ _ _ _ _ _ _ _ _ _ _ _ _ _ _ _ _ _ _) ?_; clear tr
            refine then_n ?_
            refine at_seq rfl ?_
            refine at_seq rfl ?_
            refine rg rfl ?_
            have htl : (l.take u).length = u := by rw [List.length_take]; omega
            refine Rq ?_
            refine Rq ?_
            refine R_q rfl (slice25 l.length u (l.map AV.i) (by omega)) ?_
            refine Rq ?_
            refine Rq ?_
            have tr : ∀ y0 y1 y2 y4 y5 y6 y7 y8 y9 y10 y12 y18 y21 y22 y23 y24 y39 y42 y45 y46 y47 y48 y53 y60 z0 z1 z2 z3 z4 : AV, trim [(47, z4), (46, z3), (45, z2), (44, z1), (43, z0), (0, y0), (1, y1), (2, y2), (4, y4), (5, y5), (6, y6), (7, y7), (8, y8), (9, y9), (10, y10), (12, y12), (18, y18), (21, y21), (22, y22), (23, y23), (24, y24), (39, y39), (42, y42), (45, y45), (46, y46), (47, y47), (48, y48), (53, y53), (60, y60)] [(0, y0), (1, y1), (2, y2), (4, y4), (5, y5), (6, y6), (7, y7), (8, y8), (9, y9), (10, y10), (12, y12), (18, y18), (21, y21), (22, y22), (23, y23), (24, y24), (39, y39), (42, y42), (45, y45), (46, y46), (47, y47), (48, y48), (53, y53), (60, y60)] = [(0, y0), (1, y1), (2, y2), (4, y4), (5, y5), (6, y6), (7, y7), (8, y8), (9, y9), (10, y10), (12, y12), (18, y18), (21, y21), (22, y22), (23, y23), (24, y24), (39, y39), (42, y42), (45, z2), (46, z3), (47, z4), (48, y48), (53, y53), (60, y60)] := fun y0 y1 y2 y4 y5 y6 y7 y8 y9 y10 y12 y18 y21 y22 y23 y24 y39 y42 y45 y46 y47 y48 y53 y60 z0 z1 z2 z3 z4 => rfl
            refine R_nil (tr _ _ _ _ _ _ _ _ _ _ _ _ _ _ _ _ _ _ _ _ _ _ _ _ _ _ _ _ _) ?_; clear tr
            refine then_n ?_
            refine at_block rfl ?_
            refine loop_n rfl (fun mm kv H' => ∃ w : Nat, ∃ n : Int, ∃ x12 x48 x53 : AV, (kv = [(10, AV.i n), (12, x12), (47, AV.i w), (48, x48), (53, x53)]) ∧ (mm = u - w) ∧ (H' = H ++ [some [rowsAV rows, AV.i q, AV.i la]]) ∧ (w ≤ u) ∧ (n = cnt (l.take w) (gt l u))) ⟨0, 0, _, _, _, rfl, rfl, rfl, by omega, by rfl⟩ (by rfl) ?_
            rintro mm kv H' ⟨w, n, x12, x48, x53, rfl, rfl, rfl, hw, hn⟩
            have tr : ∀ y0 y1 y2 y4 y5 y6 y7 y8 y9 y10 y12 y18 y21 y22 y23 y24 y39 y42 y45 y46 y47 y48 y53 y60 z10 z12 z47 z48 z53 : AV, upd [(0, y0), (1, y1), (2, y2), (4, y4), (5, y5), (6, y6), (7, y7), (8, y8), (9, y9), (10, y10), (12, y12), (18, y18), (21, y21), (22, y22), (23, y23), (24, y24), (39, y39), (42, y42), (45, y45), (46, y46), (47, y47), (48, y48), (53, y53), (60, y60)] [(10, z10), (12, z12), (47, z47), (48, z48), (53, z53)] = [(0, y0), (1, y1), (2, y2), (4, y4), (5, y5), (6, y6), (7, y7), (8, y8), (9, y9), (10, z10), (12, z12), (18, y18), (21, y21), (22, y22), (23, y23), (24, y24), (39, y39), (42, y42), (45, y45), (46, y46), (47, z47), (48, z48), (53, z53), (60, y60)] := fun y0 y1 y2 y4 y5 y6 y7 y8 y9 y10 y12 y18 y21 y22 y23 y24 y39 y42 y45 y46 y47 y48 y53 y60 z10 z12 z47 z48 z53 => rfl
            refine W_to (tr _ _ _ _ _ _ _ _ _ _ _ _ _ _ _ _ _ _ _ _ _ _ _ _ _ _ _ _ _) ?_; clear tr
            have hcnn := cnt_nn (l.take w) (gt l u)
            have hcn := cnt_le (l.take w) (gt l u)
            have hcl : (l.take w).length ≤ w := by rw [List.length_take]; omega
            refine at_seq rfl ?_
            refine rg rfl ?_
            refine Rq ?_
            have tr : ∀ y0 y1 y2 y4 y5 y6 y7 y8 y9 y10 y12 y18 y21 y22 y23 y24 y39 y42 y45 y46 y47 y48 y53 y60 z0 : AV, trim [(48, z0), (0, y0), (1, y1), (2, y2), (4, y4), (5, y5), (6, y6), (7, y7), (8, y8), (9, y9), (10, y10), (12, y12), (18, y18), (21, y21), (22, y22), (23, y23), (24, y24), (39, y39), (42, y42), (45, y45), (46, y46), (47, y47), (48, y48), (53, y53), (60, y60)] [(0, y0), (1, y1), (2, y2), (4, y4), (5, y5), (6, y6), (7, y7), (8, y8), (9, y9), (10, y10), (12, y12), (18, y18), (21, y21), (22, y22), (23, y23), (24, y24), (39, y39), (42, y42), (45, y45), (46, y46), (47, y47), (48, y48), (53, y53), (60, y60)] = [(0, y0), (1, y1), (2, y2), (4, y4), (5, y5), (6, y6), (7, y7), (8, y8), (9, y9), (10, y10), (12, y12), (18, y18), (21, y21), (22, y22), (23, y23), (24, y24), (39, y39), (42, y42), (45, y45), (46, y46), (47, y47), (48, z0), (53, y53), (60, y60)] := fun y0 y1 y2 y4 y5 y6 y7 y8 y9 y10 y12 y18 y21 y22 y23 y24 y39 y42 y45 y46 y47 y48 y53 y60 z0 => rfl
            refine R_nil (tr _ _ _ _ _ _ _ _ _ _ _ _ _ _ _ _ _ _ _ _ _ _ _ _ _) ?_; clear tr
            refine then_n ?_
            refine at_seq rfl ?_
            refine cdd (fun h6 => ?_) (fun h6 => ?_)
            · try simp only [decide_eq_true_eq, decide_eq_false_iff_not, Bool.not_eq_true', Bool.not_eq_false', beq_iff_eq, beq_eq_false_iff_ne, ne_eq] at h6
              refine at_skip rfl ?_
              refine then_n ?_
              refine at_seq rfl ?_
              refine at_block rfl ?_
              refine at_seq rfl ?_
              refine rg rfl ?_
              refine Rq ?_
              refine Rq ?_
              refine Rq ?_
              have tr : ∀ y0 y1 y2 y4 y5 y6 y7 y8 y9 y10 y12 y18 y21 y22 y23 y24 y39 y42 y45 y46 y47 y48 y53 y60 z0 z1 z2 : AV, trim [(12, z2), (50, z1), (49, z0), (0, y0), (1, y1), (2, y2), (4, y4), (5, y5), (6, y6), (7, y7), (8, y8), (9, y9), (10, y10), (12, y12), (18, y18), (21, y21), (22, y22), (23, y23), (24, y24), (39, y39), (42, y42), (45, y45), (46, y46), (47, y47), (48, y48), (53, y53), (60, y60)] [(0, y0), (1, y1), (2, y2), (4, y4), (5, y5), (6, y6), (7, y7), (8, y8), (9, y9), (10, y10), (12, y12), (18, y18), (21, y21), (22, y22), (23, y23), (24, y24), (39, y39), (42, y42), (45, y45), (46, y46), (47, y47), (48, y48), (53, y53), (60, y60)] = [(0, y0), (1, y1), (2, y2), (4, y4), (5, y5), (6, y6), (7, y7), (8, y8), (9, y9), (10, y10), (12, z2), (18, y18), (21, y21), (22, y22), (23, y23), (24, y24), (39, y39), (42, y42), (45, y45), (46, y46), (47, y47), (48, y48), (53, y53), (60, y60)] := fun y0 y1 y2 y4 y5 y6 y7 y8 y9 y10 y12 y18 y21 y22 y23 y24 y39 y42 y45 y46 y47 y48 y53 y60 z0 z1 z2 => rfl
              refine R_nil (tr _ _ _ _ _ _ _ _ _ _ _ _ _ _ _ _ _ _ _ _ _ _ _ _ _ _ _) ?_; clear tr
              refine then_n ?_
              refine at_seq rfl ?_
              refine rg rfl ?_
              refine Rq ?_
              refine Rq ?_
              refine Rq ?_
              have tr : ∀ y0 y1 y2 y4 y5 y6 y7 y8 y9 y10 y12 y18 y21 y22 y23 y24 y39 y42 y45 y46 y47 y48 y53 y60 z0 z1 z2 : AV, trim [(53, z2), (52, z1), (51, z0), (0, y0), (1, y1), (2, y2), (4, y4), (5, y5), (6, y6), (7, y7), (8, y8), (9, y9), (10, y10), (12, y12), (18, y18), (21, y21), (22, y22), (23, y23), (24, y24), (39, y39), (42, y42), (45, y45), (46, y46), (47, y47), (48, y48), (53, y53), (60, y60)] [(0, y0), (1, y1), (2, y2), (4, y4), (5, y5), (6, y6), (7, y7), (8, y8), (9, y9), (10, y10), (12, y12), (18, y18), (21, y21), (22, y22), (23, y23), (24, y24), (39, y39), (42, y42), (45, y45), (46, y46), (47, y47), (48, y48), (53, y53), (60, y60)] = [(0, y0), (1, y1), (2, y2), (4, y4), (5, y5), (6, y6), (7, y7), (8, y8), (9, y9), (10, y10), (12, y12), (18, y18), (21, y21), (22, y22), (23, y23), (24, y24), (39, y39), (42, y42), (45, y45), (46, y46), (47, y47), (48, y48), (53, z2), (60, y60)] := fun y0 y1 y2 y4 y5 y6 y7 y8 y9 y10 y12 y18 y21 y22 y23 y24 y39 y42 y45 y46 y47 y48 y53 y60 z0 z1 z2 => rfl
              refine R_nil (tr _ _ _ _ _ _ _ _ _ _ _ _ _ _ _ _ _ _ _ _ _ _ _ _ _ _ _) ?_; clear tr
              refine then_n ?_
              refine cdd (fun h7 => ?_) (fun h7 => ?_)
              · try simp only [decide_eq_true_eq, decide_eq_false_iff_not, Bool.not_eq_true', Bool.not_eq_false', beq_iff_eq, beq_eq_false_iff_ne, ne_eq] at h7
                refine rg rfl ?_
                refine Rq ?_
                refine Rq ?_
                refine Rq ?_
                have tr : ∀ y0 y1 y2 y4 y5 y6 y7 y8 y9 y10 y12 y18 y21 y22 y23 y24 y39 y42 y45 y46 y47 y48 y53 y60 z0 z1 z2 : AV, trim [(10, z2), (55, z1), (54, z0), (0, y0), (1, y1), (2, y2), (4, y4), (5, y5), (6, y6), (7, y7), (8, y8), (9, y9), (10, y10), (12, y12), (18, y18), (21, y21), (22, y22), (23, y23), (24, y24), (39, y39), (42, y42), (45, y45), (46, y46), (47, y47), (48, y48), (53, y53), (60, y60)] [(0, y0), (1, y1), (2, y2), (4, y4), (5, y5), (6, y6), (7, y7), (8, y8), (9, y9), (10, y10), (12, y12), (18, y18), (21, y21), (22, y22), (23, y23), (24, y24), (39, y39), (42, y42), (45, y45), (46, y46), (47, y47), (48, y48), (53, y53), (60, y60)] = [(0, y0), (1, y1), (2, y2), (4, y4), (5, y5), (6, y6), (7, y7), (8, y8), (9, y9), (10, z2), (12, y12), (18, y18), (21, y21), (22, y22), (23, y23), (24, y24), (39, y39), (42, y42), (45, y45), (46, y46), (47, y47), (48, y48), (53, y53), (60, y60)] := fun y0 y1 y2 y4 y5 y6 y7 y8 y9 y10 y12 y18 y21 y22 y23 y24 y39 y42 y45 y46 y47 y48 y53 y60 z0 z1 z2 => rfl
                refine R_nil (tr _ _ _ _ _ _ _ _ _ _ _ _ _ _ _ _ _ _ _ _ _ _ _ _ _ _ _) ?_; clear tr
                refine blk_n ?_
                refine then_n ?_
                refine rg rfl ?_
                refine Rq ?_
                refine Rq ?_
                have tr : ∀ y0 y1 y2 y4 y5 y6 y7 y8 y9 y10 y12 y18 y21 y22 y23 y24 y39 y42 y45 y46 y47 y48 y53 y60 z0 z1 : AV, trim [(47, z1), (56, z0), (0, y0), (1, y1), (2, y2), (4, y4), (5, y5), (6, y6), (7, y7), (8, y8), (9, y9), (10, y10), (12, y12), (18, y18), (21, y21), (22, y22), (23, y23), (24, y24), (39, y39), (42, y42), (45, y45), (46, y46), (47, y47), (48, y48), (53, y53), (60, y60)] [(0, y0), (1, y1), (2, y2), (4, y4), (5, y5), (6, y6), (7, y7), (8, y8), (9, y9), (10, y10), (12, y12), (18, y18), (21, y21), (22, y22), (23, y23), (24, y24), (39, y39), (42, y42), (45, y45), (46, y46), (47, y47), (48, y48), (53, y53), (60, y60)] = [(0, y0), (1, y1), (2, y2), (4, y4), (5, y5), (6, y6), (7, y7), (8, y8), (9, y9), (10, y10), (12, y12), (18, y18), (21, y21), (22, y22), (23, y23), (24, y24), (39, y39), (42, y42), (45, y45), (46, y46), (47, z1), (48, y48), (53, y53), (60, y60)] := fun y0 y1 y2 y4 y5 y6 y7 y8 y9 y10 y12 y18 y21 y22 y23 y24 y39 y42 y45 y46 y47 y48 y53 y60 z0 z1 => rfl
                refine R_nil (tr _ _ _ _ _ _ _ _ _ _ _ _ _ _ _ _ _ _ _ _ _ _ _ _ _ _) ?_; clear tr
                refine then_n ?_
                exact ⟨_, _, ⟨w + 1, n + 1, _, _, _, rfl, rfl, rfl, by omega, by rw [take_gt (by omega), cnt_snoc]; first | (rw [if_pos (by omega)]; omega) | (rw [if_neg (by omega)]; omega)⟩, by rfl, by omega⟩
              · try simp only [decide_eq_true_eq, decide_eq_false_iff_not, Bool.not_eq_true', Bool.not_eq_false', beq_iff_eq, beq_eq_false_iff_ne, ne_eq] at h7
                refine at_skip rfl ?_
                refine blk_n ?_
                refine then_n ?_
                refine rg rfl ?_
                refine Rq ?_
                refine Rq ?_
                have tr : ∀ y0 y1 y2 y4 y5 y6 y7 y8 y9 y10 y12 y18 y21 y22 y23 y24 y39 y42 y45 y46 y47 y48 y53 y60 z0 z1 : AV, trim [(47, z1), (56, z0), (0, y0), (1, y1), (2, y2), (4, y4), (5, y5), (6, y6), (7, y7), (8, y8), (9, y9), (10, y10), (12, y12), (18, y18), (21, y21), (22, y22), (23, y23), (24, y24), (39, y39), (42, y42), (45, y45), (46, y46), (47, y47), (48, y48), (53, y53), (60, y60)] [(0, y0), (1, y1), (2, y2), (4, y4), (5, y5), (6, y6), (7, y7), (8, y8), (9, y9), (10, y10), (12, y12), (18, y18), (21, y21), (22, y22), (23, y23), (24, y24), (39, y39), (42, y42), (45, y45), (46, y46), (47, y47), (48, y48), (53, y53), (60, y60)] = [(0, y0), (1, y1), (2, y2), (4, y4), (5, y5), (6, y6), (7, y7), (8, y8), (9, y9), (10, y10), (12, y12), (18, y18), (21, y21), (22, y22), (23, y23), (24, y24), (39, y39), (42, y42), (45, y45), (46, y46), (47, z1), (48, y48), (53, y53), (60, y60)] := fun y0 y1 y2 y4 y5 y6 y7 y8 y9 y10 y12 y18 y21 y22 y23 y24 y39 y42 y45 y46 y47 y48 y53 y60 z0 z1 => rfl
                refine R_nil (tr _ _ _ _ _ _ _ _ _ _ _ _ _ _ _ _ _ _ _ _ _ _ _ _ _ _) ?_; clear tr
                refine then_n ?_
                exact ⟨_, _, ⟨w + 1, n, _, _, _, rfl, rfl, rfl, by omega, by rw [take_gt (by omega), cnt_snoc]; first | (rw [if_pos (by omega)]; omega) | (rw [if_neg (by omega)]; omega)⟩, by rfl, by omega⟩
            · try simp only [decide_eq_true_eq, decide_eq_false_iff_not, Bool.not_eq_true', Bool.not_eq_false', beq_iff_eq, beq_eq_false_iff_ne, ne_eq] at h6
              refine at_exit rfl ?_
              refine then_x ?_
              refine then_x ?_
              refine blk_x ?_
              refine then_n ?_
              refine at_seq rfl ?_
              refine at_seq rfl ?_
              refine rg rfl ?_
              have hwu : w = u := by omega
              rw [hwu] at hn
              refine Rq ?_
              refine Rq ?_
              refine Rq ?_
              refine Rq ?_
              have tr : ∀ y0 y1 y2 y4 y5 y6 y7 y8 y9 y10 y12 y18 y21 y22 y23 y24 y39 y42 y45 y46 y47 y48 y53 y60 z0 z1 z2 z3 : AV, trim [(60, z3), (59, z2), (58, z1), (57, z0), (0, y0), (1, y1), (2, y2), (4, y4), (5, y5), (6, y6), (7, y7), (8, y8), (9, y9), (10, y10), (12, y12), (18, y18), (21, y21), (22, y22), (23, y23), (24, y24), (39, y39), (42, y42), (45, y45), (46, y46), (47, y47), (48, y48), (53, y53), (60, y60)] [(0, y0), (1, y1), (2, y2), (4, y4), (5, y5), (6, y6), (7, y7), (8, y8), (9, y9), (10, y10), (12, y12), (18, y18), (21, y21), (22, y22), (23, y23), (24, y24), (39, y39), (42, y42), (45, y45), (46, y46), (47, y47), (48, y48), (53, y53), (60, y60)] = [(0, y0), (1, y1), (2, y2), (4, y4), (5, y5), (6, y6), (7, y7), (8, y8), (9, y9), (10, y10), (12, y12), (18, y18), (21, y21), (22, y22), (23, y23), (24, y24), (39, y39), (42, y42), (45, y45), (46, y46), (47, y47), (48, y48), (53, y53), (60, z3)] := fun y0 y1 y2 y4 y5 y6 y7 y8 y9 y10 y12 y18 y21 y22 y23 y24 y39 y42 y45 y46 y47 y48 y53 y60 z0 z1 z2 z3 => rfl
              refine R_nil (tr _ _ _ _ _ _ _ _ _ _ _ _ _ _ _ _ _ _ _ _ _ _ _ _ _ _ _ _) ?_; clear tr
              refine then_n ?_
              refine cdd (fun h8 => ?_) (fun h8 => ?_)
              · try simp only [decide_eq_true_eq, decide_eq_false_iff_not, Bool.not_eq_true', Bool.not_eq_false', beq_iff_eq, beq_eq_false_iff_ne, ne_eq] at h8
                refine at_seq rfl ?_
                refine rg rfl ?_
                refine Rq ?_
                refine Rq ?_
                have tr : ∀ y0 y1 y2 y4 y5 y6 y7 y8 y9 y10 y12 y18 y21 y22 y23 y24 y39 y42 y45 y46 y47 y48 y53 y60 z0 z1 : AV, trim [(5, z1), (4, z0), (0, y0), (1, y1), (2, y2), (4, y4), (5, y5), (6, y6), (7, y7), (8, y8), (9, y9), (10, y10), (12, y12), (18, y18), (21, y21), (22, y22), (23, y23), (24, y24), (39, y39), (42, y42), (45, y45), (46, y46), (47, y47), (48, y48), (53, y53), (60, y60)] [(0, y0), (1, y1), (2, y2), (4, y4), (5, y5), (6, y6), (7, y7), (8, y8), (9, y9), (10, y10), (12, y12), (18, y18), (21, y21), (22, y22), (23, y23), (24, y24), (39, y39), (42, y42), (45, y45), (46, y46), (47, y47), (48, y48), (53, y53), (60, y60)] = [(0, y0), (1, y1), (2, y2), (4, z0), (5, z1), (6, y6), (7, y7), (8, y8), (9, y9), (10, y10), (12, y12), (18, y18), (21, y21), (22, y22), (23, y23), (24, y24), (39, y39), (42, y42), (45, y45), (46, y46), (47, y47), (48, y48), (53, y53), (60, y60)] := fun y0 y1 y2 y4 y5 y6 y7 y8 y9 y10 y12 y18 y21 y22 y23 y24 y39 y42 y45 y46 y47 y48 y53 y60 z0 z1 => rfl
                refine R_nil (tr _ _ _ _ _ _ _ _ _ _ _ _ _ _ _ _ _ _ _ _ _ _ _ _ _ _) ?_; clear tr
                refine then_n ?_
                refine at_ret rfl ?_
                refine then_r ?_
                refine blk_r ?_
                refine then_r ?_
                refine then_r ?_
                refine blk_r ?_
                refine then_r ?_
                refine fpure ?_
                refine ⟨?_, rfl⟩
                rw [costV, if_neg (fun hh => hh (by omega)), ← hs, costL_lim (by omega) (by omega) (by omega) (by omega)]
              · try simp only [decide_eq_true_eq, decide_eq_false_iff_not, Bool.not_eq_true', Bool.not_eq_false', beq_iff_eq, beq_eq_false_iff_ne, ne_eq] at h8
                refine at_skip rfl ?_
                refine then_n ?_
                refine at_seq rfl ?_
                refine rg rfl ?_
                have hlen := g5 u (by omega)
                have hok := g6 u (by omega) (gt l u).toNat (by omega)
                unfold okC at hok
                refine Rq ?_
                refine Rq ?_
                refine Rq ?_
                refine Rq ?_
                refine Rq ?_
                refine Rq ?_
                refine Rq ?_
                refine Rq ?_
                refine Rq ?_
                refine Rq ?_
                refine Rq ?_
                have tr : ∀ y0 y1 y2 y4 y5 y6 y7 y8 y9 y10 y12 y18 y21 y22 y23 y24 y39 y42 y45 y46 y47 y48 y53 y60 z0 z1 z2 z3 z4 z5 z6 z7 z8 z9 z10 : AV, trim [(6, z10), (70, z9), (69, z8), (68, z7), (67, z6), (66, z5), (65, z4), (64, z3), (63, z2), (62, z1), (61, z0), (0, y0), (1, y1), (2, y2), (4, y4), (5, y5), (6, y6), (7, y7), (8, y8), (9, y9), (10, y10), (12, y12), (18, y18), (21, y21), (22, y22), (23, y23), (24, y24), (39, y39), (42, y42), (45, y45), (46, y46), (47, y47), (48, y48), (53, y53), (60, y60)] [(0, y0), (1, y1), (2, y2), (4, y4), (5, y5), (6, y6), (7, y7), (8, y8), (9, y9), (10, y10), (12, y12), (18, y18), (21, y21), (22, y22), (23, y23), (24, y24), (39, y39), (42, y42), (45, y45), (46, y46), (47, y47), (48, y48), (53, y53), (60, y60)] = [(0, y0), (1, y1), (2, y2), (4, y4), (5, y5), (6, z10), (7, y7), (8, y8), (9, y9), (10, y10), (12, y12), (18, y18), (21, y21), (22, y22), (23, y23), (24, y24), (39, y39), (42, y42), (45, y45), (46, y46), (47, y47), (48, y48), (53, y53), (60, y60)] := fun y0 y1 y2 y4 y5 y6 y7 y8 y9 y10 y12 y18 y21 y22 y23 y24 y39 y42 y45 y46 y47 y48 y53 y60 z0 z1 z2 z3 z4 z5 z6 z7 z8 z9 z10 => rfl
                refine R_nil (tr _ _ _ _ _ _ _ _ _ _ _ _ _ _ _ _ _ _ _ _ _ _ _ _ _ _ _ _ _ _ _ _ _ _ _) ?_; clear tr
                refine then_n ?_
                refine rg rfl ?_
                refine Rq ?_
                refine Rq ?_
                have tr : ∀ y0 y1 y2 y4 y5 y6 y7 y8 y9 y10 y12 y18 y21 y22 y23 y24 y39 y42 y45 y46 y47 y48 y53 y60 z0 z1 : AV, trim [(7, z1), (71, z0), (0, y0), (1, y1), (2, y2), (4, y4), (5, y5), (6, y6), (7, y7), (8, y8), (9, y9), (10, y10), (12, y12), (18, y18), (21, y21), (22, y22), (23, y23), (24, y24), (39, y39), (42, y42), (45, y45), (46, y46), (47, y47), (48, y48), (53, y53), (60, y60)] [(0, y0), (1, y1), (2, y2), (4, y4), (5, y5), (6, y6), (7, y7), (8, y8), (9, y9), (10, y10), (12, y12), (18, y18), (21, y21), (22, y22), (23, y23), (24, y24), (39, y39), (42, y42), (45, y45), (46, y46), (47, y47), (48, y48), (53, y53), (60, y60)] = [(0, y0), (1, y1), (2, y2), (4, y4), (5, y5), (6, y6), (7, z1), (8, y8), (9, y9), (10, y10), (12, y12), (18, y18), (21, y21), (22, y22), (23, y23), (24, y24), (39, y39), (42, y42), (45, y45), (46, y46), (47, y47), (48, y48), (53, y53), (60, y60)] := fun y0 y1 y2 y4 y5 y6 y7 y8 y9 y10 y12 y18 y21 y22 y23 y24 y39 y42 y45 y46 y47 y48 y53 y60 z0 z1 => rfl
                refine R_nil (tr _ _ _ _ _ _ _ _ _ _ _ _ _ _ _ _ _ _ _ _ _ _ _ _ _ _) ?_; clear tr
                refine blk_n ?_
                refine then_n ?_
                refine rg rfl ?_
                refine Rq ?_
                refine Rq ?_
                have tr : ∀ y0 y1 y2 y4 y5 y6 y7 y8 y9 y10 y12 y18 y21 y22 y23 y24 y39 y42 y45 y46 y47 y48 y53 y60 z0 z1 : AV, trim [(23, z1), (72, z0), (0, y0), (1, y1), (2, y2), (4, y4), (5, y5), (6, y6), (7, y7), (8, y8), (9, y9), (10, y10), (12, y12), (18, y18), (21, y21), (22, y22), (23, y23), (24, y24), (39, y39), (42, y42), (45, y45), (46, y46), (47, y47), (48, y48), (53, y53), (60, y60)] [(0, y0), (1, y1), (2, y2), (4, y4), (5, y5), (6, y6), (7, y7), (8, y8), (9, y9), (10, y10), (12, y12), (18, y18), (21, y21), (22, y22), (23, y23), (24, y24), (39, y39), (42, y42), (45, y45), (46, y46), (47, y47), (48, y48), (53, y53), (60, y60)] = [(0, y0), (1, y1), (2, y2), (4, y4), (5, y5), (6, y6), (7, y7), (8, y8), (9, y9), (10, y10), (12, y12), (18, y18), (21, y21), (22, y22), (23, z1), (24, y24), (39, y39), (42, y42), (45, y45), (46, y46), (47, y47), (48, y48), (53, y53), (60, y60)] := fun y0 y1 y2 y4 y5 y6 y7 y8 y9 y10 y12 y18 y21 y22 y23 y24 y39 y42 y45 y46 y47 y48 y53 y60 z0 z1 => rfl
                refine R_nil (tr _ _ _ _ _ _ _ _ _ _ _ _ _ _ _ _ _ _ _ _ _ _ _ _ _ _) ?_; clear tr
                refine then_n ?_
                exact ⟨_, _, ⟨u + 1, gt l u, s + gt (gt rows u) (gt l u).toNat, _, _, _, _, _, _, _, _, _, _, _, _, _, _, _, rfl, rfl, rfl, by omega, by omega, by omega, by rw [costL_on (by omega) (by omega) (by omega) (by omega)]; exact hs, by (intro j; rw [take_gt (by omega), cnt_snoc]; by_cases hh : gt l u = j; (rw [if_pos hh, ← hh]; omega); (rw [if_neg hh]; have := hq j; omega))⟩, by rfl, by omega⟩
    · try simp only [decide_eq_true_eq, decide_eq_false_iff_not, Bool.not_eq_true', Bool.not_eq_false', beq_iff_eq, beq_eq_false_iff_ne, ne_eq] at h2
      refine at_exit rfl ?_
      refine then_x ?_
      refine then_x ?_
      refine blk_x ?_
      refine then_n ?_
      refine at_seq rfl ?_
      refine rg rfl ?_
      refine Rq ?_
      refine Rq ?_
      refine Rq ?_
      have tr : ∀ y0 y1 y2 y4 y5 y6 y7 y8 y9 y10 y12 y18 y21 y22 y23 y24 y39 y42 y45 y46 y47 y48 y53 y60 z0 z1 z2 : AV, trim [(5, z2), (4, z1), (73, z0), (0, y0), (1, y1), (2, y2), (4, y4), (5, y5), (6, y6), (7, y7), (8, y8), (9, y9), (10, y10), (12, y12), (18, y18), (21, y21), (22, y22), (23, y23), (24, y24), (39, y39), (42, y42), (45, y45), (46, y46), (47, y47), (48, y48), (53, y53), (60, y60)] [(0, y0), (1, y1), (2, y2), (4, y4), (5, y5), (6, y6), (7, y7), (8, y8), (9, y9), (10, y10), (12, y12), (18, y18), (21, y21), (22, y22), (23, y23), (24, y24), (39, y39), (42, y42), (45, y45), (46, y46), (47, y47), (48, y48), (53, y53), (60, y60)] = [(0, y0), (1, y1), (2, y2), (4, z1), (5, z2), (6, y6), (7, y7), (8, y8), (9, y9), (10, y10), (12, y12), (18, y18), (21, y21), (22, y22), (23, y23), (24, y24), (39, y39), (42, y42), (45, y45), (46, y46), (47, y47), (48, y48), (53, y53), (60, y60)] := fun y0 y1 y2 y4 y5 y6 y7 y8 y9 y10 y12 y18 y21 y22 y23 y24 y39 y42 y45 y46 y47 y48 y53 y60 z0 z1 z2 => rfl
      refine R_nil (tr _ _ _ _ _ _ _ _ _ _ _ _ _ _ _ _ _ _ _ _ _ _ _ _ _ _ _) ?_; clear tr
      refine then_n ?_
      refine at_ret rfl ?_
      refine fpure ?_
      refine ⟨?_, rfl⟩
      have hn : l.drop u = [] := List.drop_eq_nil_of_le (by omega)
      rw [costV, if_neg (fun hh => hh (by omega)), ← hs, hn]
      rfl

theorem rcostf_ok (lim : Nat) (H : Heap) (rows : Tb) (q la : Int) (l : List Int) :
    ACall sig lim 12 [.agg [rowsAV rows, AV.i q, AV.i la], .sl l.length (l.map AV.i)] H fun r H' => r = .tup [AV.i (costS rows q la l).1, AV.i (costS rows q la l).2] ∧ H' = H := by
  refine ACall_pure (fa := fa12) rfl rfl rfl rfl ?_
  have tr : ∀ a0 a1 : AV, env0 fa12.keep [a0, a1] = [(0, a0), (1, a1), (2, .any), (4, .any), (5, .any), (6, .any), (10, .any)] := fun a0 a1 => rfl
  refine W_to (tr _ _) ?_; clear tr
  refine at_seq rfl ?_
  refine rg rfl ?_
  refine R_box rfl (by simp (disch := first | omega | (simp only [List.length_map, List.length_append, List.length_set, List.length_cons, List.length_nil, List.length_take, List.length_drop]; omega)) only [go_sem, ↓reduceIte, Nat.reduceEqDiff, reduceCtorEq]; rfl) rfl rfl ?_
  refine Rq ?_
  refine Rq ?_
  have tr : ∀ y0 y1 y2 y4 y5 y6 y10 z0 z1 z2 : AV, trim [(5, z2), (4, z1), (2, z0), (0, y0), (1, y1), (2, y2), (4, y4), (5, y5), (6, y6), (10, y10)] [(0, y0), (1, y1), (2, y2), (4, y4), (5, y5), (6, y6), (10, y10)] = [(0, y0), (1, y1), (2, z0), (4, z1), (5, z2), (6, y6), (10, y10)] := fun y0 y1 y2 y4 y5 y6 y10 z0 z1 z2 => rfl
  refine R_nil (tr _ _ _ _ _ _ _ _ _ _) ?_; clear tr
  refine then_n ?_
  refine at_seq rfl ?_
  refine at_seq rfl ?_
  refine rg rfl ?_
  refine Rq ?_
  refine Rcall ?_
  refine ACall_eq (rcheck_ok _ _ rows q la) ?_
  refine Rq ?_
  have tr : ∀ y0 y1 y2 y4 y5 y6 y10 z0 z1 z2 : AV, trim [(6, z2), (8, z1), (7, z0), (0, y0), (1, y1), (2, y2), (4, y4), (5, y5), (6, y6), (10, y10)] [(0, y0), (1, y1), (2, y2), (4, y4), (5, y5), (6, y6), (10, y10)] = [(0, y0), (1, y1), (2, y2), (4, y4), (5, y5), (6, z2), (10, y10)] := fun y0 y1 y2 y4 y5 y6 y10 z0 z1 z2 => rfl
  refine R_nil (tr _ _ _ _ _ _ _ _ _ _) ?_; clear tr
  refine then_n ?_
  refine at_seq rfl ?_
  refine rg rfl ?_
  refine Rq ?_
  refine Rq ?_
  have tr : ∀ y0 y1 y2 y4 y5 y6 y10 z0 z1 : AV, trim [(10, z1), (9, z0), (0, y0), (1, y1), (2, y2), (4, y4), (5, y5), (6, y6), (10, y10)] [(0, y0), (1, y1), (2, y2), (4, y4), (5, y5), (6, y6), (10, y10)] = [(0, y0), (1, y1), (2, y2), (4, y4), (5, y5), (6, y6), (10, z1)] := fun y0 y1 y2 y4 y5 y6 y10 z0 z1 => rfl
  refine R_nil (tr _ _ _ _ _ _ _ _ _) ?_; clear tr
  refine then_n ?_
  refine cdd (fun h1 => ?_) (fun h1 => ?_)
  · try simp only [decide_eq_true_eq, decide_eq_false_iff_not, Bool.not_eq_true', Bool.not_eq_false', beq_iff_eq, beq_eq_false_iff_ne, ne_eq] at h1
    refine at_seq rfl ?_
    refine rg rfl ?_
    refine Rq ?_
    refine Rq ?_
    refine Rq ?_
    have tr : ∀ y0 y1 y2 y4 y5 y6 y10 z0 z1 z2 : AV, trim [(5, z2), (4, z1), (11, z0), (0, y0), (1, y1), (2, y2), (4, y4), (5, y5), (6, y6), (10, y10)] [(0, y0), (1, y1), (2, y2), (4, y4), (5, y5), (6, y6), (10, y10)] = [(0, y0), (1, y1), (2, y2), (4, z1), (5, z2), (6, y6), (10, y10)] := fun y0 y1 y2 y4 y5 y6 y10 z0 z1 z2 => rfl
    refine R_nil (tr _ _ _ _ _ _ _ _ _ _) ?_; clear tr
    refine then_n ?_
    refine at_ret rfl ?_
    refine then_r ?_
    refine fpure ?_
    refine ⟨?_, rfl⟩
    rw [costS, if_pos (by assumption)]
  · try simp only [decide_eq_true_eq, decide_eq_false_iff_not, Bool.not_eq_true', Bool.not_eq_false', beq_iff_eq, beq_eq_false_iff_ne, ne_eq] at h1
    refine at_skip rfl ?_
    refine then_n ?_
    refine at_seq rfl ?_
    refine rg rfl ?_
    obtain ⟨g1, g2, g3, g4, g5, g6, g7, g8, g9, g10, g11⟩ := good_of (by assumption : checkS rows q la = 0)
    refine Rq ?_
    refine Rq ?_
    refine Rcall ?_
    refine ACall_eq (rcost_ok _ _ rows q la l g1 g2 g3 g4 g5 g6 g7 g8) ?_
    refine Rq ?_
    refine Rq ?_
    refine Rq ?_
    refine Rq ?_
    have tr : ∀ y0 y1 y2 y4 y5 y6 y10 z0 z1 z2 z3 z4 z5 z6 : AV, trim [(5, z6), (4, z5), (16, z4), (15, z3), (14, z2), (13, z1), (12, z0), (0, y0), (1, y1), (2, y2), (4, y4), (5, y5), (6, y6), (10, y10)] [(0, y0), (1, y1), (2, y2), (4, y4), (5, y5), (6, y6), (10, y10)] = [(0, y0), (1, y1), (2, y2), (4, z5), (5, z6), (6, y6), (10, y10)] := fun y0 y1 y2 y4 y5 y6 y10 z0 z1 z2 z3 z4 z5 z6 => rfl
    refine R_nil (tr _ _ _ _ _ _ _ _ _ _ _ _ _ _) ?_; clear tr
    refine then_n ?_
    refine at_ret rfl ?_
    refine fpure ?_
    refine ⟨?_, rfl⟩
    rw [costS, if_neg (fun hh => hh (by assumption))]

end Go.Proofs.Ytmkalakojfpfgaa
