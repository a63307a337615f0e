/-
  Walks of chapter 46. The steps are written by program (walk.py).
-/
import Derived.Test.YtmkalakojfpfgaaQ2
set_option linter.unusedSimpArgs false
set_option linter.unusedVariables false
set_option maxHeartbeats 40000000
set_option maxRecDepth 4000
namespace Go.Proofs.Ytmkalakojfpfgaa
open Go Go.Am

theorem index_ok (lim : Nat) (H : Heap) (rows : Tb) (q la0 : Int) (g : Good rows q la0) (c : List Int) (la : Int) (st : StOK q (gt rows 0).length c la) (x : AV) (hx : Src H x c) :
    ACall sig lim 26 [.agg [rowsAV rows, AV.i q, AV.i la0], .agg [x, AV.i la]] H fun r H' => r = AV.i (idxS q (gt rows 0).length c la) ∧ H' = H := by
  obtain ⟨g1, g2, g3, g4, g5, g6, g7, g8, g9, g10, g11⟩ := id g
  obtain ⟨⟨hcl, hcr⟩, hl0, hl1⟩ := id st
  have hq0 : 0 ≤ q := by omega
  have hargs : [.agg [rowsAV rows, AV.i q, AV.i la0], .agg [x, AV.i la]].map (frz H 0 8) = [.agg [rowsAV rows, AV.i q, AV.i la0], .agg [intsAV c, AV.i la]] := by
    show [AV.agg [frz H 0 7 (rowsAV rows), AV.i q, AV.i la0], AV.agg [frz H 0 7 x, AV.i la]] = _
    rw [frz_rowsA, hx.frz 5]
  obtain ⟨e1, e2, e3, e4⟩ := enc_bd g st
  refine ACall_data (fa := fa26) rfl rfl rfl rfl hargs ?_
  have tr : ∀ a0 a1 : AV, env0 fa26.keep [a0, a1] = [(0, a0), (1, a1), (2, .any), (3, .any), (4, .any), (5, .any), (6, .any), (12, .any)] := fun a0 a1 => rfl
  refine W_to (tr _ _) ?_; clear tr
  refine at_seq rfl ?_
  refine rg rfl ?_
  refine R_box rfl (by simp (disch := first | omega | (simp only [List.length_map, List.length_append, List.length_set, List.length_cons, List.length_nil, List.length_take, List.length_drop]; omega)) only [go_sem, ↓reduceIte, Nat.reduceEqDiff, reduceCtorEq]; rfl) rfl rfl ?_
  refine R_box rfl (by simp (disch := first | omega | (simp only [List.length_map, List.length_append, List.length_set, List.length_cons, List.length_nil, List.length_take, List.length_drop]; omega)) only [go_sem, ↓reduceIte, Nat.reduceEqDiff, reduceCtorEq]; rfl) rfl rfl ?_
  refine Rq ?_
  have tr : ∀ y0 y1 y2 y3 y4 y5 y6 y12 z0 z1 z2 : AV, trim [(4, z2), (3, z1), (2, z0), (0, y0), (1, y1), (2, y2), (3, y3), (4, y4), (5, y5), (6, y6), (12, y12)] [(0, y0), (1, y1), (2, y2), (3, y3), (4, y4), (5, y5), (6, y6), (12, y12)] = [(0, y0), (1, y1), (2, z0), (3, z1), (4, z2), (5, y5), (6, y6), (12, y12)] := fun y0 y1 y2 y3 y4 y5 y6 y12 z0 z1 z2 => rfl
  refine R_nil (tr _ _ _ _ _ _ _ _ _ _ _) ?_; clear tr
  refine then_n ?_
  refine at_seq rfl ?_
  refine rg rfl ?_
  refine Rq ?_
  have tr : ∀ y0 y1 y2 y3 y4 y5 y6 y12 z0 : AV, trim [(5, z0), (0, y0), (1, y1), (2, y2), (3, y3), (4, y4), (5, y5), (6, y6), (12, y12)] [(0, y0), (1, y1), (2, y2), (3, y3), (4, y4), (5, y5), (6, y6), (12, y12)] = [(0, y0), (1, y1), (2, y2), (3, y3), (4, y4), (5, z0), (6, y6), (12, y12)] := fun y0 y1 y2 y3 y4 y5 y6 y12 z0 => rfl
  refine R_nil (tr _ _ _ _ _ _ _ _ _) ?_; clear tr
  refine then_n ?_
  refine at_seq rfl ?_
  refine at_seq rfl ?_
  refine rg rfl ?_
  refine Rq ?_
  refine Rq ?_
  refine Rq ?_
  refine Rq ?_
  refine Rq ?_
  have tr : ∀ y0 y1 y2 y3 y4 y5 y6 y12 z0 z1 z2 z3 z4 : AV, trim [(6, z4), (10, z3), (9, z2), (8, z1), (7, z0), (0, y0), (1, y1), (2, y2), (3, y3), (4, y4), (5, y5), (6, y6), (12, y12)] [(0, y0), (1, y1), (2, y2), (3, y3), (4, y4), (5, y5), (6, y6), (12, y12)] = [(0, y0), (1, y1), (2, y2), (3, y3), (4, y4), (5, y5), (6, z4), (12, y12)] := fun y0 y1 y2 y3 y4 y5 y6 y12 z0 z1 z2 z3 z4 => rfl
  refine R_nil (tr _ _ _ _ _ _ _ _ _ _ _ _ _) ?_; clear tr
  refine then_n ?_
  refine at_block rfl ?_
  refine loop_n rfl (fun mm kv H' => ∃ k : Nat, ∃ z : Int, ∃ n : Int, ∃ x12 : AV, (kv = [(5, AV.i n), (6, AV.i z), (12, x12)]) ∧ (mm = k) ∧ (H' = [] ++ [some [rowsAV rows, AV.i q, AV.i la0]] ++ [some [intsAV c, AV.i la]]) ∧ (k ≤ c.length) ∧ (z = (k : Int) - 1) ∧ (n = encC q (c.drop k))) ⟨c.length, ((c.length : Int) - 1), 0, _, rfl, rfl, rfl, by omega, by omega, by rw [List.drop_length]; rfl⟩ (by rfl) ?_
  rintro mm kv H' ⟨k, z, n, x12, rfl, rfl, rfl, hk, hz, hn⟩
  have tr : ∀ y0 y1 y2 y3 y4 y5 y6 y12 z5 z6 z12 : AV, upd [(0, y0), (1, y1), (2, y2), (3, y3), (4, y4), (5, y5), (6, y6), (12, y12)] [(5, z5), (6, z6), (12, z12)] = [(0, y0), (1, y1), (2, y2), (3, y3), (4, y4), (5, z5), (6, z6), (12, z12)] := fun y0 y1 y2 y3 y4 y5 y6 y12 z5 z6 z12 => rfl
  refine W_to (tr _ _ _ _ _ _ _ _ _ _ _) ?_; clear tr
  refine at_seq rfl ?_
  refine at_seq rfl ?_
  refine rg rfl ?_
  refine Rq ?_
  refine Rq ?_
  have tr : ∀ y0 y1 y2 y3 y4 y5 y6 y12 z0 z1 : AV, trim [(12, z1), (11, z0), (0, y0), (1, y1), (2, y2), (3, y3), (4, y4), (5, y5), (6, y6), (12, y12)] [(0, y0), (1, y1), (2, y2), (3, y3), (4, y4), (5, y5), (6, y6), (12, y12)] = [(0, y0), (1, y1), (2, y2), (3, y3), (4, y4), (5, y5), (6, y6), (12, z1)] := fun y0 y1 y2 y3 y4 y5 y6 y12 z0 z1 => rfl
  refine R_nil (tr _ _ _ _ _ _ _ _ _ _) ?_; clear tr
  refine then_n ?_
  refine cdd (fun h1 => ?_) (fun h1 => ?_)
  · try simp only [decide_eq_true_eq, decide_eq_false_iff_not, Bool.not_eq_true', Bool.not_eq_false', beq_iff_eq, beq_eq_false_iff_ne, ne_eq] at h1
    refine at_skip rfl ?_
    refine then_n ?_
    refine at_seq rfl ?_
    refine at_block rfl ?_
    refine rd rfl rfl ?_
    obtain ⟨w, hw⟩ := Int.eq_ofNat_of_zero_le (by omega : 0 ≤ z)
    obtain hkw : mm = w + 1 := by omega
    subst hw
    subst hkw
    have hcw := okc_gt st.c (j := w) (by omega)
    have hed := enc_drop (q := q) (c := c) (j := w) (by omega)
    have her := enc_rng hq0 (c.drop (w + 1)) (okc_drop st.c (w + 1))
    have het := enc_tail hq0 c hcr w
    rw [Int.mul_comm] at hed
    have hep : 0 ≤ encC q (c.drop (w + 1)) * (q + 1) := Int.mul_nonneg her.1 (by omega)
    subst hn
    refine Qq ?_
    refine Qq ?_
    refine Qq ?_
    refine Qq ?_
    refine Qq ?_
    refine Qq ?_
    refine Qq ?_
    refine Qq ?_
    refine Qq ?_
    refine Qq ?_
    refine Qq ?_
    refine Qq ?_
    refine Q_nil ?_
    have tr : ∀ y0 y1 y2 y3 y4 y5 y6 y12 z0 z1 z2 z3 z4 z5 z6 z7 z8 z9 z10 z11 : AV, trim [(5, z11), (25, z10), (24, z9), (23, z8), (22, z7), (21, z6), (20, z5), (19, z4), (18, z3), (17, z2), (16, z1), (15, z0), (0, y0), (1, y1), (2, y2), (3, y3), (4, y4), (5, y5), (6, y6), (12, y12)] [(0, y0), (1, y1), (2, y2), (3, y3), (4, y4), (5, y5), (6, y6), (12, y12)] = [(0, y0), (1, y1), (2, y2), (3, y3), (4, y4), (5, z11), (6, y6), (12, y12)] := fun y0 y1 y2 y3 y4 y5 y6 y12 z0 z1 z2 z3 z4 z5 z6 z7 z8 z9 z10 z11 => rfl
    refine R_nil (tr _ _ _ _ _ _ _ _ _ _ _ _ _ _ _ _ _ _ _ _) ?_; clear tr
    refine blk_n ?_
    refine then_n ?_
    refine rg rfl ?_
    refine Rq ?_
    refine Rq ?_
    refine Rq ?_
    have tr : ∀ y0 y1 y2 y3 y4 y5 y6 y12 z0 z1 z2 : AV, trim [(6, z2), (14, z1), (13, z0), (0, y0), (1, y1), (2, y2), (3, y3), (4, y4), (5, y5), (6, y6), (12, y12)] [(0, y0), (1, y1), (2, y2), (3, y3), (4, y4), (5, y5), (6, y6), (12, y12)] = [(0, y0), (1, y1), (2, y2), (3, y3), (4, y4), (5, y5), (6, z2), (12, y12)] := fun y0 y1 y2 y3 y4 y5 y6 y12 z0 z1 z2 => rfl
    refine R_nil (tr _ _ _ _ _ _ _ _ _ _ _) ?_; clear tr
    refine then_n ?_
    exact ⟨_, _, ⟨w, ((w : Int) - 1), (encC q (c.drop (w + 1)) * (q + 1) + gt c w), _, rfl, rfl, rfl, by omega, by rfl, by rw [hed]; omega⟩, by rfl, by omega⟩
  · try simp only [decide_eq_true_eq, decide_eq_false_iff_not, Bool.not_eq_true', Bool.not_eq_false', beq_iff_eq, beq_eq_false_iff_ne, ne_eq] at h1
    refine at_exit rfl ?_
    refine then_x ?_
    refine then_x ?_
    refine blk_x ?_
    refine then_n ?_
    refine at_seq rfl ?_
    refine rg rfl ?_
    have hk0 : mm = 0 := by omega
    subst hk0
    rw [List.drop_zero] at hn
    subst hn
    refine Rq ?_
    refine Rq ?_
    refine Rq ?_
    refine Rq ?_
    refine Rq ?_
    refine Rq ?_
    refine Rq ?_
    refine Rq ?_
    refine Rq ?_
    refine Rq ?_
    refine Rq ?_
    have tr : ∀ y0 y1 y2 y3 y4 y5 y6 y12 z0 z1 z2 z3 z4 z5 z6 z7 z8 z9 z10 : AV, trim [(4, z10), (35, z9), (34, z8), (33, z7), (32, z6), (31, z5), (30, z4), (29, z3), (28, z2), (27, z1), (26, z0), (0, y0), (1, y1), (2, y2), (3, y3), (4, y4), (5, y5), (6, y6), (12, y12)] [(0, y0), (1, y1), (2, y2), (3, y3), (4, y4), (5, y5), (6, y6), (12, y12)] = [(0, y0), (1, y1), (2, y2), (3, y3), (4, z10), (5, y5), (6, y6), (12, y12)] := fun y0 y1 y2 y3 y4 y5 y6 y12 z0 z1 z2 z3 z4 z5 z6 z7 z8 z9 z10 => rfl
    refine R_nil (tr _ _ _ _ _ _ _ _ _ _ _ _ _ _ _ _ _ _ _) ?_; clear tr
    refine then_n ?_
    refine at_ret rfl ?_
    refine fpure ?_
    refine ⟨rfl, ?_, rfl⟩
    rw [idxS, ← hcl]

theorem over_ok (lim : Nat) (H : Heap) (rows : Tb) (q la0 : Int) (g : Good rows q la0) (c : List Int) (la : Int) (st : StOK q (gt rows 0).length c la) (x : AV) (hx : Src H x c) :
    ACall sig lim 35 [.agg [x, AV.i la]] H fun r H' => r = AV.i (sumL c) ∧ H' = H := by
  obtain ⟨g1, g2, g3, g4, g5, g6, g7, g8, g9, g10, g11⟩ := id g
  obtain ⟨⟨hcl, hcr⟩, hl0, hl1⟩ := id st
  have hq0 : 0 ≤ q := by omega
  have hargs : [.agg [x, AV.i la]].map (frz H 0 8) = [.agg [intsAV c, AV.i la]] := by
    show [AV.agg [frz H 0 7 x, AV.i la]] = _
    rw [hx.frz 5]
  refine ACall_data (fa := fa35) rfl rfl rfl rfl hargs ?_
  have tr : ∀ a0 : AV, env0 fa35.keep [a0] = [(0, a0), (1, .any), (2, .any), (3, .any), (5, .any), (7, .any), (8, .any), (9, .any), (10, .any)] := fun a0 => rfl
  refine W_to (tr _) ?_; clear tr
  refine at_seq rfl ?_
  refine rg rfl ?_
  refine R_box rfl (by simp (disch := first | omega | (simp only [List.length_map, List.length_append, List.length_set, List.length_cons, List.length_nil, List.length_take, List.length_drop]; omega)) only [go_sem, ↓reduceIte, Nat.reduceEqDiff, reduceCtorEq]; rfl) rfl rfl ?_
  refine Rq ?_
  have tr : ∀ y0 y1 y2 y3 y5 y7 y8 y9 y10 z0 z1 : AV, trim [(2, z1), (1, z0), (0, y0), (1, y1), (2, y2), (3, y3), (5, y5), (7, y7), (8, y8), (9, y9), (10, y10)] [(0, y0), (1, y1), (2, y2), (3, y3), (5, y5), (7, y7), (8, y8), (9, y9), (10, y10)] = [(0, y0), (1, z0), (2, z1), (3, y3), (5, y5), (7, y7), (8, y8), (9, y9), (10, y10)] := fun y0 y1 y2 y3 y5 y7 y8 y9 y10 z0 z1 => rfl
  refine R_nil (tr _ _ _ _ _ _ _ _ _ _ _) ?_; clear tr
  refine then_n ?_
  refine at_seq rfl ?_
  refine rg rfl ?_
  refine Rq ?_
  have tr : ∀ y0 y1 y2 y3 y5 y7 y8 y9 y10 z0 : AV, trim [(3, z0), (0, y0), (1, y1), (2, y2), (3, y3), (5, y5), (7, y7), (8, y8), (9, y9), (10, y10)] [(0, y0), (1, y1), (2, y2), (3, y3), (5, y5), (7, y7), (8, y8), (9, y9), (10, y10)] = [(0, y0), (1, y1), (2, y2), (3, z0), (5, y5), (7, y7), (8, y8), (9, y9), (10, y10)] := fun y0 y1 y2 y3 y5 y7 y8 y9 y10 z0 => rfl
  refine R_nil (tr _ _ _ _ _ _ _ _ _ _) ?_; clear tr
  refine then_n ?_
  refine at_seq rfl ?_
  refine at_seq rfl ?_
  refine rg rfl ?_
  refine Rq ?_
  refine Rq ?_
  refine Rq ?_
  refine Rq ?_
  have tr : ∀ y0 y1 y2 y3 y5 y7 y8 y9 y10 z0 z1 z2 z3 : AV, trim [(9, z3), (8, z2), (7, z1), (6, z0), (0, y0), (1, y1), (2, y2), (3, y3), (5, y5), (7, y7), (8, y8), (9, y9), (10, y10)] [(0, y0), (1, y1), (2, y2), (3, y3), (5, y5), (7, y7), (8, y8), (9, y9), (10, y10)] = [(0, y0), (1, y1), (2, y2), (3, y3), (5, y5), (7, z1), (8, z2), (9, z3), (10, y10)] := fun y0 y1 y2 y3 y5 y7 y8 y9 y10 z0 z1 z2 z3 => rfl
  refine R_nil (tr _ _ _ _ _ _ _ _ _ _ _ _ _) ?_; clear tr
  refine then_n ?_
  refine at_block rfl ?_
  refine loop_n rfl (fun mm kv H' => ∃ u : Nat, ∃ n : Int, ∃ x5 x10 : AV, (kv = [(3, AV.i n), (5, x5), (9, AV.i u), (10, x10)]) ∧ (mm = c.length - u) ∧ (H' = [] ++ [some [intsAV c, AV.i la]]) ∧ (u ≤ c.length) ∧ (n = sumL (c.take u))) ⟨0, 0, _, _, rfl, rfl, rfl, by omega, by rfl⟩ (by rfl) ?_
  rintro mm kv H' ⟨u, n, x5, x10, rfl, rfl, rfl, hu, hn⟩
  have tr : ∀ y0 y1 y2 y3 y5 y7 y8 y9 y10 z3 z5 z9 z10 : AV, upd [(0, y0), (1, y1), (2, y2), (3, y3), (5, y5), (7, y7), (8, y8), (9, y9), (10, y10)] [(3, z3), (5, z5), (9, z9), (10, z10)] = [(0, y0), (1, y1), (2, y2), (3, z3), (5, z5), (7, y7), (8, y8), (9, z9), (10, z10)] := fun y0 y1 y2 y3 y5 y7 y8 y9 y10 z3 z5 z9 z10 => rfl
  refine W_to (tr _ _ _ _ _ _ _ _ _ _ _ _ _) ?_; clear tr
  refine at_seq rfl ?_
  refine rg rfl ?_
  refine Rq ?_
  have tr : ∀ y0 y1 y2 y3 y5 y7 y8 y9 y10 z0 : AV, trim [(10, z0), (0, y0), (1, y1), (2, y2), (3, y3), (5, y5), (7, y7), (8, y8), (9, y9), (10, y10)] [(0, y0), (1, y1), (2, y2), (3, y3), (5, y5), (7, y7), (8, y8), (9, y9), (10, y10)] = [(0, y0), (1, y1), (2, y2), (3, y3), (5, y5), (7, y7), (8, y8), (9, y9), (10, z0)] := fun y0 y1 y2 y3 y5 y7 y8 y9 y10 z0 => rfl
  refine R_nil (tr _ _ _ _ _ _ _ _ _ _) ?_; clear tr
  refine then_n ?_
  refine at_seq rfl ?_
  refine cdd (fun h1 => ?_) (fun h1 => ?_)
  · try simp only [decide_eq_true_eq, decide_eq_false_iff_not, Bool.not_eq_true', Bool.not_eq_false', beq_iff_eq, beq_eq_false_iff_ne, ne_eq] at h1
    refine at_skip rfl ?_
    refine then_n ?_
    refine at_seq rfl ?_
    refine at_block rfl ?_
    refine at_seq rfl ?_
    refine rg rfl ?_
    have hcu := okc_gt st.c (j := u) (by omega)
    have hsu := sum_le (q := 12) (c.take u) (fun y hy => by have := hcr y (List.mem_of_mem_take hy); omega)
    have hlt : (c.take u).length ≤ 6 := by rw [List.length_take]; omega
    have hst := sum_take (c := c) u (by omega)
    have hsb : sumL (c.take u) ≤ 72 := by omega
    refine Rq ?_
    refine Rq ?_
    refine Rq ?_
    have tr : ∀ y0 y1 y2 y3 y5 y7 y8 y9 y10 z0 z1 z2 : AV, trim [(5, z2), (12, z1), (11, z0), (0, y0), (1, y1), (2, y2), (3, y3), (5, y5), (7, y7), (8, y8), (9, y9), (10, y10)] [(0, y0), (1, y1), (2, y2), (3, y3), (5, y5), (7, y7), (8, y8), (9, y9), (10, y10)] = [(0, y0), (1, y1), (2, y2), (3, y3), (5, z2), (7, y7), (8, y8), (9, y9), (10, y10)] := fun y0 y1 y2 y3 y5 y7 y8 y9 y10 z0 z1 z2 => rfl
    refine R_nil (tr _ _ _ _ _ _ _ _ _ _ _ _) ?_; clear tr
    refine then_n ?_
    refine rg rfl ?_
    refine Rq ?_
    refine Rq ?_
    refine Rq ?_
    refine Rq ?_
    have tr : ∀ y0 y1 y2 y3 y5 y7 y8 y9 y10 z0 z1 z2 z3 : AV, trim [(3, z3), (15, z2), (14, z1), (13, z0), (0, y0), (1, y1), (2, y2), (3, y3), (5, y5), (7, y7), (8, y8), (9, y9), (10, y10)] [(0, y0), (1, y1), (2, y2), (3, y3), (5, y5), (7, y7), (8, y8), (9, y9), (10, y10)] = [(0, y0), (1, y1), (2, y2), (3, z3), (5, y5), (7, y7), (8, y8), (9, y9), (10, y10)] := fun y0 y1 y2 y3 y5 y7 y8 y9 y10 z0 z1 z2 z3 => rfl
    refine R_nil (tr _ _ _ _ _ _ _ _ _ _ _ _ _) ?_; clear tr
    refine blk_n ?_
    refine then_n ?_
    refine rg rfl ?_
    refine Rq ?_
    refine Rq ?_
    have tr : ∀ y0 y1 y2 y3 y5 y7 y8 y9 y10 z0 z1 : AV, trim [(9, z1), (16, z0), (0, y0), (1, y1), (2, y2), (3, y3), (5, y5), (7, y7), (8, y8), (9, y9), (10, y10)] [(0, y0), (1, y1), (2, y2), (3, y3), (5, y5), (7, y7), (8, y8), (9, y9), (10, y10)] = [(0, y0), (1, y1), (2, y2), (3, y3), (5, y5), (7, y7), (8, y8), (9, z1), (10, y10)] := fun y0 y1 y2 y3 y5 y7 y8 y9 y10 z0 z1 => rfl
    refine R_nil (tr _ _ _ _ _ _ _ _ _ _ _) ?_; clear tr
    refine then_n ?_
    exact ⟨_, _, ⟨u + 1, (n + gt c u), _, _, rfl, rfl, rfl, by omega, by rw [hst, hn]⟩, by rfl, by omega⟩
  · try simp only [decide_eq_true_eq, decide_eq_false_iff_not, Bool.not_eq_true', Bool.not_eq_false', beq_iff_eq, beq_eq_false_iff_ne, ne_eq] at h1
    refine at_exit rfl ?_
    refine then_x ?_
    refine then_x ?_
    refine blk_x ?_
    refine then_n ?_
    refine at_seq rfl ?_
    refine rg rfl ?_
    refine Rq ?_
    refine Rq ?_
    have tr : ∀ y0 y1 y2 y3 y5 y7 y8 y9 y10 z0 z1 : AV, trim [(2, z1), (17, z0), (0, y0), (1, y1), (2, y2), (3, y3), (5, y5), (7, y7), (8, y8), (9, y9), (10, y10)] [(0, y0), (1, y1), (2, y2), (3, y3), (5, y5), (7, y7), (8, y8), (9, y9), (10, y10)] = [(0, y0), (1, y1), (2, z1), (3, y3), (5, y5), (7, y7), (8, y8), (9, y9), (10, y10)] := fun y0 y1 y2 y3 y5 y7 y8 y9 y10 z0 z1 => rfl
    refine R_nil (tr _ _ _ _ _ _ _ _ _ _ _) ?_; clear tr
    refine then_n ?_
    refine at_ret rfl ?_
    refine fpure ?_
    refine ⟨rfl, ?_, rfl⟩
    rw [hn, List.take_of_length_le (by omega)]

theorem may_ok (lim : Nat) (H : Heap) (rows : Tb) (q la0 : Int) (g : Good rows q la0) (c : List Int) (la : Int) (st : StOK q (gt rows 0).length c la) (x : AV) (hx : Src H x c) (j : Nat) (hj : j < c.length) :
    ACall sig lim 27 [.agg [x, AV.i la], .agg [rowsAV rows, AV.i q, AV.i la0], AV.i j] H fun r H' => r = .v (.bool (decide ((j : Int) ≠ la ∧ gt c j < q))) ∧ H' = H := by
  obtain ⟨g1, g2, g3, g4, g5, g6, g7, g8, g9, g10, g11⟩ := id g
  obtain ⟨⟨hcl, hcr⟩, hl0, hl1⟩ := id st
  have hq0 : 0 ≤ q := by omega
  have hargs : [.agg [x, AV.i la], .agg [rowsAV rows, AV.i q, AV.i la0], AV.i j].map (frz H 0 8) = [.agg [intsAV c, AV.i la], .agg [rowsAV rows, AV.i q, AV.i la0], AV.i j] := by
    show [AV.agg [frz H 0 7 x, AV.i la], AV.agg [frz H 0 7 (rowsAV rows), AV.i q, AV.i la0], AV.i j] = _
    rw [frz_rowsA, hx.frz 5]
  refine ACall_data (fa := fa27) rfl rfl rfl rfl hargs ?_
  have tr : ∀ a0 a1 a2 : AV, env0 fa27.keep [a0, a1, a2] = [(0, a0), (1, a1), (2, a2), (3, .any), (4, .any), (6, .any)] := fun a0 a1 a2 => rfl
  refine W_to (tr _ _ _) ?_; clear tr
  refine at_seq rfl ?_
  refine rg rfl ?_
  refine R_box rfl (by simp (disch := first | omega | (simp only [List.length_map, List.length_append, List.length_set, List.length_cons, List.length_nil, List.length_take, List.length_drop]; omega)) only [go_sem, ↓reduceIte, Nat.reduceEqDiff, reduceCtorEq]; rfl) rfl rfl ?_
  refine R_box rfl (by simp (disch := first | omega | (simp only [List.length_map, List.length_append, List.length_set, List.length_cons, List.length_nil, List.length_take, List.length_drop]; omega)) only [go_sem, ↓reduceIte, Nat.reduceEqDiff, reduceCtorEq]; rfl) rfl rfl ?_
  refine Rq ?_
  have tr : ∀ y0 y1 y2 y3 y4 y6 z0 z1 z2 : AV, trim [(6, z2), (4, z1), (3, z0), (0, y0), (1, y1), (2, y2), (3, y3), (4, y4), (6, y6)] [(0, y0), (1, y1), (2, y2), (3, y3), (4, y4), (6, y6)] = [(0, y0), (1, y1), (2, y2), (3, z0), (4, z1), (6, z2)] := fun y0 y1 y2 y3 y4 y6 z0 z1 z2 => rfl
  refine R_nil (tr _ _ _ _ _ _ _ _ _) ?_; clear tr
  refine then_n ?_
  refine at_seq rfl ?_
  refine rd rfl rfl ?_
  refine Qq ?_
  refine Qq ?_
  refine Qq ?_
  refine Qq ?_
  refine Qq ?_
  refine Qp_split (fun h1 => ?_) (fun h1 => ?_)
  · try simp only [decide_eq_true_eq, decide_eq_false_iff_not, Bool.not_eq_true', Bool.not_eq_false', beq_iff_eq, beq_eq_false_iff_ne, ne_eq] at h1
    refine Qy ?_
    refine Qq ?_
    refine Qy ?_
    refine Qq ?_
    refine Qy ?_
    refine Qq ?_
    refine Qy ?_
    refine Qq ?_
    refine Qy ?_
    refine Qq ?_
    refine Qy ?_
    refine Qq ?_
    refine Qy ?_
    refine Qq ?_
    refine Qy ?_
    refine Qq ?_
    refine Qq ?_
    refine Qq ?_
    refine Q_nil ?_
    have tr : ∀ y0 y1 y2 y3 y4 y6 z0 z1 z2 z3 z4 z5 z6 z7 z8 z9 z10 z11 z12 z13 z14 : AV, trim [(6, z14), (20, z13), (19, z12), (18, z11), (17, z10), (16, z9), (15, z8), (14, z7), (13, z6), (12, z5), (11, z4), (10, z3), (9, z2), (8, z1), (7, z0), (0, y0), (1, y1), (2, y2), (3, y3), (4, y4), (6, y6)] [(0, y0), (1, y1), (2, y2), (3, y3), (4, y4), (6, y6)] = [(0, y0), (1, y1), (2, y2), (3, y3), (4, y4), (6, z14)] := fun y0 y1 y2 y3 y4 y6 z0 z1 z2 z3 z4 z5 z6 z7 z8 z9 z10 z11 z12 z13 z14 => rfl
    refine R_nil (tr _ _ _ _ _ _ _ _ _ _ _ _ _ _ _ _ _ _ _ _ _) ?_; clear tr
    refine then_n ?_
    refine at_ret rfl ?_
    refine fpure ?_
    refine ⟨rfl, ?_, rfl⟩
    congr 2
    rw [decide_eq_decide]
    omega
  · try simp only [decide_eq_true_eq, decide_eq_false_iff_not, Bool.not_eq_true', Bool.not_eq_false', beq_iff_eq, beq_eq_false_iff_ne, ne_eq] at h1
    refine Qn ?_
    refine Qn ?_
    refine Qn ?_
    refine Qn ?_
    refine Qn ?_
    refine Qn ?_
    refine Qn ?_
    refine Qn ?_
    refine Qq ?_
    refine Qq ?_
    refine Q_nil ?_
    have tr : ∀ y0 y1 y2 y3 y4 y6 z0 z1 z2 z3 z4 z5 z6 z7 z8 z9 z10 z11 z12 z13 z14 : AV, trim [(6, z14), (20, z13), (19, z12), (18, z11), (17, z10), (16, z9), (15, z8), (14, z7), (13, z6), (12, z5), (11, z4), (10, z3), (9, z2), (8, z1), (7, z0), (0, y0), (1, y1), (2, y2), (3, y3), (4, y4), (6, y6)] [(0, y0), (1, y1), (2, y2), (3, y3), (4, y4), (6, y6)] = [(0, y0), (1, y1), (2, y2), (3, y3), (4, y4), (6, z14)] := fun y0 y1 y2 y3 y4 y6 z0 z1 z2 z3 z4 z5 z6 z7 z8 z9 z10 z11 z12 z13 z14 => rfl
    refine R_nil (tr _ _ _ _ _ _ _ _ _ _ _ _ _ _ _ _ _ _ _ _ _) ?_; clear tr
    refine then_n ?_
    refine at_ret rfl ?_
    refine fpure ?_
    refine ⟨rfl, ?_, rfl⟩
    rw [decide_eq_false (fun hh => hh.1 (by omega))]

end Go.Proofs.Ytmkalakojfpfgaa
