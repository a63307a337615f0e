/-
  Walks of chapter 46. The steps are written by program (walk.py).
-/
import Derived.Test.YtmkalakojfpfgaaQ2
set_option linter.unusedSimpArgs false
set_option linter.unusedVariables false
set_option maxHeartbeats 40000000
set_option maxRecDepth 4000
namespace Go.Proofs.Ytmkalakojfpfgaa
open Go Go.Am

theorem rmay_ok (lim : Nat) (H : Heap) (rows : Tb) (q la0 : Int) (g : Good rows q la0) (c : List Int) (la : Int) (st : StOK q (gt rows 0).length c la) (x : AV) (hx : Src H x c) (so : Int) (j : Nat) (hj : j < c.length) :
    ACall sig lim 31 [.agg [rowsAV rows, AV.i q, AV.i la0], .agg [x, AV.i so, AV.i la], AV.i j] H fun r H' => r = .v (.bool (decide (so < rows.length ∧ (j : Int) ≠ la ∧ gt c j < q))) ∧ H' = H := by
  obtain ⟨g1, g2, g3, g4, g5, g6, g7, g8, g9, g10, g11⟩ := id g
  obtain ⟨⟨hcl, hcr⟩, hl0, hl1⟩ := id st
  have hq0 : 0 ≤ q := by omega
  have hargs : [.agg [rowsAV rows, AV.i q, AV.i la0], .agg [x, AV.i so, AV.i la], AV.i j].map (frz H 0 8) = [.agg [rowsAV rows, AV.i q, AV.i la0], .agg [intsAV c, AV.i so, AV.i la], AV.i j] := by
    show [AV.agg [frz H 0 7 (rowsAV rows), AV.i q, AV.i la0], AV.agg [frz H 0 7 x, AV.i so, AV.i la], AV.i j] = _
    rw [frz_rowsA, hx.frz 5]
  refine ACall_data (fa := fa31) rfl rfl rfl rfl hargs ?_
  have tr : ∀ a0 a1 a2 : AV, env0 fa31.keep [a0, a1, a2] = [(0, a0), (1, a1), (2, a2), (3, .any), (4, .any), (6, .any)] := fun a0 a1 a2 => rfl
  refine W_to (tr _ _ _) ?_; clear tr
  refine at_seq rfl ?_
  refine rg rfl ?_
  refine R_box rfl (by simp (disch := first | omega | (simp only [List.length_map, List.length_append, List.length_set, List.length_cons, List.length_nil, List.length_take, List.length_drop]; omega)) only [go_sem, ↓reduceIte, Nat.reduceEqDiff, reduceCtorEq]; rfl) rfl rfl ?_
  refine R_box rfl (by simp (disch := first | omega | (simp only [List.length_map, List.length_append, List.length_set, List.length_cons, List.length_nil, List.length_take, List.length_drop]; omega)) only [go_sem, ↓reduceIte, Nat.reduceEqDiff, reduceCtorEq]; rfl) rfl rfl ?_
  refine Rq ?_
  have tr : ∀ y0 y1 y2 y3 y4 y6 z0 z1 z2 : AV, trim [(6, z2), (4, z1), (3, z0), (0, y0), (1, y1), (2, y2), (3, y3), (4, y4), (6, y6)] [(0, y0), (1, y1), (2, y2), (3, y3), (4, y4), (6, y6)] = [(0, y0), (1, y1), (2, y2), (3, z0), (4, z1), (6, z2)] := fun y0 y1 y2 y3 y4 y6 z0 z1 z2 => rfl
  refine R_nil (tr _ _ _ _ _ _ _ _ _) ?_; clear tr
  refine then_n ?_
  refine at_seq rfl ?_
  refine rd rfl rfl ?_
  refine Qq ?_
  refine Qq ?_
  refine Qq ?_
  refine Qq ?_
  refine Qq ?_
  refine Qq ?_
  refine Qq ?_
  refine Qp_split (fun h1 => ?_) (fun h1 => ?_)
  · try simp only [decide_eq_true_eq, decide_eq_false_iff_not, Bool.not_eq_true', Bool.not_eq_false', beq_iff_eq, beq_eq_false_iff_ne, ne_eq] at h1
    refine Qy ?_
    refine Qq ?_
    refine Qy ?_
    refine Qq ?_
    refine Qy ?_
    refine Qq ?_
    refine Qy ?_
    refine Qq ?_
    refine Qq ?_
    refine Qq ?_
    refine Qp_split (fun h2 => ?_) (fun h2 => ?_)
    · try simp only [decide_eq_true_eq, decide_eq_false_iff_not, Bool.not_eq_true', Bool.not_eq_false', beq_iff_eq, beq_eq_false_iff_ne, ne_eq] at h2
      refine Qy ?_
      refine Qq ?_
      refine Qy ?_
      refine Qq ?_
      refine Qy ?_
      refine Qq ?_
      refine Qy ?_
      refine Qq ?_
      refine Qy ?_
      refine Qq ?_
      refine Qy ?_
      refine Qq ?_
      refine Qy ?_
      refine Qq ?_
      refine Qy ?_
      refine Qq ?_
      refine Qq ?_
      refine Qq ?_
      refine Q_nil ?_
      have tr : ∀ y0 y1 y2 y3 y4 y6 z0 z1 z2 z3 z4 z5 z6 z7 z8 z9 z10 z11 z12 z13 z14 z15 z16 z17 z18 z19 z20 z21 z22 : AV, trim [(6, z22), (28, z21), (27, z20), (26, z19), (25, z18), (24, z17), (23, z16), (22, z15), (21, z14), (20, z13), (19, z12), (18, z11), (17, z10), (16, z9), (15, z8), (14, z7), (13, z6), (12, z5), (11, z4), (10, z3), (9, z2), (8, z1), (7, z0), (0, y0), (1, y1), (2, y2), (3, y3), (4, y4), (6, y6)] [(0, y0), (1, y1), (2, y2), (3, y3), (4, y4), (6, y6)] = [(0, y0), (1, y1), (2, y2), (3, y3), (4, y4), (6, z22)] := fun y0 y1 y2 y3 y4 y6 z0 z1 z2 z3 z4 z5 z6 z7 z8 z9 z10 z11 z12 z13 z14 z15 z16 z17 z18 z19 z20 z21 z22 => rfl
      refine R_nil (tr _ _ _ _ _ _ _ _ _ _ _ _ _ _ _ _ _ _ _ _ _ _ _ _ _ _ _ _ _) ?_; clear tr
      refine then_n ?_
      refine at_ret rfl ?_
      refine fpure ?_
      refine ⟨rfl, ?_, rfl⟩
      first | (rw [decide_eq_false (by omega)]; done) | (congr 2; rw [decide_eq_decide]; omega)
    · try simp only [decide_eq_true_eq, decide_eq_false_iff_not, Bool.not_eq_true', Bool.not_eq_false', beq_iff_eq, beq_eq_false_iff_ne, ne_eq] at h2
      refine Qn ?_
      refine Qn ?_
      refine Qn ?_
      refine Qn ?_
      refine Qn ?_
      refine Qn ?_
      refine Qn ?_
      refine Qn ?_
      refine Qq ?_
      refine Qq ?_
      refine Q_nil ?_
      have tr : ∀ y0 y1 y2 y3 y4 y6 z0 z1 z2 z3 z4 z5 z6 z7 z8 z9 z10 z11 z12 z13 z14 z15 z16 z17 z18 z19 z20 z21 z22 : AV, trim [(6, z22), (28, z21), (27, z20), (26, z19), (25, z18), (24, z17), (23, z16), (22, z15), (21, z14), (20, z13), (19, z12), (18, z11), (17, z10), (16, z9), (15, z8), (14, z7), (13, z6), (12, z5), (11, z4), (10, z3), (9, z2), (8, z1), (7, z0), (0, y0), (1, y1), (2, y2), (3, y3), (4, y4), (6, y6)] [(0, y0), (1, y1), (2, y2), (3, y3), (4, y4), (6, y6)] = [(0, y0), (1, y1), (2, y2), (3, y3), (4, y4), (6, z22)] := fun y0 y1 y2 y3 y4 y6 z0 z1 z2 z3 z4 z5 z6 z7 z8 z9 z10 z11 z12 z13 z14 z15 z16 z17 z18 z19 z20 z21 z22 => rfl
      refine R_nil (tr _ _ _ _ _ _ _ _ _ _ _ _ _ _ _ _ _ _ _ _ _ _ _ _ _ _ _ _ _) ?_; clear tr
      refine then_n ?_
      refine at_ret rfl ?_
      refine fpure ?_
      refine ⟨rfl, ?_, rfl⟩
      first | (rw [decide_eq_false (by omega)]; done) | (congr 2; rw [decide_eq_decide]; omega)
  · try simp only [decide_eq_true_eq, decide_eq_false_iff_not, Bool.not_eq_true', Bool.not_eq_false', beq_iff_eq, beq_eq_false_iff_ne, ne_eq] at h1
    refine Qn ?_
    refine Qn ?_
    refine Qn ?_
    refine Qn ?_
    refine Qq ?_
    refine Qq ?_
    refine Qn ?_
    refine Qn ?_
    refine Qn ?_
    refine Qn ?_
    refine Qn ?_
    refine Qn ?_
    refine Qn ?_
    refine Qn ?_
    refine Qq ?_
    refine Qq ?_
    refine Q_nil ?_
    have tr : ∀ y0 y1 y2 y3 y4 y6 z0 z1 z2 z3 z4 z5 z6 z7 z8 z9 z10 z11 z12 z13 z14 z15 z16 z17 z18 z19 z20 z21 z22 : AV, trim [(6, z22), (28, z21), (27, z20), (26, z19), (25, z18), (24, z17), (23, z16), (22, z15), (21, z14), (20, z13), (19, z12), (18, z11), (17, z10), (16, z9), (15, z8), (14, z7), (13, z6), (12, z5), (11, z4), (10, z3), (9, z2), (8, z1), (7, z0), (0, y0), (1, y1), (2, y2), (3, y3), (4, y4), (6, y6)] [(0, y0), (1, y1), (2, y2), (3, y3), (4, y4), (6, y6)] = [(0, y0), (1, y1), (2, y2), (3, y3), (4, y4), (6, z22)] := fun y0 y1 y2 y3 y4 y6 z0 z1 z2 z3 z4 z5 z6 z7 z8 z9 z10 z11 z12 z13 z14 z15 z16 z17 z18 z19 z20 z21 z22 => rfl
    refine R_nil (tr _ _ _ _ _ _ _ _ _ _ _ _ _ _ _ _ _ _ _ _ _ _ _ _ _ _ _ _ _) ?_; clear tr
    refine then_n ?_
    refine at_ret rfl ?_
    refine fpure ?_
    refine ⟨rfl, ?_, rfl⟩
    first | (rw [decide_eq_false (by omega)]; done) | (congr 2; rw [decide_eq_decide]; omega)

theorem rafter_ok (lim : Nat) (H : Heap) (rows : Tb) (q la0 : Int) (g : Good rows q la0) (c : List Int) (la : Int) (st : StOK q (gt rows 0).length c la) (x : AV) (hx : Src H x c) (so : Int) (j : Nat) (hj : j < c.length) (hcj : gt c j < q) :
    ACall sig lim 32 [.agg [rowsAV rows, AV.i q, AV.i la0], .agg [x, AV.i so, AV.i la], AV.i j] H fun r H' => r = AV.i (idxS q (gt rows 0).length (aft c j) j) ∧ H' = H := by
  obtain ⟨g1, g2, g3, g4, g5, g6, g7, g8, g9, g10, g11⟩ := id g
  obtain ⟨⟨hcl, hcr⟩, hl0, hl1⟩ := id st
  have hq0 : 0 ≤ q := by omega
  have hargs : [.agg [rowsAV rows, AV.i q, AV.i la0], .agg [x, AV.i so, AV.i la], AV.i j].map (frz H 0 8) = [.agg [rowsAV rows, AV.i q, AV.i la0], .agg [intsAV c, AV.i so, AV.i la], AV.i j] := by
    show [AV.agg [frz H 0 7 (rowsAV rows), AV.i q, AV.i la0], AV.agg [frz H 0 7 x, AV.i so, AV.i la], AV.i j] = _
    rw [frz_rowsA, hx.frz 5]
  have sta := aft_st st (j := j) (by omega) hcj
  have hal : (aft c j).length = c.length := by simp
  obtain ⟨e1, e2, e3, e4⟩ := enc_bd g sta
  rw [hal] at e3 e4
  refine ACall_data (fa := fa32) rfl rfl rfl rfl hargs ?_
  have tr : ∀ a0 a1 a2 : AV, env0 fa32.keep [a0, a1, a2] = [(0, a0), (1, a1), (2, a2), (3, .any), (4, .any), (6, .any), (7, .any), (8, .any), (9, .any), (15, .any), (25, .any)] := fun a0 a1 a2 => rfl
  refine W_to (tr _ _ _) ?_; clear tr
  refine at_seq rfl ?_
  refine rg rfl ?_
  refine R_box rfl (by simp (disch := first | omega | (simp only [List.length_map, List.length_append, List.length_set, List.length_cons, List.length_nil, List.length_take, List.length_drop]; omega)) only [go_sem, ↓reduceIte, Nat.reduceEqDiff, reduceCtorEq]; rfl) rfl rfl ?_
  refine R_box rfl (by simp (disch := first | omega | (simp only [List.length_map, List.length_append, List.length_set, List.length_cons, List.length_nil, List.length_take, List.length_drop]; omega)) only [go_sem, ↓reduceIte, Nat.reduceEqDiff, reduceCtorEq]; rfl) rfl rfl ?_
  refine Rq ?_
  have tr : ∀ y0 y1 y2 y3 y4 y6 y7 y8 y9 y15 y25 z0 z1 z2 : AV, trim [(6, z2), (4, z1), (3, z0), (0, y0), (1, y1), (2, y2), (3, y3), (4, y4), (6, y6), (7, y7), (8, y8), (9, y9), (15, y15), (25, y25)] [(0, y0), (1, y1), (2, y2), (3, y3), (4, y4), (6, y6), (7, y7), (8, y8), (9, y9), (15, y15), (25, y25)] = [(0, y0), (1, y1), (2, y2), (3, z0), (4, z1), (6, z2), (7, y7), (8, y8), (9, y9), (15, y15), (25, y25)] := fun y0 y1 y2 y3 y4 y6 y7 y8 y9 y15 y25 z0 z1 z2 => rfl
  refine R_nil (tr _ _ _ _ _ _ _ _ _ _ _ _ _ _) ?_; clear tr
  refine then_n ?_
  refine at_seq rfl ?_
  refine rg rfl ?_
  refine Rq ?_
  have tr : ∀ y0 y1 y2 y3 y4 y6 y7 y8 y9 y15 y25 z0 : AV, trim [(7, z0), (0, y0), (1, y1), (2, y2), (3, y3), (4, y4), (6, y6), (7, y7), (8, y8), (9, y9), (15, y15), (25, y25)] [(0, y0), (1, y1), (2, y2), (3, y3), (4, y4), (6, y6), (7, y7), (8, y8), (9, y9), (15, y15), (25, y25)] = [(0, y0), (1, y1), (2, y2), (3, y3), (4, y4), (6, y6), (7, z0), (8, y8), (9, y9), (15, y15), (25, y25)] := fun y0 y1 y2 y3 y4 y6 y7 y8 y9 y15 y25 z0 => rfl
  refine R_nil (tr _ _ _ _ _ _ _ _ _ _ _ _) ?_; clear tr
  refine then_n ?_
  refine at_seq rfl ?_
  refine at_seq rfl ?_
  refine rg rfl ?_
  refine Rq ?_
  refine Rq ?_
  refine Rq ?_
  refine Rq ?_
  refine Rq ?_
  have tr : ∀ y0 y1 y2 y3 y4 y6 y7 y8 y9 y15 y25 z0 z1 z2 z3 z4 : AV, trim [(8, z4), (13, z3), (12, z2), (11, z1), (10, z0), (0, y0), (1, y1), (2, y2), (3, y3), (4, y4), (6, y6), (7, y7), (8, y8), (9, y9), (15, y15), (25, y25)] [(0, y0), (1, y1), (2, y2), (3, y3), (4, y4), (6, y6), (7, y7), (8, y8), (9, y9), (15, y15), (25, y25)] = [(0, y0), (1, y1), (2, y2), (3, y3), (4, y4), (6, y6), (7, y7), (8, z4), (9, y9), (15, y15), (25, y25)] := fun y0 y1 y2 y3 y4 y6 y7 y8 y9 y15 y25 z0 z1 z2 z3 z4 => rfl
  refine R_nil (tr _ _ _ _ _ _ _ _ _ _ _ _ _ _ _ _) ?_; clear tr
  refine then_n ?_
  refine at_block rfl ?_
  refine loop_n rfl (fun mm kv H' => ∃ k : Nat, ∃ z : Int, ∃ n : Int, ∃ x9 x15 x25 : AV, (kv = [(7, AV.i n), (8, AV.i z), (9, x9), (15, x15), (25, x25)]) ∧ (mm = k) ∧ (H' = [] ++ [some [rowsAV rows, AV.i q, AV.i la0]] ++ [some [intsAV c, AV.i so, AV.i la]]) ∧ (k ≤ c.length) ∧ (z = (k : Int) - 1) ∧ (n = encC q ((aft c j).drop k))) ⟨c.length, ((c.length : Int) - 1), 0, _, _, _, rfl, rfl, rfl, by omega, by omega, by rw [← hal, List.drop_length]; rfl⟩ (by rfl) ?_
  rintro mm kv H' ⟨k, z, n, x9, x15, x25, rfl, rfl, rfl, hk, hz, hn⟩
  have tr : ∀ y0 y1 y2 y3 y4 y6 y7 y8 y9 y15 y25 z7 z8 z9 z15 z25 : AV, upd [(0, y0), (1, y1), (2, y2), (3, y3), (4, y4), (6, y6), (7, y7), (8, y8), (9, y9), (15, y15), (25, y25)] [(7, z7), (8, z8), (9, z9), (15, z15), (25, z25)] = [(0, y0), (1, y1), (2, y2), (3, y3), (4, y4), (6, y6), (7, z7), (8, z8), (9, z9), (15, z15), (25, z25)] := fun y0 y1 y2 y3 y4 y6 y7 y8 y9 y15 y25 z7 z8 z9 z15 z25 => rfl
  refine W_to (tr _ _ _ _ _ _ _ _ _ _ _ _ _ _ _ _) ?_; clear tr
  refine at_seq rfl ?_
  refine at_seq rfl ?_
  refine rg rfl ?_
  refine Rq ?_
  refine Rq ?_
  have tr : ∀ y0 y1 y2 y3 y4 y6 y7 y8 y9 y15 y25 z0 z1 : AV, trim [(15, z1), (14, z0), (0, y0), (1, y1), (2, y2), (3, y3), (4, y4), (6, y6), (7, y7), (8, y8), (9, y9), (15, y15), (25, y25)] [(0, y0), (1, y1), (2, y2), (3, y3), (4, y4), (6, y6), (7, y7), (8, y8), (9, y9), (15, y15), (25, y25)] = [(0, y0), (1, y1), (2, y2), (3, y3), (4, y4), (6, y6), (7, y7), (8, y8), (9, y9), (15, z1), (25, y25)] := fun y0 y1 y2 y3 y4 y6 y7 y8 y9 y15 y25 z0 z1 => rfl
  refine R_nil (tr _ _ _ _ _ _ _ _ _ _ _ _ _) ?_; clear tr
  refine then_n ?_
  refine cdd (fun h1 => ?_) (fun h1 => ?_)
  · try simp only [decide_eq_true_eq, decide_eq_false_iff_not, Bool.not_eq_true', Bool.not_eq_false', beq_iff_eq, beq_eq_false_iff_ne, ne_eq] at h1
    refine at_skip rfl ?_
    refine then_n ?_
    refine at_seq rfl ?_
    refine at_block rfl ?_
    refine at_seq rfl ?_
    refine rg rfl ?_
    obtain ⟨w, hw⟩ := Int.eq_ofNat_of_zero_le (by omega : 0 ≤ z)
    obtain hkw : mm = w + 1 := by omega
    subst hw
    subst hkw
    have hcw := okc_gt st.c (j := w) (by omega)
    have hcw2 := okc_gt sta.c (j := w) (by omega)
    have hed := enc_drop (q := q) (c := aft c j) (j := w) (by omega)
    have her := enc_rng hq0 ((aft c j).drop (w + 1)) (okc_drop sta.c (w + 1))
    have het := enc_tail hq0 (aft c j) sta.c.2 w
    rw [Int.mul_comm] at hed
    have hep : 0 ≤ encC q ((aft c j).drop (w + 1)) * (q + 1) := Int.mul_nonneg her.1 (by omega)
    have hga : gt (aft c j) w = if j = w then gt c j + 1 else gt c w := gt_set _ _ _ _ (by omega)
    subst hn
    refine Rq ?_
    refine Rq ?_
    refine Rq ?_
    refine Rq ?_
    refine Rq ?_
    refine Rq ?_
    have tr : ∀ y0 y1 y2 y3 y4 y6 y7 y8 y9 y15 y25 z0 z1 z2 z3 z4 z5 : AV, trim [(9, z5), (22, z4), (21, z3), (20, z2), (19, z1), (18, z0), (0, y0), (1, y1), (2, y2), (3, y3), (4, y4), (6, y6), (7, y7), (8, y8), (9, y9), (15, y15), (25, y25)] [(0, y0), (1, y1), (2, y2), (3, y3), (4, y4), (6, y6), (7, y7), (8, y8), (9, y9), (15, y15), (25, y25)] = [(0, y0), (1, y1), (2, y2), (3, y3), (4, y4), (6, y6), (7, y7), (8, y8), (9, z5), (15, y15), (25, y25)] := fun y0 y1 y2 y3 y4 y6 y7 y8 y9 y15 y25 z0 z1 z2 z3 z4 z5 => rfl
    refine R_nil (tr _ _ _ _ _ _ _ _ _ _ _ _ _ _ _ _ _) ?_; clear tr
    refine then_n ?_
    refine at_seq rfl ?_
    refine at_seq rfl ?_
    refine rg rfl ?_
    refine Rq ?_
    refine Rq ?_
    refine Rq ?_
    have tr : ∀ y0 y1 y2 y3 y4 y6 y7 y8 y9 y15 y25 z0 z1 z2 : AV, trim [(25, z2), (24, z1), (23, z0), (0, y0), (1, y1), (2, y2), (3, y3), (4, y4), (6, y6), (7, y7), (8, y8), (9, y9), (15, y15), (25, y25)] [(0, y0), (1, y1), (2, y2), (3, y3), (4, y4), (6, y6), (7, y7), (8, y8), (9, y9), (15, y15), (25, y25)] = [(0, y0), (1, y1), (2, y2), (3, y3), (4, y4), (6, y6), (7, y7), (8, y8), (9, y9), (15, y15), (25, z2)] := fun y0 y1 y2 y3 y4 y6 y7 y8 y9 y15 y25 z0 z1 z2 => rfl
    refine R_nil (tr _ _ _ _ _ _ _ _ _ _ _ _ _ _) ?_; clear tr
    refine then_n ?_
    refine cdd (fun h2 => ?_) (fun h2 => ?_)
    · try simp only [decide_eq_true_eq, decide_eq_false_iff_not, Bool.not_eq_true', Bool.not_eq_false', beq_iff_eq, beq_eq_false_iff_ne, ne_eq] at h2
      refine rg rfl ?_
      refine Rq ?_
      refine Rq ?_
      refine Rq ?_
      have tr : ∀ y0 y1 y2 y3 y4 y6 y7 y8 y9 y15 y25 z0 z1 z2 : AV, trim [(9, z2), (27, z1), (26, z0), (0, y0), (1, y1), (2, y2), (3, y3), (4, y4), (6, y6), (7, y7), (8, y8), (9, y9), (15, y15), (25, y25)] [(0, y0), (1, y1), (2, y2), (3, y3), (4, y4), (6, y6), (7, y7), (8, y8), (9, y9), (15, y15), (25, y25)] = [(0, y0), (1, y1), (2, y2), (3, y3), (4, y4), (6, y6), (7, y7), (8, y8), (9, z2), (15, y15), (25, y25)] := fun y0 y1 y2 y3 y4 y6 y7 y8 y9 y15 y25 z0 z1 z2 => rfl
      refine R_nil (tr _ _ _ _ _ _ _ _ _ _ _ _ _ _) ?_; clear tr
      refine then_n ?_
      refine rg rfl ?_
      refine Rq ?_
      refine Rq ?_
      refine Rq ?_
      refine Rq ?_
      refine Rq ?_
      refine Rq ?_
      refine Rq ?_
      refine Rq ?_
      have tr : ∀ y0 y1 y2 y3 y4 y6 y7 y8 y9 y15 y25 z0 z1 z2 z3 z4 z5 z6 z7 : AV, trim [(7, z7), (34, z6), (33, z5), (32, z4), (31, z3), (30, z2), (29, z1), (28, z0), (0, y0), (1, y1), (2, y2), (3, y3), (4, y4), (6, y6), (7, y7), (8, y8), (9, y9), (15, y15), (25, y25)] [(0, y0), (1, y1), (2, y2), (3, y3), (4, y4), (6, y6), (7, y7), (8, y8), (9, y9), (15, y15), (25, y25)] = [(0, y0), (1, y1), (2, y2), (3, y3), (4, y4), (6, y6), (7, z7), (8, y8), (9, y9), (15, y15), (25, y25)] := fun y0 y1 y2 y3 y4 y6 y7 y8 y9 y15 y25 z0 z1 z2 z3 z4 z5 z6 z7 => rfl
      refine R_nil (tr _ _ _ _ _ _ _ _ _ _ _ _ _ _ _ _ _ _ _) ?_; clear tr
      refine blk_n ?_
      refine then_n ?_
      refine rg rfl ?_
      refine Rq ?_
      refine Rq ?_
      refine Rq ?_
      have tr : ∀ y0 y1 y2 y3 y4 y6 y7 y8 y9 y15 y25 z0 z1 z2 : AV, trim [(8, z2), (17, z1), (16, z0), (0, y0), (1, y1), (2, y2), (3, y3), (4, y4), (6, y6), (7, y7), (8, y8), (9, y9), (15, y15), (25, y25)] [(0, y0), (1, y1), (2, y2), (3, y3), (4, y4), (6, y6), (7, y7), (8, y8), (9, y9), (15, y15), (25, y25)] = [(0, y0), (1, y1), (2, y2), (3, y3), (4, y4), (6, y6), (7, y7), (8, z2), (9, y9), (15, y15), (25, y25)] := fun y0 y1 y2 y3 y4 y6 y7 y8 y9 y15 y25 z0 z1 z2 => rfl
      refine R_nil (tr _ _ _ _ _ _ _ _ _ _ _ _ _ _) ?_; clear tr
      refine then_n ?_
      exact ⟨_, _, ⟨w, ((w : Int) - 1), (encC q ((aft c j).drop (w + 1)) * (q + 1) + (gt c w + 1)), _, _, _, rfl, rfl, rfl, by omega, by rfl, by rw [hed, hga]; first | (rw [if_pos (by omega), show j = w by omega]; omega) | (rw [if_neg (by omega)]; omega)⟩, by rfl, by omega⟩
    · try simp only [decide_eq_true_eq, decide_eq_false_iff_not, Bool.not_eq_true', Bool.not_eq_false', beq_iff_eq, beq_eq_false_iff_ne, ne_eq] at h2
      refine at_skip rfl ?_
      refine then_n ?_
      refine rg rfl ?_
      refine Rq ?_
      refine Rq ?_
      refine Rq ?_
      refine Rq ?_
      refine Rq ?_
      refine Rq ?_
      refine Rq ?_
      refine Rq ?_
      have tr : ∀ y0 y1 y2 y3 y4 y6 y7 y8 y9 y15 y25 z0 z1 z2 z3 z4 z5 z6 z7 : AV, trim [(7, z7), (34, z6), (33, z5), (32, z4), (31, z3), (30, z2), (29, z1), (28, z0), (0, y0), (1, y1), (2, y2), (3, y3), (4, y4), (6, y6), (7, y7), (8, y8), (9, y9), (15, y15), (25, y25)] [(0, y0), (1, y1), (2, y2), (3, y3), (4, y4), (6, y6), (7, y7), (8, y8), (9, y9), (15, y15), (25, y25)] = [(0, y0), (1, y1), (2, y2), (3, y3), (4, y4), (6, y6), (7, z7), (8, y8), (9, y9), (15, y15), (25, y25)] := fun y0 y1 y2 y3 y4 y6 y7 y8 y9 y15 y25 z0 z1 z2 z3 z4 z5 z6 z7 => rfl
      refine R_nil (tr _ _ _ _ _ _ _ _ _ _ _ _ _ _ _ _ _ _ _) ?_; clear tr
      refine blk_n ?_
      refine then_n ?_
      refine rg rfl ?_
      refine Rq ?_
      refine Rq ?_
      refine Rq ?_
      have tr : ∀ y0 y1 y2 y3 y4 y6 y7 y8 y9 y15 y25 z0 z1 z2 : AV, trim [(8, z2), (17, z1), (16, z0), (0, y0), (1, y1), (2, y2), (3, y3), (4, y4), (6, y6), (7, y7), (8, y8), (9, y9), (15, y15), (25, y25)] [(0, y0), (1, y1), (2, y2), (3, y3), (4, y4), (6, y6), (7, y7), (8, y8), (9, y9), (15, y15), (25, y25)] = [(0, y0), (1, y1), (2, y2), (3, y3), (4, y4), (6, y6), (7, y7), (8, z2), (9, y9), (15, y15), (25, y25)] := fun y0 y1 y2 y3 y4 y6 y7 y8 y9 y15 y25 z0 z1 z2 => rfl
      refine R_nil (tr _ _ _ _ _ _ _ _ _ _ _ _ _ _) ?_; clear tr
      refine then_n ?_
      exact ⟨_, _, ⟨w, ((w : Int) - 1), (encC q ((aft c j).drop (w + 1)) * (q + 1) + gt c w), _, _, _, rfl, rfl, rfl, by omega, by rfl, by rw [hed, hga]; first | (rw [if_pos (by omega), show j = w by omega]; omega) | (rw [if_neg (by omega)]; omega)⟩, by rfl, by omega⟩
  · try simp only [decide_eq_true_eq, decide_eq_false_iff_not, Bool.not_eq_true', Bool.not_eq_false', beq_iff_eq, beq_eq_false_iff_ne, ne_eq] at h1
    refine at_exit rfl ?_
    refine then_x ?_
    refine then_x ?_
    refine blk_x ?_
    refine then_n ?_
    refine at_seq rfl ?_
    refine rg rfl ?_
    have hk0 : mm = 0 := by omega
    subst hk0
    rw [List.drop_zero] at hn
    subst hn
    refine Rq ?_
    refine Rq ?_
    refine Rq ?_
    refine Rq ?_
    refine Rq ?_
    refine Rq ?_
    refine Rq ?_
    refine Rq ?_
    refine Rq ?_
    refine Rq ?_
    have tr : ∀ y0 y1 y2 y3 y4 y6 y7 y8 y9 y15 y25 z0 z1 z2 z3 z4 z5 z6 z7 z8 z9 : AV, trim [(6, z9), (43, z8), (42, z7), (41, z6), (40, z5), (39, z4), (38, z3), (37, z2), (36, z1), (35, z0), (0, y0), (1, y1), (2, y2), (3, y3), (4, y4), (6, y6), (7, y7), (8, y8), (9, y9), (15, y15), (25, y25)] [(0, y0), (1, y1), (2, y2), (3, y3), (4, y4), (6, y6), (7, y7), (8, y8), (9, y9), (15, y15), (25, y25)] = [(0, y0), (1, y1), (2, y2), (3, y3), (4, y4), (6, z9), (7, y7), (8, y8), (9, y9), (15, y15), (25, y25)] := fun y0 y1 y2 y3 y4 y6 y7 y8 y9 y15 y25 z0 z1 z2 z3 z4 z5 z6 z7 z8 z9 => rfl
    refine R_nil (tr _ _ _ _ _ _ _ _ _ _ _ _ _ _ _ _ _ _ _ _ _) ?_; clear tr
    refine then_n ?_
    refine at_ret rfl ?_
    refine fpure ?_
    refine ⟨rfl, ?_, rfl⟩
    rw [idxS, ← hcl]

end Go.Proofs.Ytmkalakojfpfgaa
