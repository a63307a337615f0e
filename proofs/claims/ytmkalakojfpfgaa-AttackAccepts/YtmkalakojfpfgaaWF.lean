/-
  Walks of chapter 46. The steps are written by program (walk.py).
-/
import Derived.Test.YtmkalakojfpfgaaQ4
set_option linter.unusedSimpArgs false
set_option linter.unusedVariables false
set_option maxHeartbeats 40000000
set_option maxRecDepth 4000
namespace Go.Proofs.Ytmkalakojfpfgaa
open Go Go.Am

theorem at_ok (lim : Nat) (H : Heap) (rows : Tb) (q la0 : Int) (g : Good rows q la0) (k : Int) (hk0 : 0 ≤ k) (hk1 : k ≤ 200000) :
    ACall sig lim 30 [.agg [rowsAV rows, AV.i q, AV.i la0], AV.i k] H fun r H' => r = .agg [intsAV (decc q (gt rows 0).length k), AV.i (sumL (decc q (gt rows 0).length k)), AV.i (decl (gt rows 0).length k)] ∧ H' = H := by
  obtain ⟨g1, g2, g3, g4, g5, g6, g7, g8, g9, g10, g11⟩ := id g
  have hq0 : 0 ≤ q := by omega
  have q0 : True := trivial
  have qo : True := trivial
  have qt : True := trivial
  refine ACall_pure (fa := fa30) rfl rfl rfl rfl ?_
  have tr : ∀ a0 a1 : AV, env0 fa30.keep [a0, a1] = [(0, a0), (1, a1), (2, .any), (4, .any), (5, .any), (6, .any), (7, .any), (23, .any), (24, .any), (25, .any)] := fun a0 a1 => rfl
  refine W_to (tr _ _) ?_; clear tr
  refine at_seq rfl ?_
  refine rg rfl ?_
  refine A_box rfl (by simp (disch := first | omega | (simp only [List.length_map, List.length_append, List.length_set, List.length_cons, List.length_nil, List.length_take, List.length_drop]; omega)) only [go_sem, ↓reduceIte, Nat.reduceEqDiff, reduceCtorEq]; rfl) ?_
  intro H1 n1
  have en1 := n1.len
  have q0 := n1.new
  refine A_alloc rfl ?_
  intro H2 n2
  have en2 := n2.len
  have q0 := (n2.old _ (hget_lt q0)).trans q0
  have qo := n2.new
  have tr : ∀ y0 y1 y2 y4 y5 y6 y7 y23 y24 y25 z0 z1 : AV, trim [(4, z1), (2, z0), (0, y0), (1, y1), (2, y2), (4, y4), (5, y5), (6, y6), (7, y7), (23, y23), (24, y24), (25, y25)] [(0, y0), (1, y1), (2, y2), (4, y4), (5, y5), (6, y6), (7, y7), (23, y23), (24, y24), (25, y25)] = [(0, y0), (1, y1), (2, z0), (4, z1), (5, y5), (6, y6), (7, y7), (23, y23), (24, y24), (25, y25)] := fun y0 y1 y2 y4 y5 y6 y7 y23 y24 y25 z0 z1 => rfl
  refine R_nil (tr _ _ _ _ _ _ _ _ _ _ _ _) ?_; clear tr
  refine then_n ?_
  refine at_seq rfl ?_
  refine rg rfl ?_
  refine Rq ?_
  refine R_q rfl (by simp (disch := first | omega | (simp only [List.length_map, List.length_append, List.length_set, List.length_cons, List.length_nil, List.length_take, List.length_drop]; omega)) only [go_sem, ↓reduceIte, Nat.reduceEqDiff, reduceCtorEq, q0, qo, qt]; rfl) ?_
  refine Rq ?_
  refine R_q rfl (by simp (disch := first | omega | (simp only [List.length_map, List.length_append, List.length_set, List.length_cons, List.length_nil, List.length_take, List.length_drop]; omega)) only [go_sem, ↓reduceIte, Nat.reduceEqDiff, reduceCtorEq, q0, qo, qt]; rfl) ?_
  refine Rq ?_
  refine Rq ?_
  have tr : ∀ y0 y1 y2 y4 y5 y6 y7 y23 y24 y25 z0 z1 z2 z3 z4 z5 : AV, trim [(5, z5), (12, z4), (11, z3), (10, z2), (9, z1), (8, z0), (0, y0), (1, y1), (2, y2), (4, y4), (5, y5), (6, y6), (7, y7), (23, y23), (24, y24), (25, y25)] [(0, y0), (1, y1), (2, y2), (4, y4), (5, y5), (6, y6), (7, y7), (23, y23), (24, y24), (25, y25)] = [(0, y0), (1, y1), (2, y2), (4, y4), (5, z5), (6, y6), (7, y7), (23, y23), (24, y24), (25, y25)] := fun y0 y1 y2 y4 y5 y6 y7 y23 y24 y25 z0 z1 z2 z3 z4 z5 => rfl
  refine R_nil (tr _ _ _ _ _ _ _ _ _ _ _ _ _ _ _ _) ?_; clear tr
  refine then_n ?_
  refine at_seq rfl ?_
  refine rg rfl ?_
  have hm0 := Int.emod_nonneg k (show (((gt rows 0).length : Nat) : Int) + 1 ≠ 0 by omega)
  have hm1 := Int.emod_lt_of_pos k (show 0 < (((gt rows 0).length : Nat) : Int) + 1 by omega)
  refine Rq ?_
  refine Rq ?_
  refine Rq ?_
  refine Rq ?_
  refine Rq ?_
  refine Rq ?_
  refine A_alloc rfl ?_
  intro H3 n3
  have en3 := n3.len
  have q0 := (n3.old _ (hget_lt q0)).trans q0
  have qo := (n3.old _ (hget_lt qo)).trans qo
  have qt := n3.new
  have lq0 := hget_lt q0
  have lqo := hget_lt qo
  have lqt := hget_lt qt
  refine A_store ty55 (by simp (disch := first | omega | (simp only [List.length_map, List.length_append, List.length_set, List.length_cons, List.length_nil, List.length_take, List.length_drop]; omega)) only [go_sem, ↓reduceIte, Nat.reduceEqDiff, reduceCtorEq, q0, qo, qt]; rfl) (by simp (disch := first | omega | (simp only [List.length_map, List.length_append, List.length_set, List.length_cons, List.length_nil, List.length_take, List.length_drop]; omega)) only [go_sem, ↓reduceIte, Nat.reduceEqDiff, reduceCtorEq, q0, qo, qt]; rfl) qt ⟨by omega, rfl, by first | exact Nat.le_refl _ | simp⟩ (show _ = [nilI, AV.i 0, AV.i (decl (gt rows 0).length k)] from rfl) ?_
  intro H4 w4
  have ew4 := w4.len
  have q0 := (w4.old _ (by omega)).trans q0
  have qo := (w4.old _ (by omega)).trans qo
  have qt := w4.new
  have tr : ∀ y0 y1 y2 y4 y5 y6 y7 y23 y24 y25 z0 z1 z2 z3 z4 z5 z6 : AV, trim [(6, z6), (18, z5), (17, z4), (16, z3), (15, z2), (14, z1), (13, z0), (0, y0), (1, y1), (2, y2), (4, y4), (5, y5), (6, y6), (7, y7), (23, y23), (24, y24), (25, y25)] [(0, y0), (1, y1), (2, y2), (4, y4), (5, y5), (6, y6), (7, y7), (23, y23), (24, y24), (25, y25)] = [(0, y0), (1, y1), (2, y2), (4, y4), (5, y5), (6, z6), (7, y7), (23, y23), (24, y24), (25, y25)] := fun y0 y1 y2 y4 y5 y6 y7 y23 y24 y25 z0 z1 z2 z3 z4 z5 z6 => rfl
  refine R_nil (tr _ _ _ _ _ _ _ _ _ _ _ _ _ _ _ _ _) ?_; clear tr
  refine then_n ?_
  refine at_seq rfl ?_
  refine rg rfl ?_
  have hz0 := Int.ediv_nonneg hk0 (show 0 ≤ (((gt rows 0).length : Nat) : Int) + 1 by omega)
  have hz1 := Int.ediv_le_self ((((gt rows 0).length : Nat) : Int) + 1) hk0
  refine Rq ?_
  refine Rq ?_
  refine Rq ?_
  refine Rq ?_
  refine Rq ?_
  have tr : ∀ y0 y1 y2 y4 y5 y6 y7 y23 y24 y25 z0 z1 z2 z3 z4 : AV, trim [(1, z4), (22, z3), (21, z2), (20, z1), (19, z0), (0, y0), (1, y1), (2, y2), (4, y4), (5, y5), (6, y6), (7, y7), (23, y23), (24, y24), (25, y25)] [(0, y0), (1, y1), (2, y2), (4, y4), (5, y5), (6, y6), (7, y7), (23, y23), (24, y24), (25, y25)] = [(0, y0), (1, z4), (2, y2), (4, y4), (5, y5), (6, y6), (7, y7), (23, y23), (24, y24), (25, y25)] := fun y0 y1 y2 y4 y5 y6 y7 y23 y24 y25 z0 z1 z2 z3 z4 => rfl
  refine R_nil (tr _ _ _ _ _ _ _ _ _ _ _ _ _ _ _) ?_; clear tr
  refine then_n ?_
  refine at_seq rfl ?_
  refine at_seq rfl ?_
  refine rg rfl ?_
  refine Rq ?_
  refine Rq ?_
  have tr : ∀ y0 y1 y2 y4 y5 y6 y7 y23 y24 y25 z0 z1 : AV, trim [(24, z1), (23, z0), (0, y0), (1, y1), (2, y2), (4, y4), (5, y5), (6, y6), (7, y7), (23, y23), (24, y24), (25, y25)] [(0, y0), (1, y1), (2, y2), (4, y4), (5, y5), (6, y6), (7, y7), (23, y23), (24, y24), (25, y25)] = [(0, y0), (1, y1), (2, y2), (4, y4), (5, y5), (6, y6), (7, y7), (23, z0), (24, z1), (25, y25)] := fun y0 y1 y2 y4 y5 y6 y7 y23 y24 y25 z0 z1 => rfl
  refine R_nil (tr _ _ _ _ _ _ _ _ _ _ _ _) ?_; clear tr
  refine then_n ?_
  refine at_block rfl ?_
  refine loop_n rfl (fun mm kv H' => ∃ u : Nat, ∃ z : Int, ∃ w : List Int, ∃ o : AV, ∃ x7 x25 : AV, (kv = [(1, AV.i z), (7, x7), (24, AV.i u), (25, x25)]) ∧ (mm = (gt rows 0).length - u) ∧ (hget H' H.length = some [rowsAV rows, AV.i q, AV.i la0]) ∧ ((∃ k0, hget H' H1.length = some k0 ∧ k0.length = 3)) ∧ (hget H' H2.length = some [o, AV.i (sumL w), AV.i (decl (gt rows 0).length k)]) ∧ (OutI H3.length H' o w) ∧ (u ≤ (gt rows 0).length) ∧ (w.length = u) ∧ (0 ≤ z) ∧ (z ≤ 200000) ∧ (w ++ decC q ((gt rows 0).length - u) z = decc q (gt rows 0).length k)) ⟨0, (k / ((((gt rows 0).length : Nat) : Int) + 1)), [], nilI, _, _, rfl, rfl, by exact q0, by exact ⟨_, qo, rfl⟩, by exact qt, by exact .inl ⟨rfl, rfl⟩, by omega, by rfl, by omega, by omega, by rfl⟩ (by rfl) ?_
  rintro mm kv HB ⟨u, z, w, o, x7, x25, rfl, rfl, q0, hqo, qt, hO, hu, hw, hz, hzb, hdec⟩
  have tr : ∀ y0 y1 y2 y4 y5 y6 y7 y23 y24 y25 z1 z7 z24 z25 : AV, upd [(0, y0), (1, y1), (2, y2), (4, y4), (5, y5), (6, y6), (7, y7), (23, y23), (24, y24), (25, y25)] [(1, z1), (7, z7), (24, z24), (25, z25)] = [(0, y0), (1, z1), (2, y2), (4, y4), (5, y5), (6, y6), (7, z7), (23, y23), (24, z24), (25, z25)] := fun y0 y1 y2 y4 y5 y6 y7 y23 y24 y25 z1 z7 z24 z25 => rfl
  refine W_to (tr _ _ _ _ _ _ _ _ _ _ _ _ _ _) ?_; clear tr
  obtain ⟨k0, qo, hk0l⟩ := hqo
  have hlt := hget_lt qt
  refine at_seq rfl ?_
  refine rg rfl ?_
  refine Rq ?_
  have tr : ∀ y0 y1 y2 y4 y5 y6 y7 y23 y24 y25 z0 : AV, trim [(25, z0), (0, y0), (1, y1), (2, y2), (4, y4), (5, y5), (6, y6), (7, y7), (23, y23), (24, y24), (25, y25)] [(0, y0), (1, y1), (2, y2), (4, y4), (5, y5), (6, y6), (7, y7), (23, y23), (24, y24), (25, y25)] = [(0, y0), (1, y1), (2, y2), (4, y4), (5, y5), (6, y6), (7, y7), (23, y23), (24, y24), (25, z0)] := fun y0 y1 y2 y4 y5 y6 y7 y23 y24 y25 z0 => rfl
  refine R_nil (tr _ _ _ _ _ _ _ _ _ _ _) ?_; clear tr
  refine then_n ?_
  refine at_seq rfl ?_
  refine cdd (fun h1 => ?_) (fun h1 => ?_)
  · try simp only [decide_eq_true_eq, decide_eq_false_iff_not, Bool.not_eq_true', Bool.not_eq_false', beq_iff_eq, beq_eq_false_iff_ne, ne_eq] at h1
    refine at_skip rfl ?_
    refine then_n ?_
    refine at_seq rfl ?_
    refine at_block rfl ?_
    refine at_seq rfl ?_
    refine rg rfl ?_
    have hr0 := Int.emod_nonneg z (show q + 1 ≠ 0 by omega)
    have hr1 := Int.emod_lt_of_pos z (show 0 < q + 1 by omega)
    have hy0 := Int.ediv_nonneg hz (show 0 ≤ q + 1 by omega)
    have hy1 := Int.ediv_le_self (q + 1) hz
    have hws := sum_le (q := 12) w (fun y hy => by have := dec_rng hq0 (gt rows 0).length (k / ((((gt rows 0).length : Nat) : Int) + 1)) y (show y ∈ decc q (gt rows 0).length k from by rw [← hdec]; exact List.mem_append_left _ hy); omega)
    refine Rq ?_
    refine Rq ?_
    refine R_q rfl (by simp (disch := first | omega | (simp only [List.length_map, List.length_append, List.length_set, List.length_cons, List.length_nil, List.length_take, List.length_drop]; omega)) only [go_sem, ↓reduceIte, Nat.reduceEqDiff, reduceCtorEq, q0, qo, qt]; rfl) ?_
    refine Rq ?_
    refine Rq ?_
    refine Rq ?_
    have tr : ∀ y0 y1 y2 y4 y5 y6 y7 y23 y24 y25 z0 z1 z2 z3 z4 z5 : AV, trim [(7, z5), (30, z4), (29, z3), (28, z2), (27, z1), (26, z0), (0, y0), (1, y1), (2, y2), (4, y4), (5, y5), (6, y6), (7, y7), (23, y23), (24, y24), (25, y25)] [(0, y0), (1, y1), (2, y2), (4, y4), (5, y5), (6, y6), (7, y7), (23, y23), (24, y24), (25, y25)] = [(0, y0), (1, y1), (2, y2), (4, y4), (5, y5), (6, y6), (7, z5), (23, y23), (24, y24), (25, y25)] := fun y0 y1 y2 y4 y5 y6 y7 y23 y24 y25 z0 z1 z2 z3 z4 z5 => rfl
    refine R_nil (tr _ _ _ _ _ _ _ _ _ _ _ _ _ _ _ _) ?_; clear tr
    refine then_n ?_
    refine at_seq rfl ?_
    refine rg rfl ?_
    refine Rq ?_
    refine Rq ?_
    refine R_q rfl (by simp (disch := first | omega | (simp only [List.length_map, List.length_append, List.length_set, List.length_cons, List.length_nil, List.length_take, List.length_drop]; omega)) only [go_sem, ↓reduceIte, Nat.reduceEqDiff, reduceCtorEq, q0, qo, qt]; rfl) ?_
    refine Rq ?_
    refine Rq ?_
    refine Rq ?_
    have tr : ∀ y0 y1 y2 y4 y5 y6 y7 y23 y24 y25 z0 z1 z2 z3 z4 z5 : AV, trim [(1, z5), (35, z4), (34, z3), (33, z2), (32, z1), (31, z0), (0, y0), (1, y1), (2, y2), (4, y4), (5, y5), (6, y6), (7, y7), (23, y23), (24, y24), (25, y25)] [(0, y0), (1, y1), (2, y2), (4, y4), (5, y5), (6, y6), (7, y7), (23, y23), (24, y24), (25, y25)] = [(0, y0), (1, z5), (2, y2), (4, y4), (5, y5), (6, y6), (7, y7), (23, y23), (24, y24), (25, y25)] := fun y0 y1 y2 y4 y5 y6 y7 y23 y24 y25 z0 z1 z2 z3 z4 z5 => rfl
    refine R_nil (tr _ _ _ _ _ _ _ _ _ _ _ _ _ _ _ _) ?_; clear tr
    refine then_n ?_
    refine at_seq rfl ?_
    refine rg rfl ?_
    refine Rq ?_
    refine R_q rfl (by simp (disch := first | omega | (simp only [List.length_map, List.length_append, List.length_set, List.length_cons, List.length_nil, List.length_take, List.length_drop]; omega)) only [go_sem, ↓reduceIte, Nat.reduceEqDiff, reduceCtorEq, q0, qo, qt]; rfl) ?_
    refine Rq ?_
    refine A_buildSlice (bs25 _ _ _ _ (z % (q + 1)) (by simp (disch := first | omega | (simp only [List.length_map, List.length_append, List.length_set, List.length_cons, List.length_nil, List.length_take, List.length_drop]; omega)) only [go_sem, ↓reduceIte, Nat.reduceEqDiff, reduceCtorEq, q0, qo, qt])) ?_
    intro HC n5
    have en5 := n5.len
    have q0 := (n5.old _ (hget_lt q0)).trans q0
    have qo := (n5.old _ (hget_lt qo)).trans qo
    have qt := (n5.old _ (hget_lt qt)).trans qt
    have qn := n5.new
    have hO := hO.mono fun b hb k hk => (n5.old _ (hget_lt hk)).trans hk
    have lq0 := hget_lt q0
    have lqo := hget_lt qo
    have lqt := hget_lt qt
    have lqn := hget_lt qn
    obtain ⟨b, hbl, hap⟩ := outI_append (lim := H.length) hO qn (by omega) (by omega) (by omega)
    refine A_append (by simp (disch := first | omega | (simp only [List.length_map, List.length_append, List.length_set, List.length_cons, List.length_nil, List.length_take, List.length_drop]; omega)) only [go_sem, ↓reduceIte, Nat.reduceEqDiff, reduceCtorEq, q0, qo, qt]; exact hap) ?_
    intro HD g6
    have eg6 := g6.len
    have q0 := (g6.old _ (by omega) lq0).trans q0
    have qo := (g6.old _ (by omega) lqo).trans qo
    have qt := (g6.old _ (by omega) lqt).trans qt
    have qw := g6.new
    refine Rq ?_
    have lq0 := hget_lt q0
    have lqo := hget_lt qo
    have lqt := hget_lt qt
    have lqw := hget_lt qw
    refine A_store ty25 (by simp (disch := first | omega | (simp only [List.length_map, List.length_append, List.length_set, List.length_cons, List.length_nil, List.length_take, List.length_drop]; omega)) only [go_sem, ↓reduceIte, Nat.reduceEqDiff, reduceCtorEq, q0, qo, qt]; rfl) (by simp (disch := first | omega | (simp only [List.length_map, List.length_append, List.length_set, List.length_cons, List.length_nil, List.length_take, List.length_drop]; omega)) only [go_sem, ↓reduceIte, Nat.reduceEqDiff, reduceCtorEq, q0, qo, qt]; rfl) qt ⟨by omega, rfl, by first | exact Nat.le_refl _ | (show _ ≤ 3; decide)⟩ (k' := [AV.own 1 HC.length 0 (w.length + 1), AV.i (sumL w), AV.i (decl (gt rows 0).length k)]) rfl ?_
    intro HE w7
    have ew7 := w7.len
    have q0 := (w7.old _ (by omega)).trans q0
    have qo := (w7.old _ (by omega)).trans qo
    have qw := (w7.old _ (by omega)).trans qw
    have qt := w7.new
    have tr : ∀ y0 y1 y2 y4 y5 y6 y7 y23 y24 y25 z0 z1 z2 z3 z4 z5 : AV, trim [(41, z5), (40, z4), (39, z3), (38, z2), (37, z1), (36, z0), (0, y0), (1, y1), (2, y2), (4, y4), (5, y5), (6, y6), (7, y7), (23, y23), (24, y24), (25, y25)] [(0, y0), (1, y1), (2, y2), (4, y4), (5, y5), (6, y6), (7, y7), (23, y23), (24, y24), (25, y25)] = [(0, y0), (1, y1), (2, y2), (4, y4), (5, y5), (6, y6), (7, y7), (23, y23), (24, y24), (25, y25)] := fun y0 y1 y2 y4 y5 y6 y7 y23 y24 y25 z0 z1 z2 z3 z4 z5 => rfl
    refine R_nil (tr _ _ _ _ _ _ _ _ _ _ _ _ _ _ _ _) ?_; clear tr
    refine then_n ?_
    refine rg rfl ?_
    refine Rq ?_
    refine R_q rfl (by simp (disch := first | omega | (simp only [List.length_map, List.length_append, List.length_set, List.length_cons, List.length_nil, List.length_take, List.length_drop]; omega)) only [go_sem, ↓reduceIte, Nat.reduceEqDiff, reduceCtorEq, q0, qo, qt]; rfl) ?_
    refine Rq ?_
    refine Rq ?_
    refine Rq ?_
    have lq0 := hget_lt q0
    have lqo := hget_lt qo
    have lqt := hget_lt qt
    have lqw := hget_lt qw
    refine A_store ty3 (by simp (disch := first | omega | (simp only [List.length_map, List.length_append, List.length_set, List.length_cons, List.length_nil, List.length_take, List.length_drop]; omega)) only [go_sem, ↓reduceIte, Nat.reduceEqDiff, reduceCtorEq, q0, qo, qt]; rfl) (by simp (disch := first | omega | (simp only [List.length_map, List.length_append, List.length_set, List.length_cons, List.length_nil, List.length_take, List.length_drop]; omega)) only [go_sem, ↓reduceIte, Nat.reduceEqDiff, reduceCtorEq, q0, qo, qt]; rfl) qt ⟨by omega, rfl, by first | exact Nat.le_refl _ | (show _ ≤ 3; decide)⟩ (k' := [AV.own 1 HC.length 0 (w.length + 1), AV.i (sumL (w ++ [z % (q + 1)])), AV.i (decl (gt rows 0).length k)]) (by rw [sum_app]; rfl) ?_
    intro HF w8
    have ew8 := w8.len
    have q0 := (w8.old _ (by omega)).trans q0
    have qo := (w8.old _ (by omega)).trans qo
    have qw := (w8.old _ (by omega)).trans qw
    have qt := w8.new
    have tr : ∀ y0 y1 y2 y4 y5 y6 y7 y23 y24 y25 z0 z1 z2 z3 z4 : AV, trim [(46, z4), (45, z3), (44, z2), (43, z1), (42, z0), (0, y0), (1, y1), (2, y2), (4, y4), (5, y5), (6, y6), (7, y7), (23, y23), (24, y24), (25, y25)] [(0, y0), (1, y1), (2, y2), (4, y4), (5, y5), (6, y6), (7, y7), (23, y23), (24, y24), (25, y25)] = [(0, y0), (1, y1), (2, y2), (4, y4), (5, y5), (6, y6), (7, y7), (23, y23), (24, y24), (25, y25)] := fun y0 y1 y2 y4 y5 y6 y7 y23 y24 y25 z0 z1 z2 z3 z4 => rfl
    refine R_nil (tr _ _ _ _ _ _ _ _ _ _ _ _ _ _ _) ?_; clear tr
    refine blk_n ?_
    refine then_n ?_
    refine rg rfl ?_
    refine Rq ?_
    refine Rq ?_
    have tr : ∀ y0 y1 y2 y4 y5 y6 y7 y23 y24 y25 z0 z1 : AV, trim [(24, z1), (47, z0), (0, y0), (1, y1), (2, y2), (4, y4), (5, y5), (6, y6), (7, y7), (23, y23), (24, y24), (25, y25)] [(0, y0), (1, y1), (2, y2), (4, y4), (5, y5), (6, y6), (7, y7), (23, y23), (24, y24), (25, y25)] = [(0, y0), (1, y1), (2, y2), (4, y4), (5, y5), (6, y6), (7, y7), (23, y23), (24, z1), (25, y25)] := fun y0 y1 y2 y4 y5 y6 y7 y23 y24 y25 z0 z1 => rfl
    refine R_nil (tr _ _ _ _ _ _ _ _ _ _ _ _) ?_; clear tr
    refine then_n ?_
    exact ⟨_, _, ⟨u + 1, (z / (q + 1)), (w ++ [z % (q + 1)]), (AV.own 1 HC.length 0 (w.length + 1)), _, _, rfl, rfl, by exact q0, by exact ⟨_, qo, hk0l⟩, by exact qt, by exact (show OutI H3.length HF (AV.own 1 HC.length 0 (w.length + 1)) (w ++ [z % (q + 1)]) from OutI.new qw (by omega) (by rw [List.length_append]; rfl)), by omega, by rw [List.length_append, hw]; rfl, by omega, by omega, by exact dec_nextA (by omega) hdec⟩, by rfl, by omega⟩
  · try simp only [decide_eq_true_eq, decide_eq_false_iff_not, Bool.not_eq_true', Bool.not_eq_false', beq_iff_eq, beq_eq_false_iff_ne, ne_eq] at h1
    refine at_exit rfl ?_
    refine then_x ?_
    refine then_x ?_
    refine blk_x ?_
    refine then_n ?_
    refine at_seq rfl ?_
    refine rg rfl ?_
    refine R_q rfl (by simp (disch := first | omega | (simp only [List.length_map, List.length_append, List.length_set, List.length_cons, List.length_nil, List.length_take, List.length_drop]; omega)) only [go_sem, ↓reduceIte, Nat.reduceEqDiff, reduceCtorEq, q0, qo, qt]; rfl) ?_
    have lq0 := hget_lt q0
    have lqo := hget_lt qo
    have lqt := hget_lt qt
    have hcs := hO.cells.2
    refine A_store ty55 (by simp (disch := first | omega | (simp only [List.length_map, List.length_append, List.length_set, List.length_cons, List.length_nil, List.length_take, List.length_drop]; omega)) only [go_sem, ↓reduceIte, Nat.reduceEqDiff, reduceCtorEq, q0, qo, qt]; rfl) (by simp (disch := first | omega | (simp only [List.length_map, List.length_append, List.length_set, List.length_cons, List.length_nil, List.length_take, List.length_drop]; omega)) only [go_sem, ↓reduceIte, Nat.reduceEqDiff, reduceCtorEq, hcs, q0, qo, qt]; rfl) qo ⟨by omega, rfl, by (rw [hk0l]; exact Nat.le_refl _)⟩ (k' := [o, AV.i (sumL w), AV.i (decl (gt rows 0).length k)]) (by match k0, hk0l with | [_, _, _], _ => rfl) ?_
    intro H7 w9
    have ew9 := w9.len
    have q0 := (w9.old _ (by omega)).trans q0
    have qt := (w9.old _ (by omega)).trans qt
    have qo := w9.new
    have hO := hO.mono fun b hb k hk => (w9.old _ (by have := n3.len; omega)).trans hk
    have tr : ∀ y0 y1 y2 y4 y5 y6 y7 y23 y24 y25 z0 : AV, trim [(48, z0), (0, y0), (1, y1), (2, y2), (4, y4), (5, y5), (6, y6), (7, y7), (23, y23), (24, y24), (25, y25)] [(0, y0), (1, y1), (2, y2), (4, y4), (5, y5), (6, y6), (7, y7), (23, y23), (24, y24), (25, y25)] = [(0, y0), (1, y1), (2, y2), (4, y4), (5, y5), (6, y6), (7, y7), (23, y23), (24, y24), (25, y25)] := fun y0 y1 y2 y4 y5 y6 y7 y23 y24 y25 z0 => rfl
    refine R_nil (tr _ _ _ _ _ _ _ _ _ _ _) ?_; clear tr
    refine then_n ?_
    refine at_ret rfl ?_
    have hub : u = (gt rows 0).length := by omega
    rw [hub, Nat.sub_self, decC, List.append_nil] at hdec
    obtain ⟨bw, rfl, hbw, qw⟩ := hO.resolve_left (fun hh => by rw [hh.1] at hw; simp at hw; omega)
    refine fin_pure (rs := [.cell 4 55]) rfl (by simp only [go_sem, ↓reduceIte, Nat.reduceEqDiff, qo]; rfl) rfl ?_
    refine ⟨?_, rfl⟩
    show AV.agg [frz H7 H.length 7 (.own 1 bw 0 w.length), AV.i (sumL w), AV.i (decl (gt rows 0).length k)] = _
    rw [frz_ownI (l := w) (by omega) qw rfl, hdec]

end Go.Proofs.Ytmkalakojfpfgaa
