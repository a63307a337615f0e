/-
  Walks of chapter 46. The steps are written by program (walk.py).
-/
import Derived.Test.YtmkalakojfpfgaaQ2
set_option linter.unusedSimpArgs false
set_option linter.unusedVariables false
set_option maxHeartbeats 40000000
set_option maxRecDepth 4000
namespace Go.Proofs.Ytmkalakojfpfgaa
open Go Go.Am

theorem decoded_ok (lim : Nat) (H : Heap) (rows : Tb) (q la0 : Int) (g : Good rows q la0) (k : Int) (hk0 : 0 ≤ k) (hk1 : k ≤ 200000) :
    ACall sig lim 25 [.agg [rowsAV rows, AV.i q, AV.i la0], AV.i k] H fun r H' => r = .agg [intsAV (decc q (gt rows 0).length k), AV.i (decl (gt rows 0).length k)] ∧ H' = H := by
  obtain ⟨g1, g2, g3, g4, g5, g6, g7, g8, g9, g10, g11⟩ := id g
  have hq0 : 0 ≤ q := by omega
  have q0 : True := trivial
  have qo : True := trivial
  have qd : True := trivial
  have qt : True := trivial
  refine ACall_pure (fa := fa25) rfl rfl rfl rfl ?_
  have tr : ∀ a0 a1 : AV, env0 fa25.keep [a0, a1] = [(0, a0), (1, a1), (2, .any), (4, .any), (5, .any), (6, .any), (7, .any), (27, .any), (28, .any), (29, .any)] := fun a0 a1 => rfl
  refine W_to (tr _ _) ?_; clear tr
  refine at_seq rfl ?_
  refine rg rfl ?_
  refine A_box rfl (by simp (disch := first | omega | (simp only [List.length_map, List.length_append, List.length_set, List.length_cons, List.length_nil, List.length_take, List.length_drop]; omega)) only [go_sem, ↓reduceIte, Nat.reduceEqDiff, reduceCtorEq]; rfl) ?_
  intro H1 n1
  have en1 := n1.len
  have q0 := n1.new
  refine A_alloc rfl ?_
  intro H2 n2
  have en2 := n2.len
  have q0 := (n2.old _ (hget_lt q0)).trans q0
  have qo := n2.new
  have tr : ∀ y0 y1 y2 y4 y5 y6 y7 y27 y28 y29 z0 z1 : AV, trim [(4, z1), (2, z0), (0, y0), (1, y1), (2, y2), (4, y4), (5, y5), (6, y6), (7, y7), (27, y27), (28, y28), (29, y29)] [(0, y0), (1, y1), (2, y2), (4, y4), (5, y5), (6, y6), (7, y7), (27, y27), (28, y28), (29, y29)] = [(0, y0), (1, y1), (2, z0), (4, z1), (5, y5), (6, y6), (7, y7), (27, y27), (28, y28), (29, y29)] := fun y0 y1 y2 y4 y5 y6 y7 y27 y28 y29 z0 z1 => rfl
  refine R_nil (tr _ _ _ _ _ _ _ _ _ _ _ _) ?_; clear tr
  refine then_n ?_
  refine at_seq rfl ?_
  refine rg rfl ?_
  refine Rq ?_
  refine R_q rfl (by simp (disch := first | omega | (simp only [List.length_map, List.length_append, List.length_set, List.length_cons, List.length_nil, List.length_take, List.length_drop]; omega)) only [go_sem, ↓reduceIte, Nat.reduceEqDiff, reduceCtorEq, q0, qo, qd, qt]; rfl) ?_
  refine Rq ?_
  refine R_q rfl (by simp (disch := first | omega | (simp only [List.length_map, List.length_append, List.length_set, List.length_cons, List.length_nil, List.length_take, List.length_drop]; omega)) only [go_sem, ↓reduceIte, Nat.reduceEqDiff, reduceCtorEq, q0, qo, qd, qt]; rfl) ?_
  refine Rq ?_
  refine Rq ?_
  have tr : ∀ y0 y1 y2 y4 y5 y6 y7 y27 y28 y29 z0 z1 z2 z3 z4 z5 : AV, trim [(5, z5), (12, z4), (11, z3), (10, z2), (9, z1), (8, z0), (0, y0), (1, y1), (2, y2), (4, y4), (5, y5), (6, y6), (7, y7), (27, y27), (28, y28), (29, y29)] [(0, y0), (1, y1), (2, y2), (4, y4), (5, y5), (6, y6), (7, y7), (27, y27), (28, y28), (29, y29)] = [(0, y0), (1, y1), (2, y2), (4, y4), (5, z5), (6, y6), (7, y7), (27, y27), (28, y28), (29, y29)] := fun y0 y1 y2 y4 y5 y6 y7 y27 y28 y29 z0 z1 z2 z3 z4 z5 => rfl
  refine R_nil (tr _ _ _ _ _ _ _ _ _ _ _ _ _ _ _ _) ?_; clear tr
  refine then_n ?_
  refine at_seq rfl ?_
  refine rls2 rfl rfl ?_
  have hm0 := Int.emod_nonneg k (show (((gt rows 0).length : Nat) : Int) + 1 ≠ 0 by omega)
  have hm1 := Int.emod_lt_of_pos k (show 0 < (((gt rows 0).length : Nat) : Int) + 1 by omega)
  refine Lq ?_
  refine Lq ?_
  refine Lq ?_
  refine Lq ?_
  refine Lq ?_
  refine Lq ?_
  refine L_nil ?_
  refine R_makeSlice (ms25 _ _ (gt rows 0).length _ _ _ (by omega) (by simp (disch := first | omega | (simp only [List.length_map, List.length_append, List.length_set, List.length_cons, List.length_nil, List.length_take, List.length_drop]; omega)) only [go_sem, ↓reduceIte, Nat.reduceEqDiff, reduceCtorEq]) (by simp (disch := first | omega | (simp only [List.length_map, List.length_append, List.length_set, List.length_cons, List.length_nil, List.length_take, List.length_drop]; omega)) only [go_sem, ↓reduceIte, Nat.reduceEqDiff, reduceCtorEq])) ?_
  refine Rq ?_
  refine R_alloc (by simp (disch := first | omega | (simp only [List.length_map, List.length_append, List.length_set, List.length_cons, List.length_nil, List.length_take, List.length_drop]; omega)) only [go_sem, ↓reduceIte, Nat.reduceEqDiff, reduceCtorEq, q0, qo, qd, qt]; rfl) rfl (by simp only [List.map_cons, List.map_nil]; rfl) ?_
  refine R_end ⟨?_, ?_⟩
  · skip
    refine ⟨?_, ?_⟩
    · skip
      refine R_makeSlice (ms25 _ _ (gt rows 0).length _ _ _ (by omega) (by simp (disch := first | omega | (simp only [List.length_map, List.length_append, List.length_set, List.length_cons, List.length_nil, List.length_take, List.length_drop]; omega)) only [go_sem, ↓reduceIte, Nat.reduceEqDiff, reduceCtorEq]) (by simp (disch := first | omega | (simp only [List.length_map, List.length_append, List.length_set, List.length_cons, List.length_nil, List.length_take, List.length_drop]; omega)) only [go_sem, ↓reduceIte, Nat.reduceEqDiff, reduceCtorEq])) ?_
      refine R_alloc (by simp (disch := first | omega | (simp only [List.length_map, List.length_append, List.length_set, List.length_cons, List.length_nil, List.length_take, List.length_drop]; omega)) only [go_sem, ↓reduceIte, Nat.reduceEqDiff, reduceCtorEq, q0, qo, qd, qt]; rfl) rfl (by simp only [List.map_cons, List.map_nil]; rfl) ?_
      refine Rq ?_
      refine R_end ?_
      refine two_id (H := H2) (A := ((List.replicate (gt rows 0).length (0 : Int)).map AV.i)) (B := [.v (.slice none 0 0), AV.i 0]) (fun f => ren_ints _ _ _) (fun f => rfl) ?_
      intro t ht
      simp only [List.mem_cons, List.not_mem_nil, or_false] at ht
      rcases ht with rfl | rfl
      · simp only [get_cons, put_some, ↓reduceIte, Nat.reduceEqDiff, ren, List.map_cons, List.map_nil]
        (simp [rnB] <;> rfl)
      · simp only [get_cons, put_some, ↓reduceIte, Nat.reduceEqDiff, ren, List.map_cons, List.map_nil]
        (simp [rnB] <;> rfl)
    refine ⟨?_, ?_⟩
    · skip
      refine R_alloc (by simp (disch := first | omega | (simp only [List.length_map, List.length_append, List.length_set, List.length_cons, List.length_nil, List.length_take, List.length_drop]; omega)) only [go_sem, ↓reduceIte, Nat.reduceEqDiff, reduceCtorEq, q0, qo, qd, qt]; rfl) rfl (by simp only [List.map_cons, List.map_nil]; rfl) ?_
      refine R_makeSlice (ms25 _ _ (gt rows 0).length _ _ _ (by omega) (by simp (disch := first | omega | (simp only [List.length_map, List.length_append, List.length_set, List.length_cons, List.length_nil, List.length_take, List.length_drop]; omega)) only [go_sem, ↓reduceIte, Nat.reduceEqDiff, reduceCtorEq]) (by simp (disch := first | omega | (simp only [List.length_map, List.length_append, List.length_set, List.length_cons, List.length_nil, List.length_take, List.length_drop]; omega)) only [go_sem, ↓reduceIte, Nat.reduceEqDiff, reduceCtorEq])) ?_
      refine Rq ?_
      refine R_end ?_
      refine two_same (H := H2) (A := ((List.replicate (gt rows 0).length (0 : Int)).map AV.i)) (B := [.v (.slice none 0 0), AV.i 0]) (fun f => ren_ints _ _ _) (fun f => rfl) ?_
      intro t ht
      simp only [List.mem_cons, List.not_mem_nil, or_false] at ht
      rcases ht with rfl | rfl
      · simp only [get_cons, put_some, ↓reduceIte, Nat.reduceEqDiff, ren, List.map_cons, List.map_nil]
        (simp [rnB] <;> rfl)
      · simp only [get_cons, put_some, ↓reduceIte, Nat.reduceEqDiff, ren, List.map_cons, List.map_nil]
        (simp [rnB] <;> rfl)
    exact trivial
  rewrite [keep_two]
  refine Rp_env (e' := [(20, _), (6, _), (13, .any), (14, .any), (15, .any), (16, .any), (17, .any), (18, .any), (19, .any), (20, .any), (6, .any), (0, _), (1, _), (2, _), (4, _), (5, _), (6, _), (7, _), (27, _), (28, _), (29, _)]) rfl ?_
  simp only [put_some, get_cons, ↓reduceIte, Nat.reduceEqDiff]
  have n3 := MNew.of H2 ((List.replicate (gt rows 0).length (0 : Int)).map AV.i)
  have n4 := MNew.of (H2 ++ [some ((List.replicate (gt rows 0).length (0 : Int)).map AV.i)]) [.v (.slice none 0 0), AV.i 0]
  generalize (H2 ++ [some ((List.replicate (gt rows 0).length (0 : Int)).map AV.i)]) ++ [some [.v (.slice none 0 0), AV.i 0]] = H4 at n4 ⊢
  generalize H2 ++ [some ((List.replicate (gt rows 0).length (0 : Int)).map AV.i)] = H3 at n3 n4 ⊢
  have en3 := n3.len
  have en4 := n4.len
  have q0 := (n3.old _ (hget_lt q0)).trans q0
  have qo := (n3.old _ (hget_lt qo)).trans qo
  have qd := n3.new
  have q0 := (n4.old _ (hget_lt q0)).trans q0
  have qo := (n4.old _ (hget_lt qo)).trans qo
  have qd := (n4.old _ (hget_lt qd)).trans qd
  have qt := n4.new
  have lq0 := hget_lt q0
  have lqo := hget_lt qo
  have lqd := hget_lt qd
  have lqt := hget_lt qt
  refine A_store ty48 (by simp (disch := first | omega | (simp only [List.length_map, List.length_append, List.length_set, List.length_cons, List.length_nil, List.length_take, List.length_drop]; omega)) only [go_sem, ↓reduceIte, Nat.reduceEqDiff, reduceCtorEq, q0, qo, qd, qt]; rfl) (by simp (disch := first | omega | (simp only [List.length_map, List.length_append, List.length_set, List.length_cons, List.length_nil, List.length_take, List.length_drop]; omega)) only [go_sem, ↓reduceIte, Nat.reduceEqDiff, reduceCtorEq, q0, qo, qd, qt]; rfl) qt ⟨by omega, rfl, by first | exact Nat.le_refl _ | simp⟩ (show _ = [AV.own 1 H2.length 0 (gt rows 0).length, AV.i (decl (gt rows 0).length k)] from rfl) ?_
  intro H5 w5
  have ew5 := w5.len
  have q0 := (w5.old _ (by omega)).trans q0
  have qo := (w5.old _ (by omega)).trans qo
  have qd := (w5.old _ (by omega)).trans qd
  have qt := w5.new
  have tr : ∀ y0 y1 y2 y4 y5 y6 y7 y27 y28 y29 z0 z1 z2 z3 z4 z5 z6 z7 z8 z9 z10 : AV, trim [(20, z10), (6, z9), (13, z8), (14, z7), (15, z6), (16, z5), (17, z4), (18, z3), (19, z2), (20, z1), (6, z0), (0, y0), (1, y1), (2, y2), (4, y4), (5, y5), (6, y6), (7, y7), (27, y27), (28, y28), (29, y29)] [(0, y0), (1, y1), (2, y2), (4, y4), (5, y5), (6, y6), (7, y7), (27, y27), (28, y28), (29, y29)] = [(0, y0), (1, y1), (2, y2), (4, y4), (5, y5), (6, z9), (7, y7), (27, y27), (28, y28), (29, y29)] := fun y0 y1 y2 y4 y5 y6 y7 y27 y28 y29 z0 z1 z2 z3 z4 z5 z6 z7 z8 z9 z10 => rfl
  refine R_nil (tr _ _ _ _ _ _ _ _ _ _ _ _ _ _ _ _ _ _ _ _ _) ?_; clear tr
  refine then_n ?_
  refine at_seq rfl ?_
  refine rg rfl ?_
  have hz0 := Int.ediv_nonneg hk0 (show 0 ≤ (((gt rows 0).length : Nat) : Int) + 1 by omega)
  have hz1 := Int.ediv_le_self ((((gt rows 0).length : Nat) : Int) + 1) hk0
  refine Rq ?_
  refine Rq ?_
  refine Rq ?_
  refine Rq ?_
  refine Rq ?_
  have tr : ∀ y0 y1 y2 y4 y5 y6 y7 y27 y28 y29 z0 z1 z2 z3 z4 : AV, trim [(1, z4), (24, z3), (23, z2), (22, z1), (21, z0), (0, y0), (1, y1), (2, y2), (4, y4), (5, y5), (6, y6), (7, y7), (27, y27), (28, y28), (29, y29)] [(0, y0), (1, y1), (2, y2), (4, y4), (5, y5), (6, y6), (7, y7), (27, y27), (28, y28), (29, y29)] = [(0, y0), (1, z4), (2, y2), (4, y4), (5, y5), (6, y6), (7, y7), (27, y27), (28, y28), (29, y29)] := fun y0 y1 y2 y4 y5 y6 y7 y27 y28 y29 z0 z1 z2 z3 z4 => rfl
  refine R_nil (tr _ _ _ _ _ _ _ _ _ _ _ _ _ _ _) ?_; clear tr
  refine then_n ?_
  refine at_seq rfl ?_
  refine at_seq rfl ?_
  refine rg rfl ?_
  refine Rq ?_
  refine R_q rfl (by simp (disch := first | omega | (simp only [List.length_map, List.length_append, List.length_set, List.length_cons, List.length_nil, List.length_take, List.length_drop]; omega)) only [go_sem, ↓reduceIte, Nat.reduceEqDiff, reduceCtorEq, q0, qo, qd, qt]; rfl) ?_
  refine Rq ?_
  refine Rq ?_
  have tr : ∀ y0 y1 y2 y4 y5 y6 y7 y27 y28 y29 z0 z1 z2 z3 : AV, trim [(28, z3), (27, z2), (26, z1), (25, z0), (0, y0), (1, y1), (2, y2), (4, y4), (5, y5), (6, y6), (7, y7), (27, y27), (28, y28), (29, y29)] [(0, y0), (1, y1), (2, y2), (4, y4), (5, y5), (6, y6), (7, y7), (27, y27), (28, y28), (29, y29)] = [(0, y0), (1, y1), (2, y2), (4, y4), (5, y5), (6, y6), (7, y7), (27, z2), (28, z3), (29, y29)] := fun y0 y1 y2 y4 y5 y6 y7 y27 y28 y29 z0 z1 z2 z3 => rfl
  refine R_nil (tr _ _ _ _ _ _ _ _ _ _ _ _ _ _) ?_; clear tr
  refine then_n ?_
  refine at_block rfl ?_
  refine loop_n rfl (fun mm kv H' => ∃ u : Nat, ∃ z : Int, ∃ D : List Int, ∃ x7 x29 : AV, (kv = [(1, AV.i z), (7, x7), (28, AV.i u), (29, x29)]) ∧ (mm = (gt rows 0).length - u) ∧ (hget H' H.length = some [rowsAV rows, AV.i q, AV.i la0]) ∧ ((∃ k0, hget H' H1.length = some k0 ∧ k0.length = 2)) ∧ (hget H' H2.length = some (D.map AV.i)) ∧ (hget H' H3.length = some [AV.own 1 H2.length 0 (gt rows 0).length, AV.i (decl (gt rows 0).length k)]) ∧ (u ≤ (gt rows 0).length) ∧ (D.length = (gt rows 0).length) ∧ (0 ≤ z) ∧ (z ≤ 200000) ∧ (D.take u ++ decC q ((gt rows 0).length - u) z = decc q (gt rows 0).length k)) ⟨0, (k / ((((gt rows 0).length : Nat) : Int) + 1)), (List.replicate (gt rows 0).length 0), _, _, rfl, rfl, by exact q0, by exact ⟨_, qo, rfl⟩, by exact qd, by exact qt, by omega, by simp, by omega, by omega, by rfl⟩ (by rfl) ?_
  rintro mm kv HB ⟨u, z, D, x7, x29, rfl, rfl, q0, hqo, qd, qt, hu, hD, hz, hzb, hdec⟩
  have tr : ∀ y0 y1 y2 y4 y5 y6 y7 y27 y28 y29 z1 z7 z28 z29 : AV, upd [(0, y0), (1, y1), (2, y2), (4, y4), (5, y5), (6, y6), (7, y7), (27, y27), (28, y28), (29, y29)] [(1, z1), (7, z7), (28, z28), (29, z29)] = [(0, y0), (1, z1), (2, y2), (4, y4), (5, y5), (6, y6), (7, z7), (27, y27), (28, z28), (29, z29)] := fun y0 y1 y2 y4 y5 y6 y7 y27 y28 y29 z1 z7 z28 z29 => rfl
  refine W_to (tr _ _ _ _ _ _ _ _ _ _ _ _ _ _) ?_; clear tr
  obtain ⟨k0, qo, hk0l⟩ := hqo
  refine at_seq rfl ?_
  refine rg rfl ?_
  refine Rq ?_
  have tr : ∀ y0 y1 y2 y4 y5 y6 y7 y27 y28 y29 z0 : AV, trim [(29, z0), (0, y0), (1, y1), (2, y2), (4, y4), (5, y5), (6, y6), (7, y7), (27, y27), (28, y28), (29, y29)] [(0, y0), (1, y1), (2, y2), (4, y4), (5, y5), (6, y6), (7, y7), (27, y27), (28, y28), (29, y29)] = [(0, y0), (1, y1), (2, y2), (4, y4), (5, y5), (6, y6), (7, y7), (27, y27), (28, y28), (29, z0)] := fun y0 y1 y2 y4 y5 y6 y7 y27 y28 y29 z0 => rfl
  refine R_nil (tr _ _ _ _ _ _ _ _ _ _ _) ?_; clear tr
  refine then_n ?_
  refine at_seq rfl ?_
  refine cdd (fun h1 => ?_) (fun h1 => ?_)
  · try simp only [decide_eq_true_eq, decide_eq_false_iff_not, Bool.not_eq_true', Bool.not_eq_false', beq_iff_eq, beq_eq_false_iff_ne, ne_eq] at h1
    refine at_skip rfl ?_
    refine then_n ?_
    refine at_seq rfl ?_
    refine at_block rfl ?_
    refine at_seq rfl ?_
    refine rg rfl ?_
    refine Rq ?_
    refine Rq ?_
    have tr : ∀ y0 y1 y2 y4 y5 y6 y7 y27 y28 y29 z0 z1 : AV, trim [(7, z1), (30, z0), (0, y0), (1, y1), (2, y2), (4, y4), (5, y5), (6, y6), (7, y7), (27, y27), (28, y28), (29, y29)] [(0, y0), (1, y1), (2, y2), (4, y4), (5, y5), (6, y6), (7, y7), (27, y27), (28, y28), (29, y29)] = [(0, y0), (1, y1), (2, y2), (4, y4), (5, y5), (6, y6), (7, z1), (27, y27), (28, y28), (29, y29)] := fun y0 y1 y2 y4 y5 y6 y7 y27 y28 y29 z0 z1 => rfl
    refine R_nil (tr _ _ _ _ _ _ _ _ _ _ _ _) ?_; clear tr
    refine then_n ?_
    refine at_seq rfl ?_
    refine rd rfl rfl ?_
    have hr0 := Int.emod_nonneg z (show q + 1 ≠ 0 by omega)
    have hr1 := Int.emod_lt_of_pos z (show 0 < q + 1 by omega)
    have hy0 := Int.ediv_nonneg hz (show 0 ≤ q + 1 by omega)
    have hy1 := Int.ediv_le_self (q + 1) hz
    refine Qq ?_
    refine Q_q rfl (by simp (disch := first | omega | (simp only [List.length_map, List.length_append, List.length_set, List.length_cons, List.length_nil, List.length_take, List.length_drop]; omega)) only [go_sem, ↓reduceIte, Nat.reduceEqDiff, reduceCtorEq, q0, qo, qd, qt]; rfl) ?_
    refine Qq ?_
    refine Qq ?_
    refine Qq ?_
    refine Q_q rfl (by simp (disch := first | omega | (simp only [List.length_map, List.length_append, List.length_set, List.length_cons, List.length_nil, List.length_take, List.length_drop]; omega)) only [go_sem, ↓reduceIte, Nat.reduceEqDiff, reduceCtorEq, q0, qo, qd, qt]; rfl) ?_
    refine Qq ?_
    refine Qq ?_
    refine Qq ?_
    refine Q_nil ?_
    have lq0 := hget_lt q0
    have lqo := hget_lt qo
    have lqd := hget_lt qd
    have lqt := hget_lt qt
    refine A_store ty3 (by simp (disch := first | omega | (simp only [List.length_map, List.length_append, List.length_set, List.length_cons, List.length_nil, List.length_take, List.length_drop]; omega)) only [go_sem, ↓reduceIte, Nat.reduceEqDiff, reduceCtorEq, q0, qo, qd, qt]; rfl) (by simp (disch := first | omega | (simp only [List.length_map, List.length_append, List.length_set, List.length_cons, List.length_nil, List.length_take, List.length_drop]; omega)) only [go_sem, ↓reduceIte, Nat.reduceEqDiff, reduceCtorEq, q0, qo, qd, qt]; rfl) qd ⟨by omega, rfl, by simp only [List.length_map]; omega⟩ (setL_map _ _ _) ?_
    intro H6 w6
    have ew6 := w6.len
    have q0 := (w6.old _ (by omega)).trans q0
    have qo := (w6.old _ (by omega)).trans qo
    have qt := (w6.old _ (by omega)).trans qt
    have qd := w6.new
    have tr : ∀ y0 y1 y2 y4 y5 y6 y7 y27 y28 y29 z0 z1 z2 z3 z4 z5 z6 z7 z8 : AV, trim [(39, z8), (38, z7), (37, z6), (36, z5), (35, z4), (34, z3), (33, z2), (32, z1), (31, z0), (0, y0), (1, y1), (2, y2), (4, y4), (5, y5), (6, y6), (7, y7), (27, y27), (28, y28), (29, y29)] [(0, y0), (1, y1), (2, y2), (4, y4), (5, y5), (6, y6), (7, y7), (27, y27), (28, y28), (29, y29)] = [(0, y0), (1, y1), (2, y2), (4, y4), (5, y5), (6, y6), (7, y7), (27, y27), (28, y28), (29, y29)] := fun y0 y1 y2 y4 y5 y6 y7 y27 y28 y29 z0 z1 z2 z3 z4 z5 z6 z7 z8 => rfl
    refine R_nil (tr _ _ _ _ _ _ _ _ _ _ _ _ _ _ _ _ _ _ _) ?_; clear tr
    refine then_n ?_
    refine rg rfl ?_
    refine Rq ?_
    refine Rq ?_
    refine R_q rfl (by simp (disch := first | omega | (simp only [List.length_map, List.length_append, List.length_set, List.length_cons, List.length_nil, List.length_take, List.length_drop]; omega)) only [go_sem, ↓reduceIte, Nat.reduceEqDiff, reduceCtorEq, q0, qo, qd, qt]; rfl) ?_
    refine Rq ?_
    refine Rq ?_
    refine Rq ?_
    have tr : ∀ y0 y1 y2 y4 y5 y6 y7 y27 y28 y29 z0 z1 z2 z3 z4 z5 : AV, trim [(1, z5), (44, z4), (43, z3), (42, z2), (41, z1), (40, z0), (0, y0), (1, y1), (2, y2), (4, y4), (5, y5), (6, y6), (7, y7), (27, y27), (28, y28), (29, y29)] [(0, y0), (1, y1), (2, y2), (4, y4), (5, y5), (6, y6), (7, y7), (27, y27), (28, y28), (29, y29)] = [(0, y0), (1, z5), (2, y2), (4, y4), (5, y5), (6, y6), (7, y7), (27, y27), (28, y28), (29, y29)] := fun y0 y1 y2 y4 y5 y6 y7 y27 y28 y29 z0 z1 z2 z3 z4 z5 => rfl
    refine R_nil (tr _ _ _ _ _ _ _ _ _ _ _ _ _ _ _ _) ?_; clear tr
    refine blk_n ?_
    refine then_n ?_
    refine rg rfl ?_
    refine Rq ?_
    refine Rq ?_
    have tr : ∀ y0 y1 y2 y4 y5 y6 y7 y27 y28 y29 z0 z1 : AV, trim [(28, z1), (45, z0), (0, y0), (1, y1), (2, y2), (4, y4), (5, y5), (6, y6), (7, y7), (27, y27), (28, y28), (29, y29)] [(0, y0), (1, y1), (2, y2), (4, y4), (5, y5), (6, y6), (7, y7), (27, y27), (28, y28), (29, y29)] = [(0, y0), (1, y1), (2, y2), (4, y4), (5, y5), (6, y6), (7, y7), (27, y27), (28, z1), (29, y29)] := fun y0 y1 y2 y4 y5 y6 y7 y27 y28 y29 z0 z1 => rfl
    refine R_nil (tr _ _ _ _ _ _ _ _ _ _ _ _) ?_; clear tr
    refine then_n ?_
    exact ⟨_, _, ⟨u + 1, (z / (q + 1)), (D.set u (z % (q + 1))), _, _, rfl, rfl, by exact q0, by exact ⟨_, qo, hk0l⟩, by exact qd, by exact qt, by omega, by rw [List.length_set]; exact hD, by omega, by omega, by exact dec_next (by omega) hD hdec⟩, by rfl, by omega⟩
  · try simp only [decide_eq_true_eq, decide_eq_false_iff_not, Bool.not_eq_true', Bool.not_eq_false', beq_iff_eq, beq_eq_false_iff_ne, ne_eq] at h1
    refine at_exit rfl ?_
    refine then_x ?_
    refine then_x ?_
    refine blk_x ?_
    refine then_n ?_
    refine at_seq rfl ?_
    refine rg rfl ?_
    refine R_q rfl (by simp (disch := first | omega | (simp only [List.length_map, List.length_append, List.length_set, List.length_cons, List.length_nil, List.length_take, List.length_drop]; omega)) only [go_sem, ↓reduceIte, Nat.reduceEqDiff, reduceCtorEq, q0, qo, qd, qt]; rfl) ?_
    have lq0 := hget_lt q0
    have lqo := hget_lt qo
    have lqd := hget_lt qd
    have lqt := hget_lt qt
    refine A_store ty48 (by simp (disch := first | omega | (simp only [List.length_map, List.length_append, List.length_set, List.length_cons, List.length_nil, List.length_take, List.length_drop]; omega)) only [go_sem, ↓reduceIte, Nat.reduceEqDiff, reduceCtorEq, q0, qo, qd, qt]; rfl) (by simp (disch := first | omega | (simp only [List.length_map, List.length_append, List.length_set, List.length_cons, List.length_nil, List.length_take, List.length_drop]; omega)) only [go_sem, ↓reduceIte, Nat.reduceEqDiff, reduceCtorEq, q0, qo, qd, qt]; rfl) qo ⟨by omega, rfl, by (rw [hk0l]; exact Nat.le_refl _)⟩ (k' := [AV.own 1 H2.length 0 (gt rows 0).length, AV.i (decl (gt rows 0).length k)]) (by match k0, hk0l with | [_, _], _ => rfl) ?_
    intro H7 w7
    have ew7 := w7.len
    have q0 := (w7.old _ (by omega)).trans q0
    have qd := (w7.old _ (by omega)).trans qd
    have qt := (w7.old _ (by omega)).trans qt
    have qo := w7.new
    have tr : ∀ y0 y1 y2 y4 y5 y6 y7 y27 y28 y29 z0 : AV, trim [(46, z0), (0, y0), (1, y1), (2, y2), (4, y4), (5, y5), (6, y6), (7, y7), (27, y27), (28, y28), (29, y29)] [(0, y0), (1, y1), (2, y2), (4, y4), (5, y5), (6, y6), (7, y7), (27, y27), (28, y28), (29, y29)] = [(0, y0), (1, y1), (2, y2), (4, y4), (5, y5), (6, y6), (7, y7), (27, y27), (28, y28), (29, y29)] := fun y0 y1 y2 y4 y5 y6 y7 y27 y28 y29 z0 => rfl
    refine R_nil (tr _ _ _ _ _ _ _ _ _ _ _) ?_; clear tr
    refine then_n ?_
    refine at_ret rfl ?_
    have hub : u = (gt rows 0).length := by omega
    subst hub
    rw [Nat.sub_self, decC, List.append_nil, List.take_of_length_le (by omega)] at hdec
    refine fin_pure (rs := [.cell 4 48]) rfl (by simp only [go_sem, ↓reduceIte, Nat.reduceEqDiff, qo]; rfl) rfl ?_
    refine ⟨?_, rfl⟩
    show AV.agg [frz H7 H.length 7 (.own 1 H2.length 0 (gt rows 0).length), AV.i (decl (gt rows 0).length k)] = _
    rw [frz_ownI (l := D) (by omega) qd (by omega), hdec]

end Go.Proofs.Ytmkalakojfpfgaa
