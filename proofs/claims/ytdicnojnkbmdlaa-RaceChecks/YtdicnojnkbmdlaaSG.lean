/-
  Walks of chapters 52 and 53. The steps are written by program (walk.py).
-/
import Derived.Test.YtdicnojnkbmdlaaS2
set_option linter.unusedSimpArgs false
set_option linter.unusedVariables false
set_option maxHeartbeats 40000000
set_option maxRecDepth 4000
namespace Go.Proofs.Ytdicnojnkbmdlaa
open Go Go.Am

theorem rpairs_ok (lim : Nat) (H : Heap) (P : List Int) (L : List Pr) (hL : L.length ≤ 400) (hv : ∀ i, i < L.length → 0 ≤ (gt L i).a ∧ 0 ≤ (gt L i).b) :
    ACall sig lim 65 [.agg (raceC P L), AV.i (-1)] H fun r H' => (∃ x, r = .tup [refA L, x]) ∧ H' = H := by
  have q0 : True := trivial
  have qx : True := trivial
  have q1 : True := trivial
  have q2 : True := trivial
  refine ACall_pure (fa := fa65) rfl rfl rfl rfl ?_
  have tr : ∀ a0 a1 : AV, env0 fa65.keep [a0, a1] = [(0, a0), (1, a1), (2, .any), (4, .any), (5, .any), (6, .any), (7, .any), (9, .any), (10, .any), (11, .any), (13, .any), (14, .any), (15, .any), (16, .any), (28, .any), (30, .any), (31, .any), (32, .any), (39, .any), (48, .any)] := fun a0 a1 => rfl
  refine W_to (tr _ _) ?_; clear tr
  refine at_seq rfl ?_
  refine rg rfl ?_
  refine A_box rfl (by simp (disch := first | omega | (simp only [List.length_map, List.length_append, List.length_set, List.length_cons, List.length_nil, List.length_take, List.length_drop]; omega)) only [go_sem, ↓reduceIte, Nat.reduceEqDiff, reduceCtorEq]; rfl) ?_
  intro H1 n0
  have en0 := n0.len
  have q0 := n0.new
  refine Rq ?_
  refine Rq ?_
  have tr : ∀ y0 y1 y2 y4 y5 y6 y7 y9 y10 y11 y13 y14 y15 y16 y28 y30 y31 y32 y39 y48 z0 z1 z2 : AV, trim [(5, z2), (4, z1), (2, z0), (0, y0), (1, y1), (2, y2), (4, y4), (5, y5), (6, y6), (7, y7), (9, y9), (10, y10), (11, y11), (13, y13), (14, y14), (15, y15), (16, y16), (28, y28), (30, y30), (31, y31), (32, y32), (39, y39), (48, y48)] [(0, y0), (1, y1), (2, y2), (4, y4), (5, y5), (6, y6), (7, y7), (9, y9), (10, y10), (11, y11), (13, y13), (14, y14), (15, y15), (16, y16), (28, y28), (30, y30), (31, y31), (32, y32), (39, y39), (48, y48)] = [(0, y0), (1, y1), (2, z0), (4, z1), (5, z2), (6, y6), (7, y7), (9, y9), (10, y10), (11, y11), (13, y13), (14, y14), (15, y15), (16, y16), (28, y28), (30, y30), (31, y31), (32, y32), (39, y39), (48, y48)] := fun y0 y1 y2 y4 y5 y6 y7 y9 y10 y11 y13 y14 y15 y16 y28 y30 y31 y32 y39 y48 z0 z1 z2 => rfl
  refine R_nil (tr _ _ _ _ _ _ _ _ _ _ _ _ _ _ _ _ _ _ _ _ _ _ _) ?_; clear tr
  refine then_n ?_
  refine at_seq rfl ?_
  refine rg rfl ?_
  refine Rq ?_
  have tr : ∀ y0 y1 y2 y4 y5 y6 y7 y9 y10 y11 y13 y14 y15 y16 y28 y30 y31 y32 y39 y48 z0 : AV, trim [(6, z0), (0, y0), (1, y1), (2, y2), (4, y4), (5, y5), (6, y6), (7, y7), (9, y9), (10, y10), (11, y11), (13, y13), (14, y14), (15, y15), (16, y16), (28, y28), (30, y30), (31, y31), (32, y32), (39, y39), (48, y48)] [(0, y0), (1, y1), (2, y2), (4, y4), (5, y5), (6, y6), (7, y7), (9, y9), (10, y10), (11, y11), (13, y13), (14, y14), (15, y15), (16, y16), (28, y28), (30, y30), (31, y31), (32, y32), (39, y39), (48, y48)] = [(0, y0), (1, y1), (2, y2), (4, y4), (5, y5), (6, z0), (7, y7), (9, y9), (10, y10), (11, y11), (13, y13), (14, y14), (15, y15), (16, y16), (28, y28), (30, y30), (31, y31), (32, y32), (39, y39), (48, y48)] := fun y0 y1 y2 y4 y5 y6 y7 y9 y10 y11 y13 y14 y15 y16 y28 y30 y31 y32 y39 y48 z0 => rfl
  refine R_nil (tr _ _ _ _ _ _ _ _ _ _ _ _ _ _ _ _ _ _ _ _ _) ?_; clear tr
  refine then_n ?_
  refine at_seq rfl ?_
  refine rg rfl ?_
  refine Rq ?_
  have tr : ∀ y0 y1 y2 y4 y5 y6 y7 y9 y10 y11 y13 y14 y15 y16 y28 y30 y31 y32 y39 y48 z0 : AV, trim [(7, z0), (0, y0), (1, y1), (2, y2), (4, y4), (5, y5), (6, y6), (7, y7), (9, y9), (10, y10), (11, y11), (13, y13), (14, y14), (15, y15), (16, y16), (28, y28), (30, y30), (31, y31), (32, y32), (39, y39), (48, y48)] [(0, y0), (1, y1), (2, y2), (4, y4), (5, y5), (6, y6), (7, y7), (9, y9), (10, y10), (11, y11), (13, y13), (14, y14), (15, y15), (16, y16), (28, y28), (30, y30), (31, y31), (32, y32), (39, y39), (48, y48)] = [(0, y0), (1, y1), (2, y2), (4, y4), (5, y5), (6, y6), (7, z0), (9, y9), (10, y10), (11, y11), (13, y13), (14, y14), (15, y15), (16, y16), (28, y28), (30, y30), (31, y31), (32, y32), (39, y39), (48, y48)] := fun y0 y1 y2 y4 y5 y6 y7 y9 y10 y11 y13 y14 y15 y16 y28 y30 y31 y32 y39 y48 z0 => rfl
  refine R_nil (tr _ _ _ _ _ _ _ _ _ _ _ _ _ _ _ _ _ _ _ _ _) ?_; clear tr
  refine then_n ?_
  refine at_seq rfl ?_
  refine at_seq rfl ?_
  refine rg rfl ?_
  refine Rq ?_
  refine R_q rfl (by simp (disch := first | omega | (simp only [List.length_map, List.length_append, List.length_set, List.length_cons, List.length_nil, List.length_take, List.length_drop]; omega)) only [go_sem, ↓reduceIte, Nat.reduceEqDiff, reduceCtorEq, q0, qx, q1, q2]; rfl) ?_
  refine Rq ?_
  refine Rq ?_
  have tr : ∀ y0 y1 y2 y4 y5 y6 y7 y9 y10 y11 y13 y14 y15 y16 y28 y30 y31 y32 y39 y48 z0 z1 z2 z3 : AV, trim [(15, z3), (14, z2), (13, z1), (12, z0), (0, y0), (1, y1), (2, y2), (4, y4), (5, y5), (6, y6), (7, y7), (9, y9), (10, y10), (11, y11), (13, y13), (14, y14), (15, y15), (16, y16), (28, y28), (30, y30), (31, y31), (32, y32), (39, y39), (48, y48)] [(0, y0), (1, y1), (2, y2), (4, y4), (5, y5), (6, y6), (7, y7), (9, y9), (10, y10), (11, y11), (13, y13), (14, y14), (15, y15), (16, y16), (28, y28), (30, y30), (31, y31), (32, y32), (39, y39), (48, y48)] = [(0, y0), (1, y1), (2, y2), (4, y4), (5, y5), (6, y6), (7, y7), (9, y9), (10, y10), (11, y11), (13, z1), (14, z2), (15, z3), (16, y16), (28, y28), (30, y30), (31, y31), (32, y32), (39, y39), (48, y48)] := fun y0 y1 y2 y4 y5 y6 y7 y9 y10 y11 y13 y14 y15 y16 y28 y30 y31 y32 y39 y48 z0 z1 z2 z3 => rfl
  refine R_nil (tr _ _ _ _ _ _ _ _ _ _ _ _ _ _ _ _ _ _ _ _ _ _ _ _) ?_; clear tr
  refine then_n ?_
  refine at_block rfl ?_
  refine loop_n rfl (fun mm kv H' => ∃ u : Nat, ∃ o1 : AV, ∃ o2 : AV, ∃ N : List Int, ∃ x9 x10 x11 x16 x28 x30 x31 x32 x39 x48 : AV, (kv = [(6, o1), (7, o2), (9, x9), (10, x10), (11, x11), (15, AV.i u), (16, x16), (28, x28), (30, x30), (31, x31), (32, x32), (39, x39), (48, x48)]) ∧ (mm = L.length - u) ∧ (hget H' H.length = some (raceC P L)) ∧ (H1.length ≤ H'.length) ∧ (u ≤ L.length) ∧ (OutPN H1.length H' o1 o2 (refN L u) N) ∧ (∀ i, 0 ≤ gt N i ∧ gt N i ≤ u)) ⟨0, _, _, [], _, _, _, _, _, _, _, _, _, _, rfl, rfl, by exact q0, by exact Nat.le_refl _, by omega, by exact .inl ⟨rfl, rfl, rfl, rfl⟩, by intro i; exact ⟨Int.le_refl _, Int.le_refl _⟩⟩ (by rfl) ?_
  rintro mm kv HB ⟨u, o1, o2, N, x9, x10, x11, x16, x28, x30, x31, x32, x39, x48, rfl, rfl, q0, hHB, hu, hO, hNr0⟩
  have tr : ∀ y0 y1 y2 y4 y5 y6 y7 y9 y10 y11 y13 y14 y15 y16 y28 y30 y31 y32 y39 y48 z6 z7 z9 z10 z11 z15 z16 z28 z30 z31 z32 z39 z48 : AV, upd [(0, y0), (1, y1), (2, y2), (4, y4), (5, y5), (6, y6), (7, y7), (9, y9), (10, y10), (11, y11), (13, y13), (14, y14), (15, y15), (16, y16), (28, y28), (30, y30), (31, y31), (32, y32), (39, y39), (48, y48)] [(6, z6), (7, z7), (9, z9), (10, z10), (11, z11), (15, z15), (16, z16), (28, z28), (30, z30), (31, z31), (32, z32), (39, z39), (48, z48)] = [(0, y0), (1, y1), (2, y2), (4, y4), (5, y5), (6, z6), (7, z7), (9, z9), (10, z10), (11, z11), (13, y13), (14, y14), (15, z15), (16, z16), (28, z28), (30, z30), (31, z31), (32, z32), (39, z39), (48, z48)] := fun y0 y1 y2 y4 y5 y6 y7 y9 y10 y11 y13 y14 y15 y16 y28 y30 y31 y32 y39 y48 z6 z7 z9 z10 z11 z15 z16 z28 z30 z31 z32 z39 z48 => rfl
  refine W_to (tr _ _ _ _ _ _ _ _ _ _ _ _ _ _ _ _ _ _ _ _ _ _ _ _ _ _ _ _ _ _ _ _ _) ?_; clear tr
  have hpl := ref_len L u
  have hpl2 := pairs_len L u
  refine at_seq rfl ?_
  refine rg rfl ?_
  refine Rq ?_
  have tr : ∀ y0 y1 y2 y4 y5 y6 y7 y9 y10 y11 y13 y14 y15 y16 y28 y30 y31 y32 y39 y48 z0 : AV, trim [(16, z0), (0, y0), (1, y1), (2, y2), (4, y4), (5, y5), (6, y6), (7, y7), (9, y9), (10, y10), (11, y11), (13, y13), (14, y14), (15, y15), (16, y16), (28, y28), (30, y30), (31, y31), (32, y32), (39, y39), (48, y48)] [(0, y0), (1, y1), (2, y2), (4, y4), (5, y5), (6, y6), (7, y7), (9, y9), (10, y10), (11, y11), (13, y13), (14, y14), (15, y15), (16, y16), (28, y28), (30, y30), (31, y31), (32, y32), (39, y39), (48, y48)] = [(0, y0), (1, y1), (2, y2), (4, y4), (5, y5), (6, y6), (7, y7), (9, y9), (10, y10), (11, y11), (13, y13), (14, y14), (15, y15), (16, z0), (28, y28), (30, y30), (31, y31), (32, y32), (39, y39), (48, y48)] := fun y0 y1 y2 y4 y5 y6 y7 y9 y10 y11 y13 y14 y15 y16 y28 y30 y31 y32 y39 y48 z0 => rfl
  refine R_nil (tr _ _ _ _ _ _ _ _ _ _ _ _ _ _ _ _ _ _ _ _ _) ?_; clear tr
  refine then_n ?_
  refine at_seq rfl ?_
  refine cdd (fun h1 => ?_) (fun h1 => ?_)
  · try simp only [decide_eq_true_eq, decide_eq_false_iff_not, Bool.not_eq_true', Bool.not_eq_false', beq_iff_eq, beq_eq_false_iff_ne, ne_eq] at h1
    refine at_skip rfl ?_
    refine then_n ?_
    refine at_seq rfl ?_
    refine at_block rfl ?_
    refine at_seq rfl ?_
    refine rg rfl ?_
    refine Rq ?_
    refine R_q rfl (by simp (disch := first | omega | (simp only [List.length_map, List.length_append, List.length_set, List.length_cons, List.length_nil, List.length_take, List.length_drop]; omega)) only [go_sem, ↓reduceIte, Nat.reduceEqDiff, reduceCtorEq, q0, qx, q1, q2]; rfl) ?_
    have hO1 := hO
    have lq0 := hget_lt q0
    refine A_alloc rfl ?_
    intro HC n4
    have en4 := n4.len
    have q0 := (n4.old _ (hget_lt q0)).trans q0
    have qx := n4.new
    have lq0 := hget_lt q0
    have lqx := hget_lt qx
    refine A_store ty58 (by simp (disch := first | omega | (simp only [List.length_map, List.length_append, List.length_set, List.length_cons, List.length_nil, List.length_take, List.length_drop]; omega)) only [go_sem, ↓reduceIte, Nat.reduceEqDiff, reduceCtorEq, q0, qx, q1, q2]; rfl) (by simp (disch := first | omega | (simp only [List.length_map, List.length_append, List.length_set, List.length_cons, List.length_nil, List.length_take, List.length_drop]; omega)) only [go_sem, ↓reduceIte, Nat.reduceEqDiff, reduceCtorEq, q0, qx, q1, q2]; rfl) qx ⟨by omega, rfl, by first | exact Nat.le_refl _ | simp⟩ (show _ = prC (gt L u) from rfl) ?_
    intro HD w4
    have ew4 := w4.len
    have q0 := (w4.old _ (by omega)).trans q0
    have qx := w4.new
    have hO := hO1.mono fun b hb k hk => (w4.old _ (by have := hget_lt hk; omega)).trans ((n4.old _ (hget_lt hk)).trans hk)
    have tr : ∀ y0 y1 y2 y4 y5 y6 y7 y9 y10 y11 y13 y14 y15 y16 y28 y30 y31 y32 y39 y48 z0 z1 z2 : AV, trim [(9, z2), (18, z1), (17, z0), (0, y0), (1, y1), (2, y2), (4, y4), (5, y5), (6, y6), (7, y7), (9, y9), (10, y10), (11, y11), (13, y13), (14, y14), (15, y15), (16, y16), (28, y28), (30, y30), (31, y31), (32, y32), (39, y39), (48, y48)] [(0, y0), (1, y1), (2, y2), (4, y4), (5, y5), (6, y6), (7, y7), (9, y9), (10, y10), (11, y11), (13, y13), (14, y14), (15, y15), (16, y16), (28, y28), (30, y30), (31, y31), (32, y32), (39, y39), (48, y48)] = [(0, y0), (1, y1), (2, y2), (4, y4), (5, y5), (6, y6), (7, y7), (9, z2), (10, y10), (11, y11), (13, y13), (14, y14), (15, y15), (16, y16), (28, y28), (30, y30), (31, y31), (32, y32), (39, y39), (48, y48)] := fun y0 y1 y2 y4 y5 y6 y7 y9 y10 y11 y13 y14 y15 y16 y28 y30 y31 y32 y39 y48 z0 z1 z2 => rfl
    refine R_nil (tr _ _ _ _ _ _ _ _ _ _ _ _ _ _ _ _ _ _ _ _ _ _ _) ?_; clear tr
    refine then_n ?_
    refine at_seq rfl ?_
    refine at_seq rfl ?_
    refine rg rfl ?_
    have hvu := hv u (by omega)
    refine Rq ?_
    refine R_q rfl (by simp (disch := first | omega | (simp only [List.length_map, List.length_append, List.length_set, List.length_cons, List.length_nil, List.length_take, List.length_drop]; omega)) only [go_sem, ↓reduceIte, Nat.reduceEqDiff, reduceCtorEq, q0, qx, q1, q2]; rfl) ?_
    refine Rq ?_
    refine Rq ?_
    refine Rq ?_
    refine Rp_split (fun h2 => ?_) (fun h2 => ?_)
    · try simp only [decide_eq_true_eq, decide_eq_false_iff_not, Bool.not_eq_true', Bool.not_eq_false', beq_iff_eq, beq_eq_false_iff_ne, ne_eq] at h2
      exfalso; omega
    · try simp only [decide_eq_true_eq, decide_eq_false_iff_not, Bool.not_eq_true', Bool.not_eq_false', beq_iff_eq, beq_eq_false_iff_ne, ne_eq] at h2
      refine Ry ?_
      refine Rq ?_
      refine Ry ?_
      refine R_q rfl (by simp (disch := first | omega | (simp only [List.length_map, List.length_append, List.length_set, List.length_cons, List.length_nil, List.length_take, List.length_drop]; omega)) only [go_sem, ↓reduceIte, Nat.reduceEqDiff, reduceCtorEq, q0, qx, q1, q2]; rfl) ?_
      refine Ry ?_
      refine Rq ?_
      refine Ry ?_
      refine Rq ?_
      refine Rq ?_
      have tr : ∀ y0 y1 y2 y4 y5 y6 y7 y9 y10 y11 y13 y14 y15 y16 y28 y30 y31 y32 y39 y48 z0 z1 z2 z3 z4 z5 z6 z7 z8 z9 : AV, trim [(28, z9), (27, z8), (26, z7), (25, z6), (24, z5), (23, z4), (22, z3), (21, z2), (20, z1), (19, z0), (0, y0), (1, y1), (2, y2), (4, y4), (5, y5), (6, y6), (7, y7), (9, y9), (10, y10), (11, y11), (13, y13), (14, y14), (15, y15), (16, y16), (28, y28), (30, y30), (31, y31), (32, y32), (39, y39), (48, y48)] [(0, y0), (1, y1), (2, y2), (4, y4), (5, y5), (6, y6), (7, y7), (9, y9), (10, y10), (11, y11), (13, y13), (14, y14), (15, y15), (16, y16), (28, y28), (30, y30), (31, y31), (32, y32), (39, y39), (48, y48)] = [(0, y0), (1, y1), (2, y2), (4, y4), (5, y5), (6, y6), (7, y7), (9, y9), (10, y10), (11, y11), (13, y13), (14, y14), (15, y15), (16, y16), (28, z9), (30, y30), (31, y31), (32, y32), (39, y39), (48, y48)] := fun y0 y1 y2 y4 y5 y6 y7 y9 y10 y11 y13 y14 y15 y16 y28 y30 y31 y32 y39 y48 z0 z1 z2 z3 z4 z5 z6 z7 z8 z9 => rfl
      refine R_nil (tr _ _ _ _ _ _ _ _ _ _ _ _ _ _ _ _ _ _ _ _ _ _ _ _ _ _ _ _ _ _) ?_; clear tr
      refine then_n ?_
      refine cdd (fun h3 => ?_) (fun h3 => ?_)
      · try simp only [decide_eq_true_eq, decide_eq_false_iff_not, Bool.not_eq_true', Bool.not_eq_false', beq_iff_eq, beq_eq_false_iff_ne, ne_eq] at h3
        exfalso; omega
      · try simp only [decide_eq_true_eq, decide_eq_false_iff_not, Bool.not_eq_true', Bool.not_eq_false', beq_iff_eq, beq_eq_false_iff_ne, ne_eq] at h3
        refine at_skip rfl ?_
        refine then_n ?_
        refine at_seq rfl ?_
        refine rg rfl ?_
        refine Rq ?_
        have tr : ∀ y0 y1 y2 y4 y5 y6 y7 y9 y10 y11 y13 y14 y15 y16 y28 y30 y31 y32 y39 y48 z0 : AV, trim [(10, z0), (0, y0), (1, y1), (2, y2), (4, y4), (5, y5), (6, y6), (7, y7), (9, y9), (10, y10), (11, y11), (13, y13), (14, y14), (15, y15), (16, y16), (28, y28), (30, y30), (31, y31), (32, y32), (39, y39), (48, y48)] [(0, y0), (1, y1), (2, y2), (4, y4), (5, y5), (6, y6), (7, y7), (9, y9), (10, y10), (11, y11), (13, y13), (14, y14), (15, y15), (16, y16), (28, y28), (30, y30), (31, y31), (32, y32), (39, y39), (48, y48)] = [(0, y0), (1, y1), (2, y2), (4, y4), (5, y5), (6, y6), (7, y7), (9, y9), (10, z0), (11, y11), (13, y13), (14, y14), (15, y15), (16, y16), (28, y28), (30, y30), (31, y31), (32, y32), (39, y39), (48, y48)] := fun y0 y1 y2 y4 y5 y6 y7 y9 y10 y11 y13 y14 y15 y16 y28 y30 y31 y32 y39 y48 z0 => rfl
        refine R_nil (tr _ _ _ _ _ _ _ _ _ _ _ _ _ _ _ _ _ _ _ _ _) ?_; clear tr
        refine then_n ?_
        refine at_seq rfl ?_
        refine at_seq rfl ?_
        refine rg rfl ?_
        refine Rq ?_
        refine R_q rfl (by simp (disch := first | omega | (simp only [List.length_map, List.length_append, List.length_set, List.length_cons, List.length_nil, List.length_take, List.length_drop]; omega)) only [go_sem, ↓reduceIte, Nat.reduceEqDiff, reduceCtorEq]; exact hO.len) ?_
        refine Rq ?_
        have tr : ∀ y0 y1 y2 y4 y5 y6 y7 y9 y10 y11 y13 y14 y15 y16 y28 y30 y31 y32 y39 y48 z0 z1 z2 : AV, trim [(31, z2), (30, z1), (29, z0), (0, y0), (1, y1), (2, y2), (4, y4), (5, y5), (6, y6), (7, y7), (9, y9), (10, y10), (11, y11), (13, y13), (14, y14), (15, y15), (16, y16), (28, y28), (30, y30), (31, y31), (32, y32), (39, y39), (48, y48)] [(0, y0), (1, y1), (2, y2), (4, y4), (5, y5), (6, y6), (7, y7), (9, y9), (10, y10), (11, y11), (13, y13), (14, y14), (15, y15), (16, y16), (28, y28), (30, y30), (31, y31), (32, y32), (39, y39), (48, y48)] = [(0, y0), (1, y1), (2, y2), (4, y4), (5, y5), (6, y6), (7, y7), (9, y9), (10, y10), (11, y11), (13, y13), (14, y14), (15, y15), (16, y16), (28, y28), (30, z1), (31, z2), (32, y32), (39, y39), (48, y48)] := fun y0 y1 y2 y4 y5 y6 y7 y9 y10 y11 y13 y14 y15 y16 y28 y30 y31 y32 y39 y48 z0 z1 z2 => rfl
        refine R_nil (tr _ _ _ _ _ _ _ _ _ _ _ _ _ _ _ _ _ _ _ _ _ _ _) ?_; clear tr
        refine then_n ?_
        refine at_block rfl ?_
        refine loop_n rfl (fun mm kv H' => ∃ w : Nat, ∃ met : Bool, ∃ N2 : List Int, ∃ x11 x32 x39 : AV, (kv = [(10, AV.b met), (11, x11), (31, AV.i w), (32, x32), (39, x39)]) ∧ (mm = (refN L u).length - w) ∧ (hget H' H.length = some (raceC P L)) ∧ (hget H' HB.length = some (prC (gt L u))) ∧ (HB.length < H'.length) ∧ (OutPN H1.length H' o1 o2 (refN L u) N2) ∧ (w ≤ (refN L u).length) ∧ ((met = true ↔ ∃ i, i < w ∧ norm (gt (refN L u) i) = norm (gt L u))) ∧ (∀ i, 0 ≤ gt N2 i ∧ gt N2 i ≤ u + 1) ∧ (∀ i, w ≤ i → gt N2 i ≤ u)) ⟨0, false, N, _, _, _, rfl, rfl, by exact q0, by exact qx, by omega, by exact hO, by omega, by exact ⟨fun hh => (by cases hh), fun ⟨i, hi, _⟩ => (by omega)⟩, by intro i; have := hNr0 i; omega, by intro i _; exact (hNr0 i).2⟩ (by rfl) ?_
        rintro mm kv HF ⟨w, met, N2, x11, x32, x39, rfl, rfl, q0, qx, hHF, hO, hw, hmet, hNb, hNc⟩
        have tr : ∀ y0 y1 y2 y4 y5 y6 y7 y9 y10 y11 y13 y14 y15 y16 y28 y30 y31 y32 y39 y48 z10 z11 z31 z32 z39 : AV, upd [(0, y0), (1, y1), (2, y2), (4, y4), (5, y5), (6, y6), (7, y7), (9, y9), (10, y10), (11, y11), (13, y13), (14, y14), (15, y15), (16, y16), (28, y28), (30, y30), (31, y31), (32, y32), (39, y39), (48, y48)] [(10, z10), (11, z11), (31, z31), (32, z32), (39, z39)] = [(0, y0), (1, y1), (2, y2), (4, y4), (5, y5), (6, y6), (7, y7), (9, y9), (10, z10), (11, z11), (13, y13), (14, y14), (15, y15), (16, y16), (28, y28), (30, y30), (31, z31), (32, z32), (39, z39), (48, y48)] := fun y0 y1 y2 y4 y5 y6 y7 y9 y10 y11 y13 y14 y15 y16 y28 y30 y31 y32 y39 y48 z10 z11 z31 z32 z39 => rfl
        refine W_to (tr _ _ _ _ _ _ _ _ _ _ _ _ _ _ _ _ _ _ _ _ _ _ _ _ _) ?_; clear tr
        refine at_seq rfl ?_
        refine rg rfl ?_
        refine Rq ?_
        have tr : ∀ y0 y1 y2 y4 y5 y6 y7 y9 y10 y11 y13 y14 y15 y16 y28 y30 y31 y32 y39 y48 z0 : AV, trim [(32, z0), (0, y0), (1, y1), (2, y2), (4, y4), (5, y5), (6, y6), (7, y7), (9, y9), (10, y10), (11, y11), (13, y13), (14, y14), (15, y15), (16, y16), (28, y28), (30, y30), (31, y31), (32, y32), (39, y39), (48, y48)] [(0, y0), (1, y1), (2, y2), (4, y4), (5, y5), (6, y6), (7, y7), (9, y9), (10, y10), (11, y11), (13, y13), (14, y14), (15, y15), (16, y16), (28, y28), (30, y30), (31, y31), (32, y32), (39, y39), (48, y48)] = [(0, y0), (1, y1), (2, y2), (4, y4), (5, y5), (6, y6), (7, y7), (9, y9), (10, y10), (11, y11), (13, y13), (14, y14), (15, y15), (16, y16), (28, y28), (30, y30), (31, y31), (32, z0), (39, y39), (48, y48)] := fun y0 y1 y2 y4 y5 y6 y7 y9 y10 y11 y13 y14 y15 y16 y28 y30 y31 y32 y39 y48 z0 => rfl
        refine R_nil (tr _ _ _ _ _ _ _ _ _ _ _ _ _ _ _ _ _ _ _ _ _) ?_; clear tr
        refine then_n ?_
        refine at_seq rfl ?_
        refine cdd (fun h4 => ?_) (fun h4 => ?_)
        · try simp only [decide_eq_true_eq, decide_eq_false_iff_not, Bool.not_eq_true', Bool.not_eq_false', beq_iff_eq, beq_eq_false_iff_ne, ne_eq] at h4
          refine at_skip rfl ?_
          refine then_n ?_
          refine at_seq rfl ?_
          refine at_block rfl ?_
          refine at_seq rfl ?_
          refine rg rfl ?_
          refine Rq ?_
          refine Rq ?_
          have tr : ∀ y0 y1 y2 y4 y5 y6 y7 y9 y10 y11 y13 y14 y15 y16 y28 y30 y31 y32 y39 y48 z0 z1 : AV, trim [(11, z1), (33, z0), (0, y0), (1, y1), (2, y2), (4, y4), (5, y5), (6, y6), (7, y7), (9, y9), (10, y10), (11, y11), (13, y13), (14, y14), (15, y15), (16, y16), (28, y28), (30, y30), (31, y31), (32, y32), (39, y39), (48, y48)] [(0, y0), (1, y1), (2, y2), (4, y4), (5, y5), (6, y6), (7, y7), (9, y9), (10, y10), (11, y11), (13, y13), (14, y14), (15, y15), (16, y16), (28, y28), (30, y30), (31, y31), (32, y32), (39, y39), (48, y48)] = [(0, y0), (1, y1), (2, y2), (4, y4), (5, y5), (6, y6), (7, y7), (9, y9), (10, y10), (11, z1), (13, y13), (14, y14), (15, y15), (16, y16), (28, y28), (30, y30), (31, y31), (32, y32), (39, y39), (48, y48)] := fun y0 y1 y2 y4 y5 y6 y7 y9 y10 y11 y13 y14 y15 y16 y28 y30 y31 y32 y39 y48 z0 z1 => rfl
          refine R_nil (tr _ _ _ _ _ _ _ _ _ _ _ _ _ _ _ _ _ _ _ _ _ _) ?_; clear tr
          refine then_n ?_
          refine at_seq rfl ?_
          refine rd rfl rfl ?_
          obtain ⟨h0, hNl, b1, b2, e1, e2, hb1, hb2, hbb, q1, q2⟩ := hO.resolve_left (fun hh => by have h7 := congrArg List.length hh.1; simp only [List.length_nil] at h7; omega)
          subst e1 e2
          have hb12 : b1 < HB.length ∧ b2 < HB.length := by
            rcases hO1 with ⟨hh, _⟩ | ⟨_, _, c1, c2, h, h9, _, _, _, h7, h8⟩
            · exact absurd hh h0
            · cases h; cases h9; exact ⟨hget_lt h7, hget_lt h8⟩
          have hNr := hNb w
          have hNw := hNc w (Nat.le_refl _)
          refine Qq ?_
          refine Qq ?_
          refine Qq ?_
          refine Q_q rfl (by simp (disch := first | omega | (simp only [List.length_map, List.length_append, List.length_set, List.length_cons, List.length_nil, List.length_take, List.length_drop]; omega)) only [go_sem, ↓reduceIte, Nat.reduceEqDiff, reduceCtorEq, q0, qx, q1, q2]; rfl) ?_
          refine Q_q rfl (by simp (disch := first | omega | (simp only [List.length_map, List.length_append, List.length_set, List.length_cons, List.length_nil, List.length_take, List.length_drop]; omega)) only [go_sem, ↓reduceIte, Nat.reduceEqDiff, reduceCtorEq, q0, qx, q1, q2]; rfl) ?_
          refine Qcall ?_
          refine ACall_eq (same_ok _ _ _ _) ?_
          refine ⟨rfl, ?_⟩
          refine Q_nil ?_
          have tr : ∀ y0 y1 y2 y4 y5 y6 y7 y9 y10 y11 y13 y14 y15 y16 y28 y30 y31 y32 y39 y48 z0 z1 z2 z3 z4 z5 : AV, trim [(39, z5), (38, z4), (37, z3), (36, z2), (35, z1), (34, z0), (0, y0), (1, y1), (2, y2), (4, y4), (5, y5), (6, y6), (7, y7), (9, y9), (10, y10), (11, y11), (13, y13), (14, y14), (15, y15), (16, y16), (28, y28), (30, y30), (31, y31), (32, y32), (39, y39), (48, y48)] [(0, y0), (1, y1), (2, y2), (4, y4), (5, y5), (6, y6), (7, y7), (9, y9), (10, y10), (11, y11), (13, y13), (14, y14), (15, y15), (16, y16), (28, y28), (30, y30), (31, y31), (32, y32), (39, y39), (48, y48)] = [(0, y0), (1, y1), (2, y2), (4, y4), (5, y5), (6, y6), (7, y7), (9, y9), (10, y10), (11, y11), (13, y13), (14, y14), (15, y15), (16, y16), (28, y28), (30, y30), (31, y31), (32, y32), (39, z5), (48, y48)] := fun y0 y1 y2 y4 y5 y6 y7 y9 y10 y11 y13 y14 y15 y16 y28 y30 y31 y32 y39 y48 z0 z1 z2 z3 z4 z5 => rfl
          refine R_nil (tr _ _ _ _ _ _ _ _ _ _ _ _ _ _ _ _ _ _ _ _ _ _ _ _ _ _) ?_; clear tr
          refine then_n ?_
          refine cdd (fun h5 => ?_) (fun h5 => ?_)
          · try simp only [decide_eq_true_eq, decide_eq_false_iff_not, Bool.not_eq_true', Bool.not_eq_false', beq_iff_eq, beq_eq_false_iff_ne, ne_eq] at h5
            refine at_seq rfl ?_
            refine rg rfl ?_
            refine Rq ?_
            refine Rq ?_
            refine Rq ?_
            refine R_q rfl (by simp (disch := first | omega | (simp only [List.length_map, List.length_append, List.length_set, List.length_cons, List.length_nil, List.length_take, List.length_drop]; omega)) only [go_sem, ↓reduceIte, Nat.reduceEqDiff, reduceCtorEq, q0, qx, q1, q2]; rfl) ?_
            refine Rq ?_
            refine Rq ?_
            have lq0 := hget_lt q0
            have lqx := hget_lt qx
            have lq1 := hget_lt q1
            have lq2 := hget_lt q2
            refine A_store ty3 (by simp (disch := first | omega | (simp only [List.length_map, List.length_append, List.length_set, List.length_cons, List.length_nil, List.length_take, List.length_drop]; omega)) only [go_sem, ↓reduceIte, Nat.reduceEqDiff, reduceCtorEq, q0, qx, q1, q2]; rfl) (by simp (disch := first | omega | (simp only [List.length_map, List.length_append, List.length_set, List.length_cons, List.length_nil, List.length_take, List.length_drop]; omega)) only [go_sem, ↓reduceIte, Nat.reduceEqDiff, reduceCtorEq, q0, qx, q1, q2]; rfl) q2 ⟨by omega, rfl, by simp only [List.length_map]; omega⟩ (setL_map _ _ _) ?_
            intro HE w5
            have ew5 := w5.len
            have q0 := (w5.old _ (by omega)).trans q0
            have qx := (w5.old _ (by omega)).trans qx
            have q1 := (w5.old _ (by omega)).trans q1
            have q2 := w5.new
            have tr : ∀ y0 y1 y2 y4 y5 y6 y7 y9 y10 y11 y13 y14 y15 y16 y28 y30 y31 y32 y39 y48 z0 z1 z2 z3 z4 z5 : AV, trim [(45, z5), (44, z4), (43, z3), (42, z2), (41, z1), (40, z0), (0, y0), (1, y1), (2, y2), (4, y4), (5, y5), (6, y6), (7, y7), (9, y9), (10, y10), (11, y11), (13, y13), (14, y14), (15, y15), (16, y16), (28, y28), (30, y30), (31, y31), (32, y32), (39, y39), (48, y48)] [(0, y0), (1, y1), (2, y2), (4, y4), (5, y5), (6, y6), (7, y7), (9, y9), (10, y10), (11, y11), (13, y13), (14, y14), (15, y15), (16, y16), (28, y28), (30, y30), (31, y31), (32, y32), (39, y39), (48, y48)] = [(0, y0), (1, y1), (2, y2), (4, y4), (5, y5), (6, y6), (7, y7), (9, y9), (10, y10), (11, y11), (13, y13), (14, y14), (15, y15), (16, y16), (28, y28), (30, y30), (31, y31), (32, y32), (39, y39), (48, y48)] := fun y0 y1 y2 y4 y5 y6 y7 y9 y10 y11 y13 y14 y15 y16 y28 y30 y31 y32 y39 y48 z0 z1 z2 z3 z4 z5 => rfl
            refine R_nil (tr _ _ _ _ _ _ _ _ _ _ _ _ _ _ _ _ _ _ _ _ _ _ _ _ _ _) ?_; clear tr
            refine then_n ?_
            refine rg rfl ?_
            refine Rq ?_
            have tr : ∀ y0 y1 y2 y4 y5 y6 y7 y9 y10 y11 y13 y14 y15 y16 y28 y30 y31 y32 y39 y48 z0 : AV, trim [(10, z0), (0, y0), (1, y1), (2, y2), (4, y4), (5, y5), (6, y6), (7, y7), (9, y9), (10, y10), (11, y11), (13, y13), (14, y14), (15, y15), (16, y16), (28, y28), (30, y30), (31, y31), (32, y32), (39, y39), (48, y48)] [(0, y0), (1, y1), (2, y2), (4, y4), (5, y5), (6, y6), (7, y7), (9, y9), (10, y10), (11, y11), (13, y13), (14, y14), (15, y15), (16, y16), (28, y28), (30, y30), (31, y31), (32, y32), (39, y39), (48, y48)] = [(0, y0), (1, y1), (2, y2), (4, y4), (5, y5), (6, y6), (7, y7), (9, y9), (10, z0), (11, y11), (13, y13), (14, y14), (15, y15), (16, y16), (28, y28), (30, y30), (31, y31), (32, y32), (39, y39), (48, y48)] := fun y0 y1 y2 y4 y5 y6 y7 y9 y10 y11 y13 y14 y15 y16 y28 y30 y31 y32 y39 y48 z0 => rfl
            refine R_nil (tr _ _ _ _ _ _ _ _ _ _ _ _ _ _ _ _ _ _ _ _ _) ?_; clear tr
            refine blk_n ?_
            refine then_n ?_
            refine rg rfl ?_
            refine Rq ?_
            refine Rq ?_
            have tr : ∀ y0 y1 y2 y4 y5 y6 y7 y9 y10 y11 y13 y14 y15 y16 y28 y30 y31 y32 y39 y48 z0 z1 : AV, trim [(31, z1), (46, z0), (0, y0), (1, y1), (2, y2), (4, y4), (5, y5), (6, y6), (7, y7), (9, y9), (10, y10), (11, y11), (13, y13), (14, y14), (15, y15), (16, y16), (28, y28), (30, y30), (31, y31), (32, y32), (39, y39), (48, y48)] [(0, y0), (1, y1), (2, y2), (4, y4), (5, y5), (6, y6), (7, y7), (9, y9), (10, y10), (11, y11), (13, y13), (14, y14), (15, y15), (16, y16), (28, y28), (30, y30), (31, y31), (32, y32), (39, y39), (48, y48)] = [(0, y0), (1, y1), (2, y2), (4, y4), (5, y5), (6, y6), (7, y7), (9, y9), (10, y10), (11, y11), (13, y13), (14, y14), (15, y15), (16, y16), (28, y28), (30, y30), (31, z1), (32, y32), (39, y39), (48, y48)] := fun y0 y1 y2 y4 y5 y6 y7 y9 y10 y11 y13 y14 y15 y16 y28 y30 y31 y32 y39 y48 z0 z1 => rfl
            refine R_nil (tr _ _ _ _ _ _ _ _ _ _ _ _ _ _ _ _ _ _ _ _ _ _) ?_; clear tr
            refine then_n ?_
            exact ⟨_, _, ⟨w + 1, true, (N2.set w (gt N2 w + 1)), _, _, _, rfl, rfl, by exact q0, by exact qx, by first | (show HB.length < HE.length; omega) | omega, by first | exact .inr ⟨h0, by rw [List.length_set]; exact hNl, b1, b2, rfl, rfl, hb1, hb2, hbb, q1, q2⟩ | exact .inr ⟨h0, hNl, b1, b2, rfl, rfl, hb1, hb2, hbb, q1, q2⟩, by omega, by first | exact ⟨fun _ => ⟨w, by omega, by assumption⟩, fun _ => rfl⟩ | exact ⟨fun hh => by obtain ⟨i, hi, he⟩ := hmet.1 hh; exact ⟨i, by omega, he⟩, fun ⟨i, hi, he⟩ => hmet.2 ⟨i, (by by_cases hiw : i = w; (subst hiw; exact absurd he (by assumption)); (omega)), he⟩⟩, by first | exact hNb | (intro i; rw [gt_set _ _ _ _ (by omega)]; split; (omega); (exact hNb i)), by first | (intro i hi; exact hNc i (by omega)) | (intro i hi; rw [gt_set _ _ _ _ (by omega), if_neg (by omega)]; exact hNc i (by omega))⟩, by rfl, by omega⟩
          · try simp only [decide_eq_true_eq, decide_eq_false_iff_not, Bool.not_eq_true', Bool.not_eq_false', beq_iff_eq, beq_eq_false_iff_ne, ne_eq] at h5
            refine at_skip rfl ?_
            refine blk_n ?_
            refine then_n ?_
            refine rg rfl ?_
            refine Rq ?_
            refine Rq ?_
            have tr : ∀ y0 y1 y2 y4 y5 y6 y7 y9 y10 y11 y13 y14 y15 y16 y28 y30 y31 y32 y39 y48 z0 z1 : AV, trim [(31, z1), (46, z0), (0, y0), (1, y1), (2, y2), (4, y4), (5, y5), (6, y6), (7, y7), (9, y9), (10, y10), (11, y11), (13, y13), (14, y14), (15, y15), (16, y16), (28, y28), (30, y30), (31, y31), (32, y32), (39, y39), (48, y48)] [(0, y0), (1, y1), (2, y2), (4, y4), (5, y5), (6, y6), (7, y7), (9, y9), (10, y10), (11, y11), (13, y13), (14, y14), (15, y15), (16, y16), (28, y28), (30, y30), (31, y31), (32, y32), (39, y39), (48, y48)] = [(0, y0), (1, y1), (2, y2), (4, y4), (5, y5), (6, y6), (7, y7), (9, y9), (10, y10), (11, y11), (13, y13), (14, y14), (15, y15), (16, y16), (28, y28), (30, y30), (31, z1), (32, y32), (39, y39), (48, y48)] := fun y0 y1 y2 y4 y5 y6 y7 y9 y10 y11 y13 y14 y15 y16 y28 y30 y31 y32 y39 y48 z0 z1 => rfl
            refine R_nil (tr _ _ _ _ _ _ _ _ _ _ _ _ _ _ _ _ _ _ _ _ _ _) ?_; clear tr
            refine then_n ?_
            exact ⟨_, _, ⟨w + 1, met, N2, _, _, _, rfl, rfl, by exact q0, by exact qx, by first | (show HB.length < HE.length; omega) | omega, by first | exact .inr ⟨h0, by rw [List.length_set]; exact hNl, b1, b2, rfl, rfl, hb1, hb2, hbb, q1, q2⟩ | exact .inr ⟨h0, hNl, b1, b2, rfl, rfl, hb1, hb2, hbb, q1, q2⟩, by omega, by first | exact ⟨fun _ => ⟨w, by omega, by assumption⟩, fun _ => rfl⟩ | exact ⟨fun hh => by obtain ⟨i, hi, he⟩ := hmet.1 hh; exact ⟨i, by omega, he⟩, fun ⟨i, hi, he⟩ => hmet.2 ⟨i, (by by_cases hiw : i = w; (subst hiw; exact absurd he (by assumption)); (omega)), he⟩⟩, by first | exact hNb | (intro i; rw [gt_set _ _ _ _ (by omega)]; split; (omega); (exact hNb i)), by first | (intro i hi; exact hNc i (by omega)) | (intro i hi; rw [gt_set _ _ _ _ (by omega), if_neg (by omega)]; exact hNc i (by omega))⟩, by rfl, by omega⟩
        · try simp only [decide_eq_true_eq, decide_eq_false_iff_not, Bool.not_eq_true', Bool.not_eq_false', beq_iff_eq, beq_eq_false_iff_ne, ne_eq] at h4
          refine at_exit rfl ?_
          refine then_x ?_
          refine then_x ?_
          refine blk_x ?_
          refine then_n ?_
          refine at_seq rfl ?_
          refine rg rfl ?_
          refine Rq ?_
          refine Rq ?_
          have tr : ∀ y0 y1 y2 y4 y5 y6 y7 y9 y10 y11 y13 y14 y15 y16 y28 y30 y31 y32 y39 y48 z0 z1 : AV, trim [(48, z1), (47, z0), (0, y0), (1, y1), (2, y2), (4, y4), (5, y5), (6, y6), (7, y7), (9, y9), (10, y10), (11, y11), (13, y13), (14, y14), (15, y15), (16, y16), (28, y28), (30, y30), (31, y31), (32, y32), (39, y39), (48, y48)] [(0, y0), (1, y1), (2, y2), (4, y4), (5, y5), (6, y6), (7, y7), (9, y9), (10, y10), (11, y11), (13, y13), (14, y14), (15, y15), (16, y16), (28, y28), (30, y30), (31, y31), (32, y32), (39, y39), (48, y48)] = [(0, y0), (1, y1), (2, y2), (4, y4), (5, y5), (6, y6), (7, y7), (9, y9), (10, y10), (11, y11), (13, y13), (14, y14), (15, y15), (16, y16), (28, y28), (30, y30), (31, y31), (32, y32), (39, y39), (48, z1)] := fun y0 y1 y2 y4 y5 y6 y7 y9 y10 y11 y13 y14 y15 y16 y28 y30 y31 y32 y39 y48 z0 z1 => rfl
          refine R_nil (tr _ _ _ _ _ _ _ _ _ _ _ _ _ _ _ _ _ _ _ _ _ _) ?_; clear tr
          refine then_n ?_
          refine cdd (fun h6 => ?_) (fun h6 => ?_)
          · try simp only [decide_eq_true_eq, decide_eq_false_iff_not, Bool.not_eq_true', Bool.not_eq_false', beq_iff_eq, beq_eq_false_iff_ne, ne_eq] at h6
            refine at_seq rfl ?_
            refine rg rfl ?_
            have hbnd : ∀ c2, o2 = .own 1 c2 0 (refN L u).length → c2 < HF.length := fun c2 e => by
              rcases hO with ⟨_, _, _, h⟩ | ⟨_, _, c1, c3, _, h, _, _, _, _, h8⟩
              · rw [h] at e; cases e
              · rw [h] at e; cases e; exact hget_lt h8
            have hmn : ¬ norm (gt L u) ∈ (refN L u).map norm := fun hh => by have := hmet.2 (by obtain ⟨i, hi, he⟩ := mem_norm.1 hh; exact ⟨i, by omega, he⟩); simp_all
            refine Rq ?_
            refine R_q rfl (by simp (disch := first | omega | (simp only [List.length_map, List.length_append, List.length_set, List.length_cons, List.length_nil, List.length_take, List.length_drop]; omega)) only [go_sem, ↓reduceIte, Nat.reduceEqDiff, reduceCtorEq, q0, qx, q1, q2]; rfl) ?_
            refine A_buildSlice (bs41 _ _ _ _ (gt L u) (by simp (disch := first | omega | (simp only [List.length_map, List.length_append, List.length_set, List.length_cons, List.length_nil, List.length_take, List.length_drop]; omega)) only [go_sem, ↓reduceIte, Nat.reduceEqDiff, reduceCtorEq, q0, qx, q1, q2])) ?_
            intro HG n7
            have en7 := n7.len
            have q0 := (n7.old _ (hget_lt q0)).trans q0
            have qx := (n7.old _ (hget_lt qx)).trans qx
            have qn := n7.new
            have hO := hO.mono fun b hb k hk => (n7.old _ (hget_lt hk)).trans hk
            have lq0 := hget_lt q0
            have lqx := hget_lt qx
            have lqn := hget_lt qn
            obtain ⟨b, hbl, hbn, hap⟩ := pn_append1 (lim := H.length) hO qn (by omega) (by omega) (by omega)
            have hN := hO.num
            refine A_append (by simp (disch := first | omega | (simp only [List.length_map, List.length_append, List.length_set, List.length_cons, List.length_nil, List.length_take, List.length_drop]; omega)) only [go_sem, ↓reduceIte, Nat.reduceEqDiff, reduceCtorEq, q0, qx, q1, q2]; exact hap) ?_
            intro HK g7
            have eg7 := g7.len
            have q0 := (g7.old _ (by omega) lq0).trans q0
            have qq := g7.new
            have hN := hN.keep fun b2 k e hk => (g7.old _ (fun hh => hbn b2 e hh.symm) (hget_lt hk)).trans hk
            refine Rq ?_
            have tr : ∀ y0 y1 y2 y4 y5 y6 y7 y9 y10 y11 y13 y14 y15 y16 y28 y30 y31 y32 y39 y48 z0 z1 z2 z3 z4 : AV, trim [(6, z4), (52, z3), (51, z2), (50, z1), (49, z0), (0, y0), (1, y1), (2, y2), (4, y4), (5, y5), (6, y6), (7, y7), (9, y9), (10, y10), (11, y11), (13, y13), (14, y14), (15, y15), (16, y16), (28, y28), (30, y30), (31, y31), (32, y32), (39, y39), (48, y48)] [(0, y0), (1, y1), (2, y2), (4, y4), (5, y5), (6, y6), (7, y7), (9, y9), (10, y10), (11, y11), (13, y13), (14, y14), (15, y15), (16, y16), (28, y28), (30, y30), (31, y31), (32, y32), (39, y39), (48, y48)] = [(0, y0), (1, y1), (2, y2), (4, y4), (5, y5), (6, z4), (7, y7), (9, y9), (10, y10), (11, y11), (13, y13), (14, y14), (15, y15), (16, y16), (28, y28), (30, y30), (31, y31), (32, y32), (39, y39), (48, y48)] := fun y0 y1 y2 y4 y5 y6 y7 y9 y10 y11 y13 y14 y15 y16 y28 y30 y31 y32 y39 y48 z0 z1 z2 z3 z4 => rfl
            refine R_nil (tr _ _ _ _ _ _ _ _ _ _ _ _ _ _ _ _ _ _ _ _ _ _ _ _ _) ?_; clear tr
            refine then_n ?_
            refine rg rfl ?_
            refine Rq ?_
            have hNd : ∀ b2, o2 = .own 1 b2 0 (refN L u).length → HG.length ≠ b2 := fun b2 e hh => by have := hbnd b2 e; omega
            refine A_buildSlice (bs40' _ _ _ _ 1 (by simp (disch := first | omega | (simp only [List.length_map, List.length_append, List.length_set, List.length_cons, List.length_nil, List.length_take, List.length_drop]; omega)) only [go_sem, ↓reduceIte, Nat.reduceEqDiff, reduceCtorEq, q0, qx, q1, q2])) ?_
            intro HM n9
            have en9 := n9.len
            have q0 := (n9.old _ (hget_lt q0)).trans q0
            have qq := (n9.old _ (hget_lt qq)).trans qq
            have qn := n9.new
            have hN := hN.keep fun b2 k e hk => (n9.old _ (hget_lt hk)).trans hk
            have lq0 := hget_lt q0
            have lqq := hget_lt qq
            have lqn := hget_lt qn
            obtain ⟨b3, hb3, hp3, hap2⟩ := pn_append2 (lim := H.length) (p := HG.length) hN hNd (by omega) qn (by omega) (by omega) (by omega)
            refine A_append (by simp (disch := first | omega | (simp only [List.length_map, List.length_append, List.length_set, List.length_cons, List.length_nil, List.length_take, List.length_drop]; omega)) only [go_sem, ↓reduceIte, Nat.reduceEqDiff, reduceCtorEq, q0, qx, q1, q2]; exact hap2) ?_
            intro HQ g9
            have eg9 := g9.len
            have q0 := (g9.old _ (by omega) lq0).trans q0
            have qq := (g9.old _ (by omega) lqq).trans qq
            have qz := g9.new
            refine Rq ?_
            have tr : ∀ y0 y1 y2 y4 y5 y6 y7 y9 y10 y11 y13 y14 y15 y16 y28 y30 y31 y32 y39 y48 z0 z1 z2 z3 : AV, trim [(7, z3), (55, z2), (54, z1), (53, z0), (0, y0), (1, y1), (2, y2), (4, y4), (5, y5), (6, y6), (7, y7), (9, y9), (10, y10), (11, y11), (13, y13), (14, y14), (15, y15), (16, y16), (28, y28), (30, y30), (31, y31), (32, y32), (39, y39), (48, y48)] [(0, y0), (1, y1), (2, y2), (4, y4), (5, y5), (6, y6), (7, y7), (9, y9), (10, y10), (11, y11), (13, y13), (14, y14), (15, y15), (16, y16), (28, y28), (30, y30), (31, y31), (32, y32), (39, y39), (48, y48)] = [(0, y0), (1, y1), (2, y2), (4, y4), (5, y5), (6, y6), (7, z3), (9, y9), (10, y10), (11, y11), (13, y13), (14, y14), (15, y15), (16, y16), (28, y28), (30, y30), (31, y31), (32, y32), (39, y39), (48, y48)] := fun y0 y1 y2 y4 y5 y6 y7 y9 y10 y11 y13 y14 y15 y16 y28 y30 y31 y32 y39 y48 z0 z1 z2 z3 => rfl
            refine R_nil (tr _ _ _ _ _ _ _ _ _ _ _ _ _ _ _ _ _ _ _ _ _ _ _ _) ?_; clear tr
            refine blk_n ?_
            refine then_n ?_
            refine rg rfl ?_
            refine Rq ?_
            refine Rq ?_
            have tr : ∀ y0 y1 y2 y4 y5 y6 y7 y9 y10 y11 y13 y14 y15 y16 y28 y30 y31 y32 y39 y48 z0 z1 : AV, trim [(15, z1), (56, z0), (0, y0), (1, y1), (2, y2), (4, y4), (5, y5), (6, y6), (7, y7), (9, y9), (10, y10), (11, y11), (13, y13), (14, y14), (15, y15), (16, y16), (28, y28), (30, y30), (31, y31), (32, y32), (39, y39), (48, y48)] [(0, y0), (1, y1), (2, y2), (4, y4), (5, y5), (6, y6), (7, y7), (9, y9), (10, y10), (11, y11), (13, y13), (14, y14), (15, y15), (16, y16), (28, y28), (30, y30), (31, y31), (32, y32), (39, y39), (48, y48)] = [(0, y0), (1, y1), (2, y2), (4, y4), (5, y5), (6, y6), (7, y7), (9, y9), (10, y10), (11, y11), (13, y13), (14, y14), (15, z1), (16, y16), (28, y28), (30, y30), (31, y31), (32, y32), (39, y39), (48, y48)] := fun y0 y1 y2 y4 y5 y6 y7 y9 y10 y11 y13 y14 y15 y16 y28 y30 y31 y32 y39 y48 z0 z1 => rfl
            refine R_nil (tr _ _ _ _ _ _ _ _ _ _ _ _ _ _ _ _ _ _ _ _ _ _) ?_; clear tr
            refine then_n ?_
            exact ⟨_, _, ⟨u + 1, (.own 2 HG.length 0 ((refN L u).length + 1)), (.own 1 HM.length 0 ((refN L u).length + 1)), N2 ++ [1], _, _, _, _, _, _, _, _, _, _, rfl, rfl, by exact q0, by first | (show H1.length ≤ HQ.length; omega) | (show H1.length ≤ HF.length; omega), by omega, by first | exact pn_new hmn qq g9.new hN hp3 (by omega) (by omega) rfl rfl | exact pn_old hO (mem_norm.2 (by obtain ⟨i, hi, he⟩ := hmet.1 (by simp_all); exact ⟨i, by omega, he⟩)), by first | (intro i; rw [gt_app']; split; (exact ⟨(hNb i).1, by have := (hNb i).2; omega⟩); (split; (omega); (exact ⟨Int.le_refl _, by show (0 : Int) ≤ _; omega⟩))) | (intro i; exact ⟨(hNb i).1, by have := (hNb i).2; omega⟩)⟩, by rfl, by omega⟩
          · try simp only [decide_eq_true_eq, decide_eq_false_iff_not, Bool.not_eq_true', Bool.not_eq_false', beq_iff_eq, beq_eq_false_iff_ne, ne_eq] at h6
            refine at_skip rfl ?_
            refine blk_n ?_
            refine then_n ?_
            refine rg rfl ?_
            refine Rq ?_
            refine Rq ?_
            have tr : ∀ y0 y1 y2 y4 y5 y6 y7 y9 y10 y11 y13 y14 y15 y16 y28 y30 y31 y32 y39 y48 z0 z1 : AV, trim [(15, z1), (56, z0), (0, y0), (1, y1), (2, y2), (4, y4), (5, y5), (6, y6), (7, y7), (9, y9), (10, y10), (11, y11), (13, y13), (14, y14), (15, y15), (16, y16), (28, y28), (30, y30), (31, y31), (32, y32), (39, y39), (48, y48)] [(0, y0), (1, y1), (2, y2), (4, y4), (5, y5), (6, y6), (7, y7), (9, y9), (10, y10), (11, y11), (13, y13), (14, y14), (15, y15), (16, y16), (28, y28), (30, y30), (31, y31), (32, y32), (39, y39), (48, y48)] = [(0, y0), (1, y1), (2, y2), (4, y4), (5, y5), (6, y6), (7, y7), (9, y9), (10, y10), (11, y11), (13, y13), (14, y14), (15, z1), (16, y16), (28, y28), (30, y30), (31, y31), (32, y32), (39, y39), (48, y48)] := fun y0 y1 y2 y4 y5 y6 y7 y9 y10 y11 y13 y14 y15 y16 y28 y30 y31 y32 y39 y48 z0 z1 => rfl
            refine R_nil (tr _ _ _ _ _ _ _ _ _ _ _ _ _ _ _ _ _ _ _ _ _ _) ?_; clear tr
            refine then_n ?_
            exact ⟨_, _, ⟨u + 1, o1, o2, N2, _, _, _, _, _, _, _, _, _, _, rfl, rfl, by exact q0, by first | (show H1.length ≤ HQ.length; omega) | (show H1.length ≤ HF.length; omega), by omega, by first | exact pn_new hmn qq g9.new hN hp3 (by omega) (by omega) rfl rfl | exact pn_old hO (mem_norm.2 (by obtain ⟨i, hi, he⟩ := hmet.1 (by simp_all); exact ⟨i, by omega, he⟩)), by first | (intro i; rw [gt_app']; split; (exact ⟨(hNb i).1, by have := (hNb i).2; omega⟩); (split; (omega); (exact ⟨Int.le_refl _, by show (0 : Int) ≤ _; omega⟩))) | (intro i; exact ⟨(hNb i).1, by have := (hNb i).2; omega⟩)⟩, by rfl, by omega⟩
  · try simp only [decide_eq_true_eq, decide_eq_false_iff_not, Bool.not_eq_true', Bool.not_eq_false', beq_iff_eq, beq_eq_false_iff_ne, ne_eq] at h1
    refine at_exit rfl ?_
    refine then_x ?_
    refine then_x ?_
    refine blk_x ?_
    refine then_n ?_
    refine at_seq rfl ?_
    refine rg rfl ?_
    refine Rq ?_
    refine Rq ?_
    refine Rq ?_
    refine Rq ?_
    have tr : ∀ y0 y1 y2 y4 y5 y6 y7 y9 y10 y11 y13 y14 y15 y16 y28 y30 y31 y32 y39 y48 z0 z1 z2 z3 : AV, trim [(5, z3), (4, z2), (58, z1), (57, z0), (0, y0), (1, y1), (2, y2), (4, y4), (5, y5), (6, y6), (7, y7), (9, y9), (10, y10), (11, y11), (13, y13), (14, y14), (15, y15), (16, y16), (28, y28), (30, y30), (31, y31), (32, y32), (39, y39), (48, y48)] [(0, y0), (1, y1), (2, y2), (4, y4), (5, y5), (6, y6), (7, y7), (9, y9), (10, y10), (11, y11), (13, y13), (14, y14), (15, y15), (16, y16), (28, y28), (30, y30), (31, y31), (32, y32), (39, y39), (48, y48)] = [(0, y0), (1, y1), (2, y2), (4, z2), (5, z3), (6, y6), (7, y7), (9, y9), (10, y10), (11, y11), (13, y13), (14, y14), (15, y15), (16, y16), (28, y28), (30, y30), (31, y31), (32, y32), (39, y39), (48, y48)] := fun y0 y1 y2 y4 y5 y6 y7 y9 y10 y11 y13 y14 y15 y16 y28 y30 y31 y32 y39 y48 z0 z1 z2 z3 => rfl
    refine R_nil (tr _ _ _ _ _ _ _ _ _ _ _ _ _ _ _ _ _ _ _ _ _ _ _ _) ?_; clear tr
    refine then_n ?_
    refine at_ret rfl ?_
    obtain rfl : u = L.length := by omega
    have hfz := (hO.lo (by omega : H.length ≤ H1.length)).frz (base := H.length) (d := 5)
    refine fpure ?_
    exact ⟨⟨_, congrArg AV.tup (by rw [hfz.1]; rfl)⟩, rfl⟩

end Go.Proofs.Ytdicnojnkbmdlaa
