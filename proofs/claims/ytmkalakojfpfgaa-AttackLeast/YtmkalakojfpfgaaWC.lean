/-
  Walks of chapter 46. The steps are written by program (walk.py).
-/
import Derived.Test.YtmkalakojfpfgaaQ3
set_option linter.unusedSimpArgs false
set_option linter.unusedVariables false
set_option maxHeartbeats 40000000
set_option maxRecDepth 4000
namespace Go.Proofs.Ytmkalakojfpfgaa
open Go Go.Am

theorem solve_step (rows : Tb) (q la0 : Int) (g : Good rows q la0) (k : Nat) (ih : ∀ k', k' < k → SolveAt rows q la0 k') : SolveAt rows q la0 k := by
  intro lim H bk N K c la st hlim qk tab hN hk
  subst hN
  obtain ⟨g1, g2, g3, g4, g5, g6, g7, g8, g9, g10, g11⟩ := id g
  obtain ⟨⟨hcl, hcr⟩, hl0, hl1⟩ := id st
  have hq0 : 0 ≤ q := by omega
  have qk0 := qk
  have lqk := hget_lt qk
  have hir := idx_rng hq0 st
  have htl := tab.len
  have hpr := pot_rng g c (sum_nn c fun y hy => (hcr y hy).1) la
  have q0 : True := trivial
  have qs : True := trivial
  refine ACall_own (fa := fa24) rfl rfl rfl rfl ?_
  have tr : ∀ a0 a1 a2 : AV, env0 fa24.keep [a0, a1, a2] = [(0, a0), (1, a1), (2, a2), (3, .any), (4, .any), (6, .any), (7, .any), (8, .any), (9, .any), (10, .any), (11, .any), (19, .any), (30, .any), (42, .any), (49, .any), (75, .any)] := fun a0 a1 a2 => rfl
  refine W_to (tr _ _ _) ?_; clear tr
  refine at_seq rfl ?_
  refine rg rfl ?_
  refine A_box rfl (by simp (disch := first | omega | (simp only [List.length_map, List.length_append, List.length_set, List.length_cons, List.length_nil, List.length_take, List.length_drop]; omega)) only [go_sem, ↓reduceIte, Nat.reduceEqDiff, reduceCtorEq]; rfl) ?_
  intro H1 n1
  have en1 := n1.len
  have qk := (n1.old _ (hget_lt qk)).trans qk
  have q0 := n1.new
  have tu := (TabUp.refl qk0 tab).new n1
  refine A_box rfl (by simp (disch := first | omega | (simp only [List.length_map, List.length_append, List.length_set, List.length_cons, List.length_nil, List.length_take, List.length_drop]; omega)) only [go_sem, ↓reduceIte, Nat.reduceEqDiff, reduceCtorEq]; rfl) ?_
  intro H2 n2
  have en2 := n2.len
  have qk := (n2.old _ (hget_lt qk)).trans qk
  have q0 := (n2.old _ (hget_lt q0)).trans q0
  have qs := n2.new
  have tu := tu.new n2
  refine Rq ?_
  have tr : ∀ y0 y1 y2 y3 y4 y6 y7 y8 y9 y10 y11 y19 y30 y42 y49 y75 z0 z1 z2 : AV, trim [(6, z2), (4, z1), (3, z0), (0, y0), (1, y1), (2, y2), (3, y3), (4, y4), (6, y6), (7, y7), (8, y8), (9, y9), (10, y10), (11, y11), (19, y19), (30, y30), (42, y42), (49, y49), (75, y75)] [(0, y0), (1, y1), (2, y2), (3, y3), (4, y4), (6, y6), (7, y7), (8, y8), (9, y9), (10, y10), (11, y11), (19, y19), (30, y30), (42, y42), (49, y49), (75, y75)] = [(0, y0), (1, y1), (2, y2), (3, z0), (4, z1), (6, z2), (7, y7), (8, y8), (9, y9), (10, y10), (11, y11), (19, y19), (30, y30), (42, y42), (49, y49), (75, y75)] := fun y0 y1 y2 y3 y4 y6 y7 y8 y9 y10 y11 y19 y30 y42 y49 y75 z0 z1 z2 => rfl
  refine R_nil (tr _ _ _ _ _ _ _ _ _ _ _ _ _ _ _ _ _ _ _) ?_; clear tr
  refine then_n ?_
  refine at_seq rfl ?_
  refine rg rfl ?_
  refine R_q rfl (by simp (disch := first | omega | (simp only [List.length_map, List.length_append, List.length_set, List.length_cons, List.length_nil, List.length_take, List.length_drop]; omega)) only [go_sem, ↓reduceIte, Nat.reduceEqDiff, reduceCtorEq, q0, qs, qk]; rfl) ?_
  refine R_q rfl (by simp (disch := first | omega | (simp only [List.length_map, List.length_append, List.length_set, List.length_cons, List.length_nil, List.length_take, List.length_drop]; omega)) only [go_sem, ↓reduceIte, Nat.reduceEqDiff, reduceCtorEq, q0, qs, qk]; rfl) ?_
  refine Rcall ?_
  refine ACall_eq (index_ok _ _ rows q la0 g c la st _ (.inl rfl)) ?_
  refine Rq ?_
  have tr : ∀ y0 y1 y2 y3 y4 y6 y7 y8 y9 y10 y11 y19 y30 y42 y49 y75 z0 z1 z2 z3 : AV, trim [(7, z3), (14, z2), (13, z1), (12, z0), (0, y0), (1, y1), (2, y2), (3, y3), (4, y4), (6, y6), (7, y7), (8, y8), (9, y9), (10, y10), (11, y11), (19, y19), (30, y30), (42, y42), (49, y49), (75, y75)] [(0, y0), (1, y1), (2, y2), (3, y3), (4, y4), (6, y6), (7, y7), (8, y8), (9, y9), (10, y10), (11, y11), (19, y19), (30, y30), (42, y42), (49, y49), (75, y75)] = [(0, y0), (1, y1), (2, y2), (3, y3), (4, y4), (6, y6), (7, z3), (8, y8), (9, y9), (10, y10), (11, y11), (19, y19), (30, y30), (42, y42), (49, y49), (75, y75)] := fun y0 y1 y2 y3 y4 y6 y7 y8 y9 y10 y11 y19 y30 y42 y49 y75 z0 z1 z2 z3 => rfl
  refine R_nil (tr _ _ _ _ _ _ _ _ _ _ _ _ _ _ _ _ _ _ _ _) ?_; clear tr
  refine then_n ?_
  refine at_seq rfl ?_
  refine at_seq rfl ?_
  refine rg rfl ?_
  refine Rq ?_
  refine Rq ?_
  refine Rq ?_
  refine R_q rfl (by simp (disch := first | omega | (simp only [List.length_map, List.length_append, List.length_set, List.length_cons, List.length_nil, List.length_take, List.length_drop]; omega)) only [go_sem, ↓reduceIte, Nat.reduceEqDiff, reduceCtorEq, q0, qs, qk]; rfl) ?_
  refine Rq ?_
  have tr : ∀ y0 y1 y2 y3 y4 y6 y7 y8 y9 y10 y11 y19 y30 y42 y49 y75 z0 z1 z2 z3 z4 : AV, trim [(19, z4), (18, z3), (17, z2), (16, z1), (15, z0), (0, y0), (1, y1), (2, y2), (3, y3), (4, y4), (6, y6), (7, y7), (8, y8), (9, y9), (10, y10), (11, y11), (19, y19), (30, y30), (42, y42), (49, y49), (75, y75)] [(0, y0), (1, y1), (2, y2), (3, y3), (4, y4), (6, y6), (7, y7), (8, y8), (9, y9), (10, y10), (11, y11), (19, y19), (30, y30), (42, y42), (49, y49), (75, y75)] = [(0, y0), (1, y1), (2, y2), (3, y3), (4, y4), (6, y6), (7, y7), (8, y8), (9, y9), (10, y10), (11, y11), (19, z4), (30, y30), (42, y42), (49, y49), (75, y75)] := fun y0 y1 y2 y3 y4 y6 y7 y8 y9 y10 y11 y19 y30 y42 y49 y75 z0 z1 z2 z3 z4 => rfl
  refine R_nil (tr _ _ _ _ _ _ _ _ _ _ _ _ _ _ _ _ _ _ _ _ _) ?_; clear tr
  refine then_n ?_
  refine cdd (fun h1 => ?_) (fun h1 => ?_)
  · try simp only [decide_eq_true_eq, decide_eq_false_iff_not, Bool.not_eq_true', Bool.not_eq_false', beq_iff_eq, beq_eq_false_iff_ne, ne_eq] at h1
    refine at_seq rfl ?_
    refine rg rfl ?_
    refine Rq ?_
    refine Rq ?_
    refine Rq ?_
    refine R_q rfl (by simp (disch := first | omega | (simp only [List.length_map, List.length_append, List.length_set, List.length_cons, List.length_nil, List.length_take, List.length_drop]; omega)) only [go_sem, ↓reduceIte, Nat.reduceEqDiff, reduceCtorEq, q0, qs, qk]; rfl) ?_
    refine Rq ?_
    have tr : ∀ y0 y1 y2 y3 y4 y6 y7 y8 y9 y10 y11 y19 y30 y42 y49 y75 z0 z1 z2 z3 z4 : AV, trim [(6, z4), (23, z3), (22, z2), (21, z1), (20, z0), (0, y0), (1, y1), (2, y2), (3, y3), (4, y4), (6, y6), (7, y7), (8, y8), (9, y9), (10, y10), (11, y11), (19, y19), (30, y30), (42, y42), (49, y49), (75, y75)] [(0, y0), (1, y1), (2, y2), (3, y3), (4, y4), (6, y6), (7, y7), (8, y8), (9, y9), (10, y10), (11, y11), (19, y19), (30, y30), (42, y42), (49, y49), (75, y75)] = [(0, y0), (1, y1), (2, y2), (3, y3), (4, y4), (6, z4), (7, y7), (8, y8), (9, y9), (10, y10), (11, y11), (19, y19), (30, y30), (42, y42), (49, y49), (75, y75)] := fun y0 y1 y2 y3 y4 y6 y7 y8 y9 y10 y11 y19 y30 y42 y49 y75 z0 z1 z2 z3 z4 => rfl
    refine R_nil (tr _ _ _ _ _ _ _ _ _ _ _ _ _ _ _ _ _ _ _ _ _) ?_; clear tr
    refine then_n ?_
    refine at_ret rfl ?_
    refine then_r ?_
    refine fin_own rfl (by simp only [go_sem, ↓reduceIte, Nat.reduceEqDiff]; rfl) ?_
    have hv := tab.val (idxS q (gt rows 0).length c la).toNat (by omega)
    have hpk := potK_idx (rows := rows) hq0 st
    rw [Int.toNat_of_nonneg hir.1, hpk] at hv
    have hv2 := hv.resolve_left (by assumption)
    exact ⟨congrArg AV.i hv2, K, tu, hv2⟩
  · try simp only [decide_eq_true_eq, decide_eq_false_iff_not, Bool.not_eq_true', Bool.not_eq_false', beq_iff_eq, beq_eq_false_iff_ne, ne_eq] at h1
    refine at_skip rfl ?_
    refine then_n ?_
    refine at_seq rfl ?_
    refine rg rfl ?_
    refine R_q rfl (by simp (disch := first | omega | (simp only [List.length_map, List.length_append, List.length_set, List.length_cons, List.length_nil, List.length_take, List.length_drop]; omega)) only [go_sem, ↓reduceIte, Nat.reduceEqDiff, reduceCtorEq, q0, qs, qk]; rfl) ?_
    refine Rcall ?_
    refine ACall_eq (over_ok _ _ rows q la0 g c la st _ (.inl rfl)) ?_
    refine Rq ?_
    refine Rq ?_
    have tr : ∀ y0 y1 y2 y3 y4 y6 y7 y8 y9 y10 y11 y19 y30 y42 y49 y75 z0 z1 z2 z3 : AV, trim [(9, z3), (8, z2), (25, z1), (24, z0), (0, y0), (1, y1), (2, y2), (3, y3), (4, y4), (6, y6), (7, y7), (8, y8), (9, y9), (10, y10), (11, y11), (19, y19), (30, y30), (42, y42), (49, y49), (75, y75)] [(0, y0), (1, y1), (2, y2), (3, y3), (4, y4), (6, y6), (7, y7), (8, y8), (9, y9), (10, y10), (11, y11), (19, y19), (30, y30), (42, y42), (49, y49), (75, y75)] = [(0, y0), (1, y1), (2, y2), (3, y3), (4, y4), (6, y6), (7, y7), (8, z2), (9, z3), (10, y10), (11, y11), (19, y19), (30, y30), (42, y42), (49, y49), (75, y75)] := fun y0 y1 y2 y3 y4 y6 y7 y8 y9 y10 y11 y19 y30 y42 y49 y75 z0 z1 z2 z3 => rfl
    refine R_nil (tr _ _ _ _ _ _ _ _ _ _ _ _ _ _ _ _ _ _ _ _) ?_; clear tr
    refine then_n ?_
    refine at_seq rfl ?_
    refine at_seq rfl ?_
    refine rg rfl ?_
    have hss := sum_le (q := 12) c (fun y hy => by have := hcr y hy; omega)
    refine Rq ?_
    refine Rq ?_
    refine R_q rfl (by simp (disch := first | omega | (simp only [List.length_map, List.length_append, List.length_set, List.length_cons, List.length_nil, List.length_take, List.length_drop]; omega)) only [go_sem, ↓reduceIte, Nat.reduceEqDiff, reduceCtorEq, q0, qs, qk]; rfl) ?_
    refine Rq ?_
    refine Rq ?_
    have tr : ∀ y0 y1 y2 y3 y4 y6 y7 y8 y9 y10 y11 y19 y30 y42 y49 y75 z0 z1 z2 z3 z4 : AV, trim [(30, z4), (29, z3), (28, z2), (27, z1), (26, z0), (0, y0), (1, y1), (2, y2), (3, y3), (4, y4), (6, y6), (7, y7), (8, y8), (9, y9), (10, y10), (11, y11), (19, y19), (30, y30), (42, y42), (49, y49), (75, y75)] [(0, y0), (1, y1), (2, y2), (3, y3), (4, y4), (6, y6), (7, y7), (8, y8), (9, y9), (10, y10), (11, y11), (19, y19), (30, y30), (42, y42), (49, y49), (75, y75)] = [(0, y0), (1, y1), (2, y2), (3, y3), (4, y4), (6, y6), (7, y7), (8, y8), (9, y9), (10, y10), (11, y11), (19, y19), (30, z4), (42, y42), (49, y49), (75, y75)] := fun y0 y1 y2 y3 y4 y6 y7 y8 y9 y10 y11 y19 y30 y42 y49 y75 z0 z1 z2 z3 z4 => rfl
    refine R_nil (tr _ _ _ _ _ _ _ _ _ _ _ _ _ _ _ _ _ _ _ _ _) ?_; clear tr
    refine then_n ?_
    refine cdd (fun h2 => ?_) (fun h2 => ?_)
    · try simp only [decide_eq_true_eq, decide_eq_false_iff_not, Bool.not_eq_true', Bool.not_eq_false', beq_iff_eq, beq_eq_false_iff_ne, ne_eq] at h2
      refine rg rfl ?_
      refine Rq ?_
      have tr : ∀ y0 y1 y2 y3 y4 y6 y7 y8 y9 y10 y11 y19 y30 y42 y49 y75 z0 : AV, trim [(8, z0), (0, y0), (1, y1), (2, y2), (3, y3), (4, y4), (6, y6), (7, y7), (8, y8), (9, y9), (10, y10), (11, y11), (19, y19), (30, y30), (42, y42), (49, y49), (75, y75)] [(0, y0), (1, y1), (2, y2), (3, y3), (4, y4), (6, y6), (7, y7), (8, y8), (9, y9), (10, y10), (11, y11), (19, y19), (30, y30), (42, y42), (49, y49), (75, y75)] = [(0, y0), (1, y1), (2, y2), (3, y3), (4, y4), (6, y6), (7, y7), (8, z0), (9, y9), (10, y10), (11, y11), (19, y19), (30, y30), (42, y42), (49, y49), (75, y75)] := fun y0 y1 y2 y3 y4 y6 y7 y8 y9 y10 y11 y19 y30 y42 y49 y75 z0 => rfl
      refine R_nil (tr _ _ _ _ _ _ _ _ _ _ _ _ _ _ _ _ _) ?_; clear tr
      refine then_n ?_
      refine at_seq rfl ?_
      refine at_seq rfl ?_
      refine rg rfl ?_
      refine Rq ?_
      have tr : ∀ y0 y1 y2 y3 y4 y6 y7 y8 y9 y10 y11 y19 y30 y42 y49 y75 z0 : AV, trim [(10, z0), (0, y0), (1, y1), (2, y2), (3, y3), (4, y4), (6, y6), (7, y7), (8, y8), (9, y9), (10, y10), (11, y11), (19, y19), (30, y30), (42, y42), (49, y49), (75, y75)] [(0, y0), (1, y1), (2, y2), (3, y3), (4, y4), (6, y6), (7, y7), (8, y8), (9, y9), (10, y10), (11, y11), (19, y19), (30, y30), (42, y42), (49, y49), (75, y75)] = [(0, y0), (1, y1), (2, y2), (3, y3), (4, y4), (6, y6), (7, y7), (8, y8), (9, y9), (10, z0), (11, y11), (19, y19), (30, y30), (42, y42), (49, y49), (75, y75)] := fun y0 y1 y2 y3 y4 y6 y7 y8 y9 y10 y11 y19 y30 y42 y49 y75 z0 => rfl
      refine R_nil (tr _ _ _ _ _ _ _ _ _ _ _ _ _ _ _ _ _) ?_; clear tr
      refine then_n ?_
      refine at_block rfl ?_
      refine loop_n rfl (fun mm kv H' => ∃ jn : Nat, ∃ bst : Int, ∃ K1 : List Int, ∃ x11 x42 x49 x75 : AV, (kv = [(8, AV.i bst), (10, AV.i jn), (11, x11), (42, x42), (49, x49), (75, x75)]) ∧ (mm = c.length - jn) ∧ (hget H' H.length = some [rowsAV rows, AV.i q, AV.i la0]) ∧ (hget H' H1.length = some [intsAV c, AV.i la]) ∧ (TabUp rows q bk K H K1 H') ∧ (jn ≤ c.length) ∧ ((sumL c < rows.length → bst = scanJ rows q (sumL c).toNat c la (fun j => pot rows q (gt rows 0).length (aft c j) j) jn)) ∧ ((¬ sumL c < rows.length → bst = pot rows q (gt rows 0).length c la))) ⟨0, 0, K, _, _, _, _, rfl, rfl, by exact q0, by exact qs, by exact tu, by omega, by first | (intro hs; rfl) | (intro hs; exfalso; omega), by intro hs; first | (rw [pot_eq (by omega)]; done) | (rw [pot_gt (by omega)]; done)⟩ (by rfl) ?_
      rintro mm kv HB ⟨jn, bst, K1, x11, x42, x49, x75, rfl, rfl, q0, qs, tu, hj, hb1, hb2⟩
      have tr : ∀ y0 y1 y2 y3 y4 y6 y7 y8 y9 y10 y11 y19 y30 y42 y49 y75 z8 z10 z11 z42 z49 z75 : AV, upd [(0, y0), (1, y1), (2, y2), (3, y3), (4, y4), (6, y6), (7, y7), (8, y8), (9, y9), (10, y10), (11, y11), (19, y19), (30, y30), (42, y42), (49, y49), (75, y75)] [(8, z8), (10, z10), (11, z11), (42, z42), (49, z49), (75, z75)] = [(0, y0), (1, y1), (2, y2), (3, y3), (4, y4), (6, y6), (7, y7), (8, z8), (9, y9), (10, z10), (11, z11), (19, y19), (30, y30), (42, z42), (49, z49), (75, z75)] := fun y0 y1 y2 y3 y4 y6 y7 y8 y9 y10 y11 y19 y30 y42 y49 y75 z8 z10 z11 z42 z49 z75 => rfl
      refine W_to (tr _ _ _ _ _ _ _ _ _ _ _ _ _ _ _ _ _ _ _ _ _ _) ?_; clear tr
      have qk := tu.mem
      refine at_seq rfl ?_
      refine at_seq rfl ?_
      refine rg rfl ?_
      refine Rq ?_
      refine Rq ?_
      refine R_q rfl (by simp (disch := first | omega | (simp only [List.length_map, List.length_append, List.length_set, List.length_cons, List.length_nil, List.length_take, List.length_drop]; omega)) only [go_sem, ↓reduceIte, Nat.reduceEqDiff, reduceCtorEq, q0, qs, qk]; rfl) ?_
      refine Rq ?_
      refine Rq ?_
      refine Rq ?_
      refine Rp_split (fun h3 => ?_) (fun h3 => ?_)
      · try simp only [decide_eq_true_eq, decide_eq_false_iff_not, Bool.not_eq_true', Bool.not_eq_false', beq_iff_eq, beq_eq_false_iff_ne, ne_eq] at h3
        exfalso; omega
      · try simp only [decide_eq_true_eq, decide_eq_false_iff_not, Bool.not_eq_true', Bool.not_eq_false', beq_iff_eq, beq_eq_false_iff_ne, ne_eq] at h3
        refine Rn ?_
        refine Rn ?_
        refine Rn ?_
        refine Rn ?_
        refine Rn ?_
        refine Rq ?_
        have tr : ∀ y0 y1 y2 y3 y4 y6 y7 y8 y9 y10 y11 y19 y30 y42 y49 y75 z0 z1 z2 z3 z4 z5 z6 z7 z8 z9 z10 z11 : AV, trim [(42, z11), (41, z10), (40, z9), (39, z8), (38, z7), (37, z6), (36, z5), (35, z4), (34, z3), (33, z2), (32, z1), (31, z0), (0, y0), (1, y1), (2, y2), (3, y3), (4, y4), (6, y6), (7, y7), (8, y8), (9, y9), (10, y10), (11, y11), (19, y19), (30, y30), (42, y42), (49, y49), (75, y75)] [(0, y0), (1, y1), (2, y2), (3, y3), (4, y4), (6, y6), (7, y7), (8, y8), (9, y9), (10, y10), (11, y11), (19, y19), (30, y30), (42, y42), (49, y49), (75, y75)] = [(0, y0), (1, y1), (2, y2), (3, y3), (4, y4), (6, y6), (7, y7), (8, y8), (9, y9), (10, y10), (11, y11), (19, y19), (30, y30), (42, z11), (49, y49), (75, y75)] := fun y0 y1 y2 y3 y4 y6 y7 y8 y9 y10 y11 y19 y30 y42 y49 y75 z0 z1 z2 z3 z4 z5 z6 z7 z8 z9 z10 z11 => rfl
        refine R_nil (tr _ _ _ _ _ _ _ _ _ _ _ _ _ _ _ _ _ _ _ _ _ _ _ _ _ _ _ _) ?_; clear tr
        refine then_n ?_
        refine cdf ?_
        refine at_exit rfl ?_
        refine then_x ?_
        refine then_x ?_
        refine blk_x ?_
        refine then_n ?_
        refine at_seq rfl ?_
        refine rg rfl ?_
        have hbp : bst = pot rows q (gt rows 0).length c la := by
          by_cases hs : sumL c < rows.length
          · rw [hb1 hs, show jn = (gt rows 0).length by omega, pot_lt hcl hs]
          · exact hb2 hs
        have hK1 : K.length = K1.length := by have := tu.ok.len; omega
        refine Rq ?_
        refine Rq ?_
        refine Rq ?_
        refine Rq ?_
        have lq0 := hget_lt q0
        have lqs := hget_lt qs
        have lqk := hget_lt qk
        refine A_store ty2 (by simp (disch := first | omega | (simp only [List.length_map, List.length_append, List.length_set, List.length_cons, List.length_nil, List.length_take, List.length_drop]; omega)) only [go_sem, ↓reduceIte, Nat.reduceEqDiff, reduceCtorEq, q0, qs, qk]; rfl) (by simp (disch := first | omega | (simp only [List.length_map, List.length_append, List.length_set, List.length_cons, List.length_nil, List.length_take, List.length_drop]; omega)) only [go_sem, ↓reduceIte, Nat.reduceEqDiff, reduceCtorEq, q0, qs, qk]; rfl) qk ⟨by omega, rfl, by simp only [List.length_map]; omega⟩ (by rw [setL_map, hbp]) ?_
        intro H9 w9
        obtain ⟨tu9, hgk⟩ := TabUp.set g st tu w9
        have tr : ∀ y0 y1 y2 y3 y4 y6 y7 y8 y9 y10 y11 y19 y30 y42 y49 y75 z0 z1 z2 z3 : AV, trim [(89, z3), (88, z2), (87, z1), (86, z0), (0, y0), (1, y1), (2, y2), (3, y3), (4, y4), (6, y6), (7, y7), (8, y8), (9, y9), (10, y10), (11, y11), (19, y19), (30, y30), (42, y42), (49, y49), (75, y75)] [(0, y0), (1, y1), (2, y2), (3, y3), (4, y4), (6, y6), (7, y7), (8, y8), (9, y9), (10, y10), (11, y11), (19, y19), (30, y30), (42, y42), (49, y49), (75, y75)] = [(0, y0), (1, y1), (2, y2), (3, y3), (4, y4), (6, y6), (7, y7), (8, y8), (9, y9), (10, y10), (11, y11), (19, y19), (30, y30), (42, y42), (49, y49), (75, y75)] := fun y0 y1 y2 y3 y4 y6 y7 y8 y9 y10 y11 y19 y30 y42 y49 y75 z0 z1 z2 z3 => rfl
        refine R_nil (tr _ _ _ _ _ _ _ _ _ _ _ _ _ _ _ _ _ _ _ _) ?_; clear tr
        refine then_n ?_
        refine at_seq rfl ?_
        refine rg rfl ?_
        refine Rq ?_
        refine Rq ?_
        have tr : ∀ y0 y1 y2 y3 y4 y6 y7 y8 y9 y10 y11 y19 y30 y42 y49 y75 z0 z1 : AV, trim [(6, z1), (90, z0), (0, y0), (1, y1), (2, y2), (3, y3), (4, y4), (6, y6), (7, y7), (8, y8), (9, y9), (10, y10), (11, y11), (19, y19), (30, y30), (42, y42), (49, y49), (75, y75)] [(0, y0), (1, y1), (2, y2), (3, y3), (4, y4), (6, y6), (7, y7), (8, y8), (9, y9), (10, y10), (11, y11), (19, y19), (30, y30), (42, y42), (49, y49), (75, y75)] = [(0, y0), (1, y1), (2, y2), (3, y3), (4, y4), (6, z1), (7, y7), (8, y8), (9, y9), (10, y10), (11, y11), (19, y19), (30, y30), (42, y42), (49, y49), (75, y75)] := fun y0 y1 y2 y3 y4 y6 y7 y8 y9 y10 y11 y19 y30 y42 y49 y75 z0 z1 => rfl
        refine R_nil (tr _ _ _ _ _ _ _ _ _ _ _ _ _ _ _ _ _ _) ?_; clear tr
        refine then_n ?_
        refine at_ret rfl ?_
        refine fin_own rfl (by simp only [go_sem, ↓reduceIte, Nat.reduceEqDiff]; rfl) ?_
        exact ⟨congrArg AV.i hbp, _, tu9, hgk⟩
    · try simp only [decide_eq_true_eq, decide_eq_false_iff_not, Bool.not_eq_true', Bool.not_eq_false', beq_iff_eq, beq_eq_false_iff_ne, ne_eq] at h2
      refine at_skip rfl ?_
      refine then_n ?_
      refine at_seq rfl ?_
      refine at_seq rfl ?_
      refine rg rfl ?_
      refine Rq ?_
      have tr : ∀ y0 y1 y2 y3 y4 y6 y7 y8 y9 y10 y11 y19 y30 y42 y49 y75 z0 : AV, trim [(10, z0), (0, y0), (1, y1), (2, y2), (3, y3), (4, y4), (6, y6), (7, y7), (8, y8), (9, y9), (10, y10), (11, y11), (19, y19), (30, y30), (42, y42), (49, y49), (75, y75)] [(0, y0), (1, y1), (2, y2), (3, y3), (4, y4), (6, y6), (7, y7), (8, y8), (9, y9), (10, y10), (11, y11), (19, y19), (30, y30), (42, y42), (49, y49), (75, y75)] = [(0, y0), (1, y1), (2, y2), (3, y3), (4, y4), (6, y6), (7, y7), (8, y8), (9, y9), (10, z0), (11, y11), (19, y19), (30, y30), (42, y42), (49, y49), (75, y75)] := fun y0 y1 y2 y3 y4 y6 y7 y8 y9 y10 y11 y19 y30 y42 y49 y75 z0 => rfl
      refine R_nil (tr _ _ _ _ _ _ _ _ _ _ _ _ _ _ _ _ _) ?_; clear tr
      refine then_n ?_
      refine at_block rfl ?_
      refine loop_n rfl (fun mm kv H' => ∃ jn : Nat, ∃ bst : Int, ∃ K1 : List Int, ∃ x11 x42 x49 x75 : AV, (kv = [(8, AV.i bst), (10, AV.i jn), (11, x11), (42, x42), (49, x49), (75, x75)]) ∧ (mm = c.length - jn) ∧ (hget H' H.length = some [rowsAV rows, AV.i q, AV.i la0]) ∧ (hget H' H1.length = some [intsAV c, AV.i la]) ∧ (TabUp rows q bk K H K1 H') ∧ (jn ≤ c.length) ∧ ((sumL c < rows.length → bst = scanJ rows q (sumL c).toNat c la (fun j => pot rows q (gt rows 0).length (aft c j) j) jn)) ∧ ((¬ sumL c < rows.length → bst = pot rows q (gt rows 0).length c la))) ⟨0, (-1), K, _, _, _, _, rfl, rfl, by exact q0, by exact qs, by exact tu, by omega, by first | (intro hs; rfl) | (intro hs; exfalso; omega), by intro hs; first | (rw [pot_eq (by omega)]; done) | (rw [pot_gt (by omega)]; done)⟩ (by rfl) ?_
      rintro mm kv HB ⟨jn, bst, K1, x11, x42, x49, x75, rfl, rfl, q0, qs, tu, hj, hb1, hb2⟩
      have tr : ∀ y0 y1 y2 y3 y4 y6 y7 y8 y9 y10 y11 y19 y30 y42 y49 y75 z8 z10 z11 z42 z49 z75 : AV, upd [(0, y0), (1, y1), (2, y2), (3, y3), (4, y4), (6, y6), (7, y7), (8, y8), (9, y9), (10, y10), (11, y11), (19, y19), (30, y30), (42, y42), (49, y49), (75, y75)] [(8, z8), (10, z10), (11, z11), (42, z42), (49, z49), (75, z75)] = [(0, y0), (1, y1), (2, y2), (3, y3), (4, y4), (6, y6), (7, y7), (8, z8), (9, y9), (10, z10), (11, z11), (19, y19), (30, y30), (42, z42), (49, z49), (75, z75)] := fun y0 y1 y2 y3 y4 y6 y7 y8 y9 y10 y11 y19 y30 y42 y49 y75 z8 z10 z11 z42 z49 z75 => rfl
      refine W_to (tr _ _ _ _ _ _ _ _ _ _ _ _ _ _ _ _ _ _ _ _ _ _) ?_; clear tr
      have qk := tu.mem
      refine at_seq rfl ?_
      refine at_seq rfl ?_
      refine rg rfl ?_
      refine Rq ?_
      refine Rq ?_
      refine R_q rfl (by simp (disch := first | omega | (simp only [List.length_map, List.length_append, List.length_set, List.length_cons, List.length_nil, List.length_take, List.length_drop]; omega)) only [go_sem, ↓reduceIte, Nat.reduceEqDiff, reduceCtorEq, q0, qs, qk]; rfl) ?_
      refine Rq ?_
      refine Rq ?_
      refine Rq ?_
      refine Rp_split (fun h4 => ?_) (fun h4 => ?_)
      · try simp only [decide_eq_true_eq, decide_eq_false_iff_not, Bool.not_eq_true', Bool.not_eq_false', beq_iff_eq, beq_eq_false_iff_ne, ne_eq] at h4
        refine Ry ?_
        refine Rq ?_
        refine Ry ?_
        refine Rq ?_
        refine Ry ?_
        refine R_q rfl (by simp (disch := first | omega | (simp only [List.length_map, List.length_append, List.length_set, List.length_cons, List.length_nil, List.length_take, List.length_drop]; omega)) only [go_sem, ↓reduceIte, Nat.reduceEqDiff, reduceCtorEq, q0, qs, qk]; rfl) ?_
        refine Ry ?_
        refine Rq ?_
        refine Ry ?_
        refine Rq ?_
        refine Rq ?_
        have tr : ∀ y0 y1 y2 y3 y4 y6 y7 y8 y9 y10 y11 y19 y30 y42 y49 y75 z0 z1 z2 z3 z4 z5 z6 z7 z8 z9 z10 z11 : AV, trim [(42, z11), (41, z10), (40, z9), (39, z8), (38, z7), (37, z6), (36, z5), (35, z4), (34, z3), (33, z2), (32, z1), (31, z0), (0, y0), (1, y1), (2, y2), (3, y3), (4, y4), (6, y6), (7, y7), (8, y8), (9, y9), (10, y10), (11, y11), (19, y19), (30, y30), (42, y42), (49, y49), (75, y75)] [(0, y0), (1, y1), (2, y2), (3, y3), (4, y4), (6, y6), (7, y7), (8, y8), (9, y9), (10, y10), (11, y11), (19, y19), (30, y30), (42, y42), (49, y49), (75, y75)] = [(0, y0), (1, y1), (2, y2), (3, y3), (4, y4), (6, y6), (7, y7), (8, y8), (9, y9), (10, y10), (11, y11), (19, y19), (30, y30), (42, z11), (49, y49), (75, y75)] := fun y0 y1 y2 y3 y4 y6 y7 y8 y9 y10 y11 y19 y30 y42 y49 y75 z0 z1 z2 z3 z4 z5 z6 z7 z8 z9 z10 z11 => rfl
        refine R_nil (tr _ _ _ _ _ _ _ _ _ _ _ _ _ _ _ _ _ _ _ _ _ _ _ _ _ _ _ _) ?_; clear tr
        refine then_n ?_
        refine cdd (fun h5 => ?_) (fun h5 => ?_)
        · try simp only [decide_eq_true_eq, decide_eq_false_iff_not, Bool.not_eq_true', Bool.not_eq_false', beq_iff_eq, beq_eq_false_iff_ne, ne_eq] at h5
          refine at_skip rfl ?_
          refine then_n ?_
          refine at_seq rfl ?_
          refine at_block rfl ?_
          refine at_seq rfl ?_
          refine at_seq rfl ?_
          refine rg rfl ?_
          have hcj := okc_gt st.c (j := jn) (by omega)
          refine R_q rfl (by simp (disch := first | omega | (simp only [List.length_map, List.length_append, List.length_set, List.length_cons, List.length_nil, List.length_take, List.length_drop]; omega)) only [go_sem, ↓reduceIte, Nat.reduceEqDiff, reduceCtorEq, q0, qs, qk]; rfl) ?_
          refine R_q rfl (by simp (disch := first | omega | (simp only [List.length_map, List.length_append, List.length_set, List.length_cons, List.length_nil, List.length_take, List.length_drop]; omega)) only [go_sem, ↓reduceIte, Nat.reduceEqDiff, reduceCtorEq, q0, qs, qk]; rfl) ?_
          refine Rq ?_
          refine Rcall ?_
          refine ACall_eq (may_ok _ _ rows q la0 g c la st _ (.inl rfl) jn (by omega)) ?_
          refine Rq ?_
          have tr : ∀ y0 y1 y2 y3 y4 y6 y7 y8 y9 y10 y11 y19 y30 y42 y49 y75 z0 z1 z2 z3 z4 : AV, trim [(49, z4), (48, z3), (47, z2), (46, z1), (45, z0), (0, y0), (1, y1), (2, y2), (3, y3), (4, y4), (6, y6), (7, y7), (8, y8), (9, y9), (10, y10), (11, y11), (19, y19), (30, y30), (42, y42), (49, y49), (75, y75)] [(0, y0), (1, y1), (2, y2), (3, y3), (4, y4), (6, y6), (7, y7), (8, y8), (9, y9), (10, y10), (11, y11), (19, y19), (30, y30), (42, y42), (49, y49), (75, y75)] = [(0, y0), (1, y1), (2, y2), (3, y3), (4, y4), (6, y6), (7, y7), (8, y8), (9, y9), (10, y10), (11, y11), (19, y19), (30, y30), (42, y42), (49, z4), (75, y75)] := fun y0 y1 y2 y3 y4 y6 y7 y8 y9 y10 y11 y19 y30 y42 y49 y75 z0 z1 z2 z3 z4 => rfl
          refine R_nil (tr _ _ _ _ _ _ _ _ _ _ _ _ _ _ _ _ _ _ _ _ _) ?_; clear tr
          refine then_n ?_
          refine cdd (fun h6 => ?_) (fun h6 => ?_)
          · try simp only [decide_eq_true_eq, decide_eq_false_iff_not, Bool.not_eq_true', Bool.not_eq_false', beq_iff_eq, beq_eq_false_iff_ne, ne_eq] at h6
            refine at_exit rfl ?_
            refine then_x ?_
            refine blk_x ?_
            refine then_n ?_
            refine rg rfl ?_
            refine Rq ?_
            refine Rq ?_
            refine Rq ?_
            have tr : ∀ y0 y1 y2 y3 y4 y6 y7 y8 y9 y10 y11 y19 y30 y42 y49 y75 z0 z1 z2 : AV, trim [(10, z2), (44, z1), (43, z0), (0, y0), (1, y1), (2, y2), (3, y3), (4, y4), (6, y6), (7, y7), (8, y8), (9, y9), (10, y10), (11, y11), (19, y19), (30, y30), (42, y42), (49, y49), (75, y75)] [(0, y0), (1, y1), (2, y2), (3, y3), (4, y4), (6, y6), (7, y7), (8, y8), (9, y9), (10, y10), (11, y11), (19, y19), (30, y30), (42, y42), (49, y49), (75, y75)] = [(0, y0), (1, y1), (2, y2), (3, y3), (4, y4), (6, y6), (7, y7), (8, y8), (9, y9), (10, z2), (11, y11), (19, y19), (30, y30), (42, y42), (49, y49), (75, y75)] := fun y0 y1 y2 y3 y4 y6 y7 y8 y9 y10 y11 y19 y30 y42 y49 y75 z0 z1 z2 => rfl
            refine R_nil (tr _ _ _ _ _ _ _ _ _ _ _ _ _ _ _ _ _ _ _) ?_; clear tr
            refine then_n ?_
            exact ⟨_, _, ⟨jn + 1, bst, K1, _, _, _, _, rfl, rfl, by exact q0, by exact qs, by exact tu, by omega, by intro hs; have hh := hb1 hs; rw [scanJ, ← hh]; first | rw [if_pos ⟨by omega, by omega, by omega, by omega⟩] | rw [if_neg (by omega)], by intro hs; exfalso; omega⟩, by rfl, by omega⟩
          · try simp only [decide_eq_true_eq, decide_eq_false_iff_not, Bool.not_eq_true', Bool.not_eq_false', beq_iff_eq, beq_eq_false_iff_ne, ne_eq] at h6
            refine at_skip rfl ?_
            refine then_n ?_
            refine at_seq rfl ?_
            refine rl rfl rfl ?_
            have hsa := sum_aft c jn (by omega)
            have sta := aft_st st (j := jn) (by omega) (by omega)
            have hK1 : K.length = K1.length := by have := tu.ok.len; omega
            have hpa := pot_rng g (aft c jn) (by rw [hsa]; omega) jn
            refine L_q rfl (by simp (disch := first | omega | (simp only [List.length_map, List.length_append, List.length_set, List.length_cons, List.length_nil, List.length_take, List.length_drop]; omega)) only [go_sem, ↓reduceIte, Nat.reduceEqDiff, reduceCtorEq, q0, qs, qk]; rfl) rfl ?_
            refine L_q rfl (by simp (disch := first | omega | (simp only [List.length_map, List.length_append, List.length_set, List.length_cons, List.length_nil, List.length_take, List.length_drop]; omega)) only [go_sem, ↓reduceIte, Nat.reduceEqDiff, reduceCtorEq, q0, qs, qk]; rfl) rfl ?_
            refine Lq ?_
            refine Lq ?_
            refine L_nil ?_
            refine Ms ?_
            refine Rcall ?_
            refine ACall_eq (after_ok _ _ rows q la0 g c la st _ (.inl rfl) jn (by omega)) ?_
            refine R_end ?_
            refine M_nil ?_
            refine Rcall ?_
            refine ACall_mono (ih _ (by rw [hsa]; omega) _ _ bk _ K1 (aft c jn) jn sta (by omega) qk tu.ok hK1 rfl) ?_
            rintro r H6 ⟨rfl, K2, tu2, hg2⟩
            have q0 := (tu2.old _ (hget_lt q0) (by omega)).trans q0
            have qs := (tu2.old _ (hget_lt qs) (by omega)).trans qs
            have qk := tu2.mem
            have tu := tu.trans tu2
            refine Rq ?_
            have tr : ∀ y0 y1 y2 y3 y4 y6 y7 y8 y9 y10 y11 y19 y30 y42 y49 y75 z0 z1 z2 z3 z4 z5 z6 : AV, trim [(11, z6), (55, z5), (53, z4), (54, z3), (52, z2), (51, z1), (50, z0), (0, y0), (1, y1), (2, y2), (3, y3), (4, y4), (6, y6), (7, y7), (8, y8), (9, y9), (10, y10), (11, y11), (19, y19), (30, y30), (42, y42), (49, y49), (75, y75)] [(0, y0), (1, y1), (2, y2), (3, y3), (4, y4), (6, y6), (7, y7), (8, y8), (9, y9), (10, y10), (11, y11), (19, y19), (30, y30), (42, y42), (49, y49), (75, y75)] = [(0, y0), (1, y1), (2, y2), (3, y3), (4, y4), (6, y6), (7, y7), (8, y8), (9, y9), (10, y10), (11, z6), (19, y19), (30, y30), (42, y42), (49, y49), (75, y75)] := fun y0 y1 y2 y3 y4 y6 y7 y8 y9 y10 y11 y19 y30 y42 y49 y75 z0 z1 z2 z3 z4 z5 z6 => rfl
            refine R_nil (tr _ _ _ _ _ _ _ _ _ _ _ _ _ _ _ _ _ _ _ _ _ _ _) ?_; clear tr
            refine then_n ?_
            refine at_seq rfl ?_
            refine rg rfl ?_
            have hrl := g5 (sumL c).toNat (by omega)
            have hce := cell_rng g (sumL c).toNat jn
            have hb1r : -1 ≤ bst ∧ bst ≤ 13631488 := by
              have hh := hb1 (by omega)
              rw [hh]
              have := scan_rng (rows := rows) (q := q) (i := (sumL c).toNat) (c := c) (la := la) (g := fun j => pot rows q (gt rows 0).length (aft c j) j) (B := 12582912) (by omega) (cell_rng g _) (fun j => pot_rng g _ (by by_cases hjj : j < c.length; (rw [sum_aft c j hjj]; omega); (rw [aft, List.set_eq_of_length_le (by omega)]; omega)) _) jn
              omega
            refine Rq ?_
            refine Rq ?_
            refine Rq ?_
            refine Rp_split (fun h7 => ?_) (fun h7 => ?_)
            · try simp only [decide_eq_true_eq, decide_eq_false_iff_not, Bool.not_eq_true', Bool.not_eq_false', beq_iff_eq, beq_eq_false_iff_ne, ne_eq] at h7
              refine Ry ?_
              refine Rq ?_
              refine Ry ?_
              refine Rq ?_
              refine Ry ?_
              refine Rq ?_
              refine Rp_split (fun h8 => ?_) (fun h8 => ?_)
              · try simp only [decide_eq_true_eq, decide_eq_false_iff_not, Bool.not_eq_true', Bool.not_eq_false', beq_iff_eq, beq_eq_false_iff_ne, ne_eq] at h8
                refine Rn ?_
                refine Rn ?_
                refine Rn ?_
                refine Rn ?_
                refine Rn ?_
                refine Rn ?_
                refine Rn ?_
                refine Rn ?_
                refine Rn ?_
                refine Rn ?_
                refine Rn ?_
                refine Rn ?_
                refine Ry ?_
                refine Rq ?_
                refine Rq ?_
                have tr : ∀ y0 y1 y2 y3 y4 y6 y7 y8 y9 y10 y11 y19 y30 y42 y49 y75 z0 z1 z2 z3 z4 z5 z6 z7 z8 z9 z10 z11 z12 z13 z14 z15 z16 z17 z18 z19 : AV, trim [(75, z19), (74, z18), (73, z17), (72, z16), (71, z15), (70, z14), (69, z13), (68, z12), (67, z11), (66, z10), (65, z9), (64, z8), (63, z7), (62, z6), (61, z5), (60, z4), (59, z3), (58, z2), (57, z1), (56, z0), (0, y0), (1, y1), (2, y2), (3, y3), (4, y4), (6, y6), (7, y7), (8, y8), (9, y9), (10, y10), (11, y11), (19, y19), (30, y30), (42, y42), (49, y49), (75, y75)] [(0, y0), (1, y1), (2, y2), (3, y3), (4, y4), (6, y6), (7, y7), (8, y8), (9, y9), (10, y10), (11, y11), (19, y19), (30, y30), (42, y42), (49, y49), (75, y75)] = [(0, y0), (1, y1), (2, y2), (3, y3), (4, y4), (6, y6), (7, y7), (8, y8), (9, y9), (10, y10), (11, y11), (19, y19), (30, y30), (42, y42), (49, y49), (75, z19)] := fun y0 y1 y2 y3 y4 y6 y7 y8 y9 y10 y11 y19 y30 y42 y49 y75 z0 z1 z2 z3 z4 z5 z6 z7 z8 z9 z10 z11 z12 z13 z14 z15 z16 z17 z18 z19 => rfl
                refine R_nil (tr _ _ _ _ _ _ _ _ _ _ _ _ _ _ _ _ _ _ _ _ _ _ _ _ _ _ _ _ _ _ _ _ _ _ _ _) ?_; clear tr
                refine then_n ?_
                refine cdt ?_
                refine rg rfl ?_
                refine Rq ?_
                refine R_q rfl (by simp (disch := first | omega | (simp only [List.length_map, List.length_append, List.length_set, List.length_cons, List.length_nil, List.length_take, List.length_drop]; omega)) only [go_sem, ↓reduceIte, Nat.reduceEqDiff, reduceCtorEq, q0, qs, qk]; rfl) ?_
                refine Rq ?_
                refine Rq ?_
                refine R_q rfl (by simp (disch := first | omega | (simp only [List.length_map, List.length_append, List.length_set, List.length_cons, List.length_nil, List.length_take, List.length_drop]; omega)) only [go_sem, ↓reduceIte, Nat.reduceEqDiff, reduceCtorEq, q0, qs, qk]; rfl) ?_
                refine Rq ?_
                refine Rq ?_
                refine R_q rfl (by simp (disch := first | omega | (simp only [List.length_map, List.length_append, List.length_set, List.length_cons, List.length_nil, List.length_take, List.length_drop]; omega)) only [go_sem, ↓reduceIte, Nat.reduceEqDiff, reduceCtorEq, q0, qs, qk]; rfl) ?_
                refine Rq ?_
                refine Rq ?_
                refine Rq ?_
                have tr : ∀ y0 y1 y2 y3 y4 y6 y7 y8 y9 y10 y11 y19 y30 y42 y49 y75 z0 z1 z2 z3 z4 z5 z6 z7 z8 z9 z10 : AV, trim [(8, z10), (85, z9), (84, z8), (83, z7), (82, z6), (81, z5), (80, z4), (79, z3), (78, z2), (77, z1), (76, z0), (0, y0), (1, y1), (2, y2), (3, y3), (4, y4), (6, y6), (7, y7), (8, y8), (9, y9), (10, y10), (11, y11), (19, y19), (30, y30), (42, y42), (49, y49), (75, y75)] [(0, y0), (1, y1), (2, y2), (3, y3), (4, y4), (6, y6), (7, y7), (8, y8), (9, y9), (10, y10), (11, y11), (19, y19), (30, y30), (42, y42), (49, y49), (75, y75)] = [(0, y0), (1, y1), (2, y2), (3, y3), (4, y4), (6, y6), (7, y7), (8, z10), (9, y9), (10, y10), (11, y11), (19, y19), (30, y30), (42, y42), (49, y49), (75, y75)] := fun y0 y1 y2 y3 y4 y6 y7 y8 y9 y10 y11 y19 y30 y42 y49 y75 z0 z1 z2 z3 z4 z5 z6 z7 z8 z9 z10 => rfl
                refine R_nil (tr _ _ _ _ _ _ _ _ _ _ _ _ _ _ _ _ _ _ _ _ _ _ _ _ _ _ _) ?_; clear tr
                refine blk_n ?_
                refine then_n ?_
                refine rg rfl ?_
                refine Rq ?_
                refine Rq ?_
                refine Rq ?_
                have tr : ∀ y0 y1 y2 y3 y4 y6 y7 y8 y9 y10 y11 y19 y30 y42 y49 y75 z0 z1 z2 : AV, trim [(10, z2), (44, z1), (43, z0), (0, y0), (1, y1), (2, y2), (3, y3), (4, y4), (6, y6), (7, y7), (8, y8), (9, y9), (10, y10), (11, y11), (19, y19), (30, y30), (42, y42), (49, y49), (75, y75)] [(0, y0), (1, y1), (2, y2), (3, y3), (4, y4), (6, y6), (7, y7), (8, y8), (9, y9), (10, y10), (11, y11), (19, y19), (30, y30), (42, y42), (49, y49), (75, y75)] = [(0, y0), (1, y1), (2, y2), (3, y3), (4, y4), (6, y6), (7, y7), (8, y8), (9, y9), (10, z2), (11, y11), (19, y19), (30, y30), (42, y42), (49, y49), (75, y75)] := fun y0 y1 y2 y3 y4 y6 y7 y8 y9 y10 y11 y19 y30 y42 y49 y75 z0 z1 z2 => rfl
                refine R_nil (tr _ _ _ _ _ _ _ _ _ _ _ _ _ _ _ _ _ _ _) ?_; clear tr
                refine then_n ?_
                exact ⟨_, _, ⟨jn + 1, (gt (gt rows (sumL c).toNat) jn + pot rows q (gt rows 0).length (aft c jn) jn), K2, _, _, _, _, rfl, rfl, by exact q0, by exact qs, by exact tu, by omega, by intro hs; have hh := hb1 hs; rw [scanJ, ← hh]; first | rw [if_pos ⟨by omega, by omega, by omega, by omega⟩] | rw [if_neg (by omega)], by intro hs; exfalso; omega⟩, by rfl, by omega⟩
              · try simp only [decide_eq_true_eq, decide_eq_false_iff_not, Bool.not_eq_true', Bool.not_eq_false', beq_iff_eq, beq_eq_false_iff_ne, ne_eq] at h8
                refine Ry ?_
                refine Rq ?_
                refine Ry ?_
                refine R_q rfl (by simp (disch := first | omega | (simp only [List.length_map, List.length_append, List.length_set, List.length_cons, List.length_nil, List.length_take, List.length_drop]; omega)) only [go_sem, ↓reduceIte, Nat.reduceEqDiff, reduceCtorEq, q0, qs, qk]; rfl) ?_
                refine Ry ?_
                refine Rq ?_
                refine Ry ?_
                refine Rq ?_
                refine Ry ?_
                refine R_q rfl (by simp (disch := first | omega | (simp only [List.length_map, List.length_append, List.length_set, List.length_cons, List.length_nil, List.length_take, List.length_drop]; omega)) only [go_sem, ↓reduceIte, Nat.reduceEqDiff, reduceCtorEq, q0, qs, qk]; rfl) ?_
                refine Ry ?_
                refine Rq ?_
                refine Ry ?_
                refine Rq ?_
                refine Ry ?_
                refine R_q rfl (by simp (disch := first | omega | (simp only [List.length_map, List.length_append, List.length_set, List.length_cons, List.length_nil, List.length_take, List.length_drop]; omega)) only [go_sem, ↓reduceIte, Nat.reduceEqDiff, reduceCtorEq, q0, qs, qk]; rfl) ?_
                refine Ry ?_
                refine Rq ?_
                refine Ry ?_
                refine Rq ?_
                refine Ry ?_
                refine Rq ?_
                refine Ry ?_
                refine Rq ?_
                refine Ry ?_
                refine Rq ?_
                refine Rq ?_
                have tr : ∀ y0 y1 y2 y3 y4 y6 y7 y8 y9 y10 y11 y19 y30 y42 y49 y75 z0 z1 z2 z3 z4 z5 z6 z7 z8 z9 z10 z11 z12 z13 z14 z15 z16 z17 z18 z19 : AV, trim [(75, z19), (74, z18), (73, z17), (72, z16), (71, z15), (70, z14), (69, z13), (68, z12), (67, z11), (66, z10), (65, z9), (64, z8), (63, z7), (62, z6), (61, z5), (60, z4), (59, z3), (58, z2), (57, z1), (56, z0), (0, y0), (1, y1), (2, y2), (3, y3), (4, y4), (6, y6), (7, y7), (8, y8), (9, y9), (10, y10), (11, y11), (19, y19), (30, y30), (42, y42), (49, y49), (75, y75)] [(0, y0), (1, y1), (2, y2), (3, y3), (4, y4), (6, y6), (7, y7), (8, y8), (9, y9), (10, y10), (11, y11), (19, y19), (30, y30), (42, y42), (49, y49), (75, y75)] = [(0, y0), (1, y1), (2, y2), (3, y3), (4, y4), (6, y6), (7, y7), (8, y8), (9, y9), (10, y10), (11, y11), (19, y19), (30, y30), (42, y42), (49, y49), (75, z19)] := fun y0 y1 y2 y3 y4 y6 y7 y8 y9 y10 y11 y19 y30 y42 y49 y75 z0 z1 z2 z3 z4 z5 z6 z7 z8 z9 z10 z11 z12 z13 z14 z15 z16 z17 z18 z19 => rfl
                refine R_nil (tr _ _ _ _ _ _ _ _ _ _ _ _ _ _ _ _ _ _ _ _ _ _ _ _ _ _ _ _ _ _ _ _ _ _ _ _) ?_; clear tr
                refine then_n ?_
                refine cdd (fun h9 => ?_) (fun h9 => ?_)
                · try simp only [decide_eq_true_eq, decide_eq_false_iff_not, Bool.not_eq_true', Bool.not_eq_false', beq_iff_eq, beq_eq_false_iff_ne, ne_eq] at h9
                  refine rg rfl ?_
                  refine Rq ?_
                  refine R_q rfl (by simp (disch := first | omega | (simp only [List.length_map, List.length_append, List.length_set, List.length_cons, List.length_nil, List.length_take, List.length_drop]; omega)) only [go_sem, ↓reduceIte, Nat.reduceEqDiff, reduceCtorEq, q0, qs, qk]; rfl) ?_
                  refine Rq ?_
                  refine Rq ?_
                  refine R_q rfl (by simp (disch := first | omega | (simp only [List.length_map, List.length_append, List.length_set, List.length_cons, List.length_nil, List.length_take, List.length_drop]; omega)) only [go_sem, ↓reduceIte, Nat.reduceEqDiff, reduceCtorEq, q0, qs, qk]; rfl) ?_
                  refine Rq ?_
                  refine Rq ?_
                  refine R_q rfl (by simp (disch := first | omega | (simp only [List.length_map, List.length_append, List.length_set, List.length_cons, List.length_nil, List.length_take, List.length_drop]; omega)) only [go_sem, ↓reduceIte, Nat.reduceEqDiff, reduceCtorEq, q0, qs, qk]; rfl) ?_
                  refine Rq ?_
                  refine Rq ?_
                  refine Rq ?_
                  have tr : ∀ y0 y1 y2 y3 y4 y6 y7 y8 y9 y10 y11 y19 y30 y42 y49 y75 z0 z1 z2 z3 z4 z5 z6 z7 z8 z9 z10 : AV, trim [(8, z10), (85, z9), (84, z8), (83, z7), (82, z6), (81, z5), (80, z4), (79, z3), (78, z2), (77, z1), (76, z0), (0, y0), (1, y1), (2, y2), (3, y3), (4, y4), (6, y6), (7, y7), (8, y8), (9, y9), (10, y10), (11, y11), (19, y19), (30, y30), (42, y42), (49, y49), (75, y75)] [(0, y0), (1, y1), (2, y2), (3, y3), (4, y4), (6, y6), (7, y7), (8, y8), (9, y9), (10, y10), (11, y11), (19, y19), (30, y30), (42, y42), (49, y49), (75, y75)] = [(0, y0), (1, y1), (2, y2), (3, y3), (4, y4), (6, y6), (7, y7), (8, z10), (9, y9), (10, y10), (11, y11), (19, y19), (30, y30), (42, y42), (49, y49), (75, y75)] := fun y0 y1 y2 y3 y4 y6 y7 y8 y9 y10 y11 y19 y30 y42 y49 y75 z0 z1 z2 z3 z4 z5 z6 z7 z8 z9 z10 => rfl
                  refine R_nil (tr _ _ _ _ _ _ _ _ _ _ _ _ _ _ _ _ _ _ _ _ _ _ _ _ _ _ _) ?_; clear tr
                  refine blk_n ?_
                  refine then_n ?_
                  refine rg rfl ?_
                  refine Rq ?_
                  refine Rq ?_
                  refine Rq ?_
                  have tr : ∀ y0 y1 y2 y3 y4 y6 y7 y8 y9 y10 y11 y19 y30 y42 y49 y75 z0 z1 z2 : AV, trim [(10, z2), (44, z1), (43, z0), (0, y0), (1, y1), (2, y2), (3, y3), (4, y4), (6, y6), (7, y7), (8, y8), (9, y9), (10, y10), (11, y11), (19, y19), (30, y30), (42, y42), (49, y49), (75, y75)] [(0, y0), (1, y1), (2, y2), (3, y3), (4, y4), (6, y6), (7, y7), (8, y8), (9, y9), (10, y10), (11, y11), (19, y19), (30, y30), (42, y42), (49, y49), (75, y75)] = [(0, y0), (1, y1), (2, y2), (3, y3), (4, y4), (6, y6), (7, y7), (8, y8), (9, y9), (10, z2), (11, y11), (19, y19), (30, y30), (42, y42), (49, y49), (75, y75)] := fun y0 y1 y2 y3 y4 y6 y7 y8 y9 y10 y11 y19 y30 y42 y49 y75 z0 z1 z2 => rfl
                  refine R_nil (tr _ _ _ _ _ _ _ _ _ _ _ _ _ _ _ _ _ _ _) ?_; clear tr
                  refine then_n ?_
                  exact ⟨_, _, ⟨jn + 1, (gt (gt rows (sumL c).toNat) jn + pot rows q (gt rows 0).length (aft c jn) jn), K2, _, _, _, _, rfl, rfl, by exact q0, by exact qs, by exact tu, by omega, by intro hs; have hh := hb1 hs; rw [scanJ, ← hh]; first | rw [if_pos ⟨by omega, by omega, by omega, by omega⟩] | rw [if_neg (by omega)], by intro hs; exfalso; omega⟩, by rfl, by omega⟩
                · try simp only [decide_eq_true_eq, decide_eq_false_iff_not, Bool.not_eq_true', Bool.not_eq_false', beq_iff_eq, beq_eq_false_iff_ne, ne_eq] at h9
                  refine at_skip rfl ?_
                  refine blk_n ?_
                  refine then_n ?_
                  refine rg rfl ?_
                  refine Rq ?_
                  refine Rq ?_
                  refine Rq ?_
                  have tr : ∀ y0 y1 y2 y3 y4 y6 y7 y8 y9 y10 y11 y19 y30 y42 y49 y75 z0 z1 z2 : AV, trim [(10, z2), (44, z1), (43, z0), (0, y0), (1, y1), (2, y2), (3, y3), (4, y4), (6, y6), (7, y7), (8, y8), (9, y9), (10, y10), (11, y11), (19, y19), (30, y30), (42, y42), (49, y49), (75, y75)] [(0, y0), (1, y1), (2, y2), (3, y3), (4, y4), (6, y6), (7, y7), (8, y8), (9, y9), (10, y10), (11, y11), (19, y19), (30, y30), (42, y42), (49, y49), (75, y75)] = [(0, y0), (1, y1), (2, y2), (3, y3), (4, y4), (6, y6), (7, y7), (8, y8), (9, y9), (10, z2), (11, y11), (19, y19), (30, y30), (42, y42), (49, y49), (75, y75)] := fun y0 y1 y2 y3 y4 y6 y7 y8 y9 y10 y11 y19 y30 y42 y49 y75 z0 z1 z2 => rfl
                  refine R_nil (tr _ _ _ _ _ _ _ _ _ _ _ _ _ _ _ _ _ _ _) ?_; clear tr
                  refine then_n ?_
                  exact ⟨_, _, ⟨jn + 1, bst, K2, _, _, _, _, rfl, rfl, by exact q0, by exact qs, by exact tu, by omega, by intro hs; have hh := hb1 hs; rw [scanJ, ← hh]; first | rw [if_pos ⟨by omega, by omega, by omega, by omega⟩] | rw [if_neg (by omega)], by intro hs; exfalso; omega⟩, by rfl, by omega⟩
            · try simp only [decide_eq_true_eq, decide_eq_false_iff_not, Bool.not_eq_true', Bool.not_eq_false', beq_iff_eq, beq_eq_false_iff_ne, ne_eq] at h7
              refine Rn ?_
              refine Rn ?_
              refine Rn ?_
              refine Ru ?_
              refine Ru ?_
              refine Ru ?_
              refine Ru ?_
              refine Ru ?_
              refine Ru ?_
              refine Ru ?_
              refine Ru ?_
              refine Ru ?_
              refine Ru ?_
              refine Ru ?_
              refine Ru ?_
              refine Rn ?_
              refine Rq ?_
              have tr : ∀ y0 y1 y2 y3 y4 y6 y7 y8 y9 y10 y11 y19 y30 y42 y49 y75 z0 z1 z2 z3 z4 z5 z6 z7 z8 z9 z10 z11 z12 z13 z14 z15 z16 z17 z18 z19 : AV, trim [(75, z19), (74, z18), (73, z17), (72, z16), (71, z15), (70, z14), (69, z13), (68, z12), (67, z11), (66, z10), (65, z9), (64, z8), (63, z7), (62, z6), (61, z5), (60, z4), (59, z3), (58, z2), (57, z1), (56, z0), (0, y0), (1, y1), (2, y2), (3, y3), (4, y4), (6, y6), (7, y7), (8, y8), (9, y9), (10, y10), (11, y11), (19, y19), (30, y30), (42, y42), (49, y49), (75, y75)] [(0, y0), (1, y1), (2, y2), (3, y3), (4, y4), (6, y6), (7, y7), (8, y8), (9, y9), (10, y10), (11, y11), (19, y19), (30, y30), (42, y42), (49, y49), (75, y75)] = [(0, y0), (1, y1), (2, y2), (3, y3), (4, y4), (6, y6), (7, y7), (8, y8), (9, y9), (10, y10), (11, y11), (19, y19), (30, y30), (42, y42), (49, y49), (75, z19)] := fun y0 y1 y2 y3 y4 y6 y7 y8 y9 y10 y11 y19 y30 y42 y49 y75 z0 z1 z2 z3 z4 z5 z6 z7 z8 z9 z10 z11 z12 z13 z14 z15 z16 z17 z18 z19 => rfl
              refine R_nil (tr _ _ _ _ _ _ _ _ _ _ _ _ _ _ _ _ _ _ _ _ _ _ _ _ _ _ _ _ _ _ _ _ _ _ _ _) ?_; clear tr
              refine then_n ?_
              refine cdf ?_
              refine at_skip rfl ?_
              refine blk_n ?_
              refine then_n ?_
              refine rg rfl ?_
              refine Rq ?_
              refine Rq ?_
              refine Rq ?_
              have tr : ∀ y0 y1 y2 y3 y4 y6 y7 y8 y9 y10 y11 y19 y30 y42 y49 y75 z0 z1 z2 : AV, trim [(10, z2), (44, z1), (43, z0), (0, y0), (1, y1), (2, y2), (3, y3), (4, y4), (6, y6), (7, y7), (8, y8), (9, y9), (10, y10), (11, y11), (19, y19), (30, y30), (42, y42), (49, y49), (75, y75)] [(0, y0), (1, y1), (2, y2), (3, y3), (4, y4), (6, y6), (7, y7), (8, y8), (9, y9), (10, y10), (11, y11), (19, y19), (30, y30), (42, y42), (49, y49), (75, y75)] = [(0, y0), (1, y1), (2, y2), (3, y3), (4, y4), (6, y6), (7, y7), (8, y8), (9, y9), (10, z2), (11, y11), (19, y19), (30, y30), (42, y42), (49, y49), (75, y75)] := fun y0 y1 y2 y3 y4 y6 y7 y8 y9 y10 y11 y19 y30 y42 y49 y75 z0 z1 z2 => rfl
              refine R_nil (tr _ _ _ _ _ _ _ _ _ _ _ _ _ _ _ _ _ _ _) ?_; clear tr
              refine then_n ?_
              exact ⟨_, _, ⟨jn + 1, bst, K2, _, _, _, _, rfl, rfl, by exact q0, by exact qs, by exact tu, by omega, by intro hs; have hh := hb1 hs; rw [scanJ, ← hh]; first | rw [if_pos ⟨by omega, by omega, by omega, by omega⟩] | rw [if_neg (by omega)], by intro hs; exfalso; omega⟩, by rfl, by omega⟩
        · try simp only [decide_eq_true_eq, decide_eq_false_iff_not, Bool.not_eq_true', Bool.not_eq_false', beq_iff_eq, beq_eq_false_iff_ne, ne_eq] at h5
          refine at_exit rfl ?_
          refine then_x ?_
          refine then_x ?_
          refine blk_x ?_
          refine then_n ?_
          refine at_seq rfl ?_
          refine rg rfl ?_
          have hbp : bst = pot rows q (gt rows 0).length c la := by
            by_cases hs : sumL c < rows.length
            · rw [hb1 hs, show jn = (gt rows 0).length by omega, pot_lt hcl hs]
            · exact hb2 hs
          have hK1 : K.length = K1.length := by have := tu.ok.len; omega
          refine Rq ?_
          refine Rq ?_
          refine Rq ?_
          refine Rq ?_
          have lq0 := hget_lt q0
          have lqs := hget_lt qs
          have lqk := hget_lt qk
          refine A_store ty2 (by simp (disch := first | omega | (simp only [List.length_map, List.length_append, List.length_set, List.length_cons, List.length_nil, List.length_take, List.length_drop]; omega)) only [go_sem, ↓reduceIte, Nat.reduceEqDiff, reduceCtorEq, q0, qs, qk]; rfl) (by simp (disch := first | omega | (simp only [List.length_map, List.length_append, List.length_set, List.length_cons, List.length_nil, List.length_take, List.length_drop]; omega)) only [go_sem, ↓reduceIte, Nat.reduceEqDiff, reduceCtorEq, q0, qs, qk]; rfl) qk ⟨by omega, rfl, by simp only [List.length_map]; omega⟩ (by rw [setL_map, hbp]) ?_
          intro H9 w9
          obtain ⟨tu9, hgk⟩ := TabUp.set g st tu w9
          have tr : ∀ y0 y1 y2 y3 y4 y6 y7 y8 y9 y10 y11 y19 y30 y42 y49 y75 z0 z1 z2 z3 : AV, trim [(89, z3), (88, z2), (87, z1), (86, z0), (0, y0), (1, y1), (2, y2), (3, y3), (4, y4), (6, y6), (7, y7), (8, y8), (9, y9), (10, y10), (11, y11), (19, y19), (30, y30), (42, y42), (49, y49), (75, y75)] [(0, y0), (1, y1), (2, y2), (3, y3), (4, y4), (6, y6), (7, y7), (8, y8), (9, y9), (10, y10), (11, y11), (19, y19), (30, y30), (42, y42), (49, y49), (75, y75)] = [(0, y0), (1, y1), (2, y2), (3, y3), (4, y4), (6, y6), (7, y7), (8, y8), (9, y9), (10, y10), (11, y11), (19, y19), (30, y30), (42, y42), (49, y49), (75, y75)] := fun y0 y1 y2 y3 y4 y6 y7 y8 y9 y10 y11 y19 y30 y42 y49 y75 z0 z1 z2 z3 => rfl
          refine R_nil (tr _ _ _ _ _ _ _ _ _ _ _ _ _ _ _ _ _ _ _ _) ?_; clear tr
          refine then_n ?_
          refine at_seq rfl ?_
          refine rg rfl ?_
          refine Rq ?_
          refine Rq ?_
          have tr : ∀ y0 y1 y2 y3 y4 y6 y7 y8 y9 y10 y11 y19 y30 y42 y49 y75 z0 z1 : AV, trim [(6, z1), (90, z0), (0, y0), (1, y1), (2, y2), (3, y3), (4, y4), (6, y6), (7, y7), (8, y8), (9, y9), (10, y10), (11, y11), (19, y19), (30, y30), (42, y42), (49, y49), (75, y75)] [(0, y0), (1, y1), (2, y2), (3, y3), (4, y4), (6, y6), (7, y7), (8, y8), (9, y9), (10, y10), (11, y11), (19, y19), (30, y30), (42, y42), (49, y49), (75, y75)] = [(0, y0), (1, y1), (2, y2), (3, y3), (4, y4), (6, z1), (7, y7), (8, y8), (9, y9), (10, y10), (11, y11), (19, y19), (30, y30), (42, y42), (49, y49), (75, y75)] := fun y0 y1 y2 y3 y4 y6 y7 y8 y9 y10 y11 y19 y30 y42 y49 y75 z0 z1 => rfl
          refine R_nil (tr _ _ _ _ _ _ _ _ _ _ _ _ _ _ _ _ _ _) ?_; clear tr
          refine then_n ?_
          refine at_ret rfl ?_
          refine fin_own rfl (by simp only [go_sem, ↓reduceIte, Nat.reduceEqDiff]; rfl) ?_
          exact ⟨congrArg AV.i hbp, _, tu9, hgk⟩
      · try simp only [decide_eq_true_eq, decide_eq_false_iff_not, Bool.not_eq_true', Bool.not_eq_false', beq_iff_eq, beq_eq_false_iff_ne, ne_eq] at h4
        refine Rn ?_
        refine Rn ?_
        refine Rn ?_
        refine Rn ?_
        refine Rn ?_
        refine Rq ?_
        have tr : ∀ y0 y1 y2 y3 y4 y6 y7 y8 y9 y10 y11 y19 y30 y42 y49 y75 z0 z1 z2 z3 z4 z5 z6 z7 z8 z9 z10 z11 : AV, trim [(42, z11), (41, z10), (40, z9), (39, z8), (38, z7), (37, z6), (36, z5), (35, z4), (34, z3), (33, z2), (32, z1), (31, z0), (0, y0), (1, y1), (2, y2), (3, y3), (4, y4), (6, y6), (7, y7), (8, y8), (9, y9), (10, y10), (11, y11), (19, y19), (30, y30), (42, y42), (49, y49), (75, y75)] [(0, y0), (1, y1), (2, y2), (3, y3), (4, y4), (6, y6), (7, y7), (8, y8), (9, y9), (10, y10), (11, y11), (19, y19), (30, y30), (42, y42), (49, y49), (75, y75)] = [(0, y0), (1, y1), (2, y2), (3, y3), (4, y4), (6, y6), (7, y7), (8, y8), (9, y9), (10, y10), (11, y11), (19, y19), (30, y30), (42, z11), (49, y49), (75, y75)] := fun y0 y1 y2 y3 y4 y6 y7 y8 y9 y10 y11 y19 y30 y42 y49 y75 z0 z1 z2 z3 z4 z5 z6 z7 z8 z9 z10 z11 => rfl
        refine R_nil (tr _ _ _ _ _ _ _ _ _ _ _ _ _ _ _ _ _ _ _ _ _ _ _ _ _ _ _ _) ?_; clear tr
        refine then_n ?_
        refine cdf ?_
        refine at_exit rfl ?_
        refine then_x ?_
        refine then_x ?_
        refine blk_x ?_
        refine then_n ?_
        refine at_seq rfl ?_
        refine rg rfl ?_
        have hbp : bst = pot rows q (gt rows 0).length c la := by
          by_cases hs : sumL c < rows.length
          · rw [hb1 hs, show jn = (gt rows 0).length by omega, pot_lt hcl hs]
          · exact hb2 hs
        have hK1 : K.length = K1.length := by have := tu.ok.len; omega
        refine Rq ?_
        refine Rq ?_
        refine Rq ?_
        refine Rq ?_
        have lq0 := hget_lt q0
        have lqs := hget_lt qs
        have lqk := hget_lt qk
        refine A_store ty2 (by simp (disch := first | omega | (simp only [List.length_map, List.length_append, List.length_set, List.length_cons, List.length_nil, List.length_take, List.length_drop]; omega)) only [go_sem, ↓reduceIte, Nat.reduceEqDiff, reduceCtorEq, q0, qs, qk]; rfl) (by simp (disch := first | omega | (simp only [List.length_map, List.length_append, List.length_set, List.length_cons, List.length_nil, List.length_take, List.length_drop]; omega)) only [go_sem, ↓reduceIte, Nat.reduceEqDiff, reduceCtorEq, q0, qs, qk]; rfl) qk ⟨by omega, rfl, by simp only [List.length_map]; omega⟩ (by rw [setL_map, hbp]) ?_
        intro H9 w9
        obtain ⟨tu9, hgk⟩ := TabUp.set g st tu w9
        have tr : ∀ y0 y1 y2 y3 y4 y6 y7 y8 y9 y10 y11 y19 y30 y42 y49 y75 z0 z1 z2 z3 : AV, trim [(89, z3), (88, z2), (87, z1), (86, z0), (0, y0), (1, y1), (2, y2), (3, y3), (4, y4), (6, y6), (7, y7), (8, y8), (9, y9), (10, y10), (11, y11), (19, y19), (30, y30), (42, y42), (49, y49), (75, y75)] [(0, y0), (1, y1), (2, y2), (3, y3), (4, y4), (6, y6), (7, y7), (8, y8), (9, y9), (10, y10), (11, y11), (19, y19), (30, y30), (42, y42), (49, y49), (75, y75)] = [(0, y0), (1, y1), (2, y2), (3, y3), (4, y4), (6, y6), (7, y7), (8, y8), (9, y9), (10, y10), (11, y11), (19, y19), (30, y30), (42, y42), (49, y49), (75, y75)] := fun y0 y1 y2 y3 y4 y6 y7 y8 y9 y10 y11 y19 y30 y42 y49 y75 z0 z1 z2 z3 => rfl
        refine R_nil (tr _ _ _ _ _ _ _ _ _ _ _ _ _ _ _ _ _ _ _ _) ?_; clear tr
        refine then_n ?_
        refine at_seq rfl ?_
        refine rg rfl ?_
        refine Rq ?_
        refine Rq ?_
        have tr : ∀ y0 y1 y2 y3 y4 y6 y7 y8 y9 y10 y11 y19 y30 y42 y49 y75 z0 z1 : AV, trim [(6, z1), (90, z0), (0, y0), (1, y1), (2, y2), (3, y3), (4, y4), (6, y6), (7, y7), (8, y8), (9, y9), (10, y10), (11, y11), (19, y19), (30, y30), (42, y42), (49, y49), (75, y75)] [(0, y0), (1, y1), (2, y2), (3, y3), (4, y4), (6, y6), (7, y7), (8, y8), (9, y9), (10, y10), (11, y11), (19, y19), (30, y30), (42, y42), (49, y49), (75, y75)] = [(0, y0), (1, y1), (2, y2), (3, y3), (4, y4), (6, z1), (7, y7), (8, y8), (9, y9), (10, y10), (11, y11), (19, y19), (30, y30), (42, y42), (49, y49), (75, y75)] := fun y0 y1 y2 y3 y4 y6 y7 y8 y9 y10 y11 y19 y30 y42 y49 y75 z0 z1 => rfl
        refine R_nil (tr _ _ _ _ _ _ _ _ _ _ _ _ _ _ _ _ _ _) ?_; clear tr
        refine then_n ?_
        refine at_ret rfl ?_
        refine fin_own rfl (by simp only [go_sem, ↓reduceIte, Nat.reduceEqDiff]; rfl) ?_
        exact ⟨congrArg AV.i hbp, _, tu9, hgk⟩

theorem solve_ok (rows : Tb) (q la0 : Int) (g : Good rows q la0) (k : Nat) : SolveAt rows q la0 k := by
  induction k using Nat.strongRecOn with
  | ind k ih => exact solve_step rows q la0 g k ih

end Go.Proofs.Ytmkalakojfpfgaa
