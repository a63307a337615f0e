/-
  Walks of chapter 38. The steps are written by program (walk.py).
-/
import Derived.Test.YtdkhgpdojjdadaaQ
set_option linter.unusedSimpArgs false
set_option linter.unusedVariables false
set_option maxHeartbeats 40000000
set_option maxRecDepth 4000
namespace Go.Proofs.Ytdkhgpdojjdadaa
open Go Go.Am

theorem above_ok (lim : Nat) (H : Heap) (rows : Tb) :
    ACall sig lim 12 [.agg [rowsAV rows]] H fun r H' => H' = H ∧ (rawS rows ≠ 0 → r = .tup [.agg [.v (.slice none 0 0)], AV.i (rawS rows)]) ∧ (rawS rows = 0 → ∃ t, r = .tup [.agg [rowsAV t], AV.i 0] ∧ Inv rows t ∧ Closed t) := by
  have hp2 : True := trivial
  refine ACall_pure (fa := fa12) rfl rfl rfl rfl ?_
  have tr : ∀ a0 : AV, env0 fa12.keep [a0] = [(0, a0), (1, .any), (2, .any), (3, .any), (4, .any), (5, .any), (6, .any), (7, .any), (8, .any), (9, .any), (13, .any), (20, .any), (22, .any), (23, .any), (24, .any), (37, .any)] := fun a0 => rfl
  refine W_to (tr _) ?_; clear tr
  refine at_seq rfl ?_
  refine rg rfl ?_
  refine R_box rfl (by simp (disch := first | omega | (simp only [List.length_map, List.length_append, List.length_set, List.length_cons, List.length_nil, List.length_take, List.length_drop]; omega)) only [go_sem, ↓reduceIte, Nat.reduceEqDiff, reduceCtorEq, hp2]; rfl) rfl rfl ?_
  refine R_alloc (by simp (disch := first | omega | (simp only [List.length_map, List.length_append, List.length_set, List.length_cons, List.length_nil, List.length_take, List.length_drop]; omega)) only [go_sem, ↓reduceIte, Nat.reduceEqDiff, reduceCtorEq, hp2]; rfl) rfl (by simp only [List.map_cons, List.map_nil]; rfl) ?_
  refine Rq ?_
  have tr : ∀ y0 y1 y2 y3 y4 y5 y6 y7 y8 y9 y13 y20 y22 y23 y24 y37 z0 z1 z2 : AV, trim [(3, z2), (2, z1), (1, z0), (0, y0), (1, y1), (2, y2), (3, y3), (4, y4), (5, y5), (6, y6), (7, y7), (8, y8), (9, y9), (13, y13), (20, y20), (22, y22), (23, y23), (24, y24), (37, y37)] [(0, y0), (1, y1), (2, y2), (3, y3), (4, y4), (5, y5), (6, y6), (7, y7), (8, y8), (9, y9), (13, y13), (20, y20), (22, y22), (23, y23), (24, y24), (37, y37)] = [(0, y0), (1, z0), (2, z1), (3, z2), (4, y4), (5, y5), (6, y6), (7, y7), (8, y8), (9, y9), (13, y13), (20, y20), (22, y22), (23, y23), (24, y24), (37, y37)] := fun y0 y1 y2 y3 y4 y5 y6 y7 y8 y9 y13 y20 y22 y23 y24 y37 z0 z1 z2 => rfl
  refine R_nil (tr _ _ _ _ _ _ _ _ _ _ _ _ _ _ _ _ _ _ _) ?_; clear tr
  refine then_n ?_
  refine at_seq rfl ?_
  refine at_seq rfl ?_
  refine rg rfl ?_
  refine R_q rfl (by simp (disch := first | omega | (simp only [List.length_map, List.length_append, List.length_set, List.length_cons, List.length_nil, List.length_take, List.length_drop]; omega)) only [go_sem, ↓reduceIte, Nat.reduceEqDiff, reduceCtorEq, hp2]; rfl) ?_
  refine Rcall ?_
  refine ACall_eq (raw_ok _ _ _) ?_
  refine Rq ?_
  have tr : ∀ y0 y1 y2 y3 y4 y5 y6 y7 y8 y9 y13 y20 y22 y23 y24 y37 z0 z1 z2 : AV, trim [(4, z2), (11, z1), (10, z0), (0, y0), (1, y1), (2, y2), (3, y3), (4, y4), (5, y5), (6, y6), (7, y7), (8, y8), (9, y9), (13, y13), (20, y20), (22, y22), (23, y23), (24, y24), (37, y37)] [(0, y0), (1, y1), (2, y2), (3, y3), (4, y4), (5, y5), (6, y6), (7, y7), (8, y8), (9, y9), (13, y13), (20, y20), (22, y22), (23, y23), (24, y24), (37, y37)] = [(0, y0), (1, y1), (2, y2), (3, y3), (4, z2), (5, y5), (6, y6), (7, y7), (8, y8), (9, y9), (13, y13), (20, y20), (22, y22), (23, y23), (24, y24), (37, y37)] := fun y0 y1 y2 y3 y4 y5 y6 y7 y8 y9 y13 y20 y22 y23 y24 y37 z0 z1 z2 => rfl
  refine R_nil (tr _ _ _ _ _ _ _ _ _ _ _ _ _ _ _ _ _ _ _) ?_; clear tr
  refine then_n ?_
  refine at_seq rfl ?_
  refine rg rfl ?_
  refine Rq ?_
  refine Rq ?_
  have tr : ∀ y0 y1 y2 y3 y4 y5 y6 y7 y8 y9 y13 y20 y22 y23 y24 y37 z0 z1 : AV, trim [(13, z1), (12, z0), (0, y0), (1, y1), (2, y2), (3, y3), (4, y4), (5, y5), (6, y6), (7, y7), (8, y8), (9, y9), (13, y13), (20, y20), (22, y22), (23, y23), (24, y24), (37, y37)] [(0, y0), (1, y1), (2, y2), (3, y3), (4, y4), (5, y5), (6, y6), (7, y7), (8, y8), (9, y9), (13, y13), (20, y20), (22, y22), (23, y23), (24, y24), (37, y37)] = [(0, y0), (1, y1), (2, y2), (3, y3), (4, y4), (5, y5), (6, y6), (7, y7), (8, y8), (9, y9), (13, z1), (20, y20), (22, y22), (23, y23), (24, y24), (37, y37)] := fun y0 y1 y2 y3 y4 y5 y6 y7 y8 y9 y13 y20 y22 y23 y24 y37 z0 z1 => rfl
  refine R_nil (tr _ _ _ _ _ _ _ _ _ _ _ _ _ _ _ _ _ _) ?_; clear tr
  refine then_n ?_
  refine cdd (fun h1 => ?_) (fun h1 => ?_)
  · try simp only [decide_eq_true_eq, decide_eq_false_iff_not, Bool.not_eq_true', Bool.not_eq_false', beq_iff_eq, beq_eq_false_iff_ne, ne_eq] at h1
    refine at_seq rfl ?_
    refine rg rfl ?_
    refine R_q rfl (by simp only [go_sem, List.map_nil, bld24_0]; rfl) ?_
    refine Rq ?_
    refine R_store ty24 (by simp (disch := first | omega | (simp only [List.length_map, List.length_append, List.length_set, List.length_cons, List.length_nil, List.length_take, List.length_drop]; omega)) only [go_sem, ↓reduceIte, Nat.reduceEqDiff, reduceCtorEq, hp2]; rfl) (by simp (disch := first | omega | (simp only [List.length_map, List.length_append, List.length_set, List.length_cons, List.length_nil, List.length_take, List.length_drop]; omega)) only [go_sem, ↓reduceIte, Nat.reduceEqDiff, reduceCtorEq, hp2]; rfl) (by simp (disch := first | omega | (simp only [List.length_map, List.length_append, List.length_set, List.length_cons, List.length_nil, List.length_take, List.length_drop]; omega)) only [go_sem, ↓reduceIte, Nat.reduceEqDiff, reduceCtorEq, hp2]; rfl) (by simp) (by rfl) (by simp (disch := first | omega | (simp only [List.length_map, List.length_append, List.length_set, List.length_cons, List.length_nil, List.length_take, List.length_drop]; omega)) only [go_sem, ↓reduceIte, Nat.reduceEqDiff, reduceCtorEq, hp2]; rfl) ?_
    refine Rq ?_
    have tr : ∀ y0 y1 y2 y3 y4 y5 y6 y7 y8 y9 y13 y20 y22 y23 y24 y37 z0 z1 z2 : AV, trim [(3, z2), (15, z1), (14, z0), (0, y0), (1, y1), (2, y2), (3, y3), (4, y4), (5, y5), (6, y6), (7, y7), (8, y8), (9, y9), (13, y13), (20, y20), (22, y22), (23, y23), (24, y24), (37, y37)] [(0, y0), (1, y1), (2, y2), (3, y3), (4, y4), (5, y5), (6, y6), (7, y7), (8, y8), (9, y9), (13, y13), (20, y20), (22, y22), (23, y23), (24, y24), (37, y37)] = [(0, y0), (1, y1), (2, y2), (3, z2), (4, y4), (5, y5), (6, y6), (7, y7), (8, y8), (9, y9), (13, y13), (20, y20), (22, y22), (23, y23), (24, y24), (37, y37)] := fun y0 y1 y2 y3 y4 y5 y6 y7 y8 y9 y13 y20 y22 y23 y24 y37 z0 z1 z2 => rfl
    refine R_nil (tr _ _ _ _ _ _ _ _ _ _ _ _ _ _ _ _ _ _ _) ?_; clear tr
    refine then_n ?_
    refine at_ret rfl ?_
    refine then_r ?_
    refine fin_pure (rs := [.cell 2 24, .tmp 3]) rfl (by simp only [go_sem, ↓reduceIte, Nat.reduceEqDiff]; rfl) (by simp only [go_sem, ↓reduceIte, Nat.reduceEqDiff]; rfl) ?_
    exact ⟨rfl, fun _ => rfl, fun h => absurd h h1⟩
  · try simp only [decide_eq_true_eq, decide_eq_false_iff_not, Bool.not_eq_true', Bool.not_eq_false', beq_iff_eq, beq_eq_false_iff_ne, ne_eq] at h1
    refine at_skip rfl ?_
    refine then_n ?_
    refine at_seq rfl ?_
    refine rg rfl ?_
    have hraw := h1
    have hsh : shapeS rows = 0 := by
      by_cases hx : shapeS rows = 0
      · exact hx
      · rw [rawS, if_pos hx] at h1; exact absurd h1 hx
    obtain ⟨g2, g91, g1, g10, gl, gr⟩ := shaped_of hsh
    refine Rq ?_
    refine R_q rfl (by simp (disch := first | omega | (simp only [List.length_map, List.length_append, List.length_set, List.length_cons, List.length_nil, List.length_take, List.length_drop]; omega)) only [go_sem, ↓reduceIte, Nat.reduceEqDiff, reduceCtorEq, hp2]; rfl) ?_
    refine Rcall ?_
    refine ACall_mono (clone_ok _ _ (by simp) rows (by omega) (fun i hi => by rw [gl i hi]; omega)) ?_
    rintro r H5 ⟨X, rfl, hO⟩
    rcases hO with ⟨h0, _⟩ | ⟨b, bs, rfl, T⟩
    · exfalso; subst h0; simp at g2
    refine R_alloc (by simp (disch := first | omega | (simp only [List.length_map, List.length_append, List.length_set, List.length_cons, List.length_nil, List.length_take, List.length_drop]; omega)) only [go_sem, ↓reduceIte, Nat.reduceEqDiff, reduceCtorEq, hp2]; rfl) rfl (by simp only [List.map_cons, List.map_nil]; rfl) ?_
    refine R_store ty22 (by simp (disch := first | omega | (simp only [List.length_map, List.length_append, List.length_set, List.length_cons, List.length_nil, List.length_take, List.length_drop]; omega)) only [go_sem, ↓reduceIte, Nat.reduceEqDiff, reduceCtorEq, hp2]; rfl) (by simp (disch := first | omega | (simp only [List.length_map, List.length_append, List.length_set, List.length_cons, List.length_nil, List.length_take, List.length_drop]; omega)) only [go_sem, ↓reduceIte, Nat.reduceEqDiff, reduceCtorEq, hp2]; rfl) (by simp (disch := first | omega | (simp only [List.length_map, List.length_append, List.length_set, List.length_cons, List.length_nil, List.length_take, List.length_drop]; omega)) only [go_sem, ↓reduceIte, Nat.reduceEqDiff, reduceCtorEq, hp2]; rfl) (by simp) (by rfl) (by simp (disch := first | omega | (simp only [List.length_map, List.length_append, List.length_set, List.length_cons, List.length_nil, List.length_take, List.length_drop]; omega)) only [go_sem, ↓reduceIte, Nat.reduceEqDiff, reduceCtorEq, hp2]; rfl) ?_
    have tr : ∀ y0 y1 y2 y3 y4 y5 y6 y7 y8 y9 y13 y20 y22 y23 y24 y37 z0 z1 z2 z3 : AV, trim [(5, z3), (18, z2), (17, z1), (16, z0), (0, y0), (1, y1), (2, y2), (3, y3), (4, y4), (5, y5), (6, y6), (7, y7), (8, y8), (9, y9), (13, y13), (20, y20), (22, y22), (23, y23), (24, y24), (37, y37)] [(0, y0), (1, y1), (2, y2), (3, y3), (4, y4), (5, y5), (6, y6), (7, y7), (8, y8), (9, y9), (13, y13), (20, y20), (22, y22), (23, y23), (24, y24), (37, y37)] = [(0, y0), (1, y1), (2, y2), (3, y3), (4, y4), (5, z3), (6, y6), (7, y7), (8, y8), (9, y9), (13, y13), (20, y20), (22, y22), (23, y23), (24, y24), (37, y37)] := fun y0 y1 y2 y3 y4 y5 y6 y7 y8 y9 y13 y20 y22 y23 y24 y37 z0 z1 z2 z3 => rfl
    refine R_nil (tr _ _ _ _ _ _ _ _ _ _ _ _ _ _ _ _ _ _ _ _) ?_; clear tr
    refine then_n ?_
    refine at_seq rfl ?_
    refine rg rfl ?_
    have hp : ∀ i, i < rows.length → ((H ++ [some [rowsAV rows]] ++ [some [AV.v (.slice none 0 0)]]) ++ X).length ≠ bs i := fun i hi => by have := hget_lt (T.row i hi); omega
    refine Rq ?_
    refine Rq ?_
    have tr : ∀ y0 y1 y2 y3 y4 y5 y6 y7 y8 y9 y13 y20 y22 y23 y24 y37 z0 z1 : AV, trim [(6, z1), (19, z0), (0, y0), (1, y1), (2, y2), (3, y3), (4, y4), (5, y5), (6, y6), (7, y7), (8, y8), (9, y9), (13, y13), (20, y20), (22, y22), (23, y23), (24, y24), (37, y37)] [(0, y0), (1, y1), (2, y2), (3, y3), (4, y4), (5, y5), (6, y6), (7, y7), (8, y8), (9, y9), (13, y13), (20, y20), (22, y22), (23, y23), (24, y24), (37, y37)] = [(0, y0), (1, y1), (2, y2), (3, y3), (4, y4), (5, y5), (6, z1), (7, y7), (8, y8), (9, y9), (13, y13), (20, y20), (22, y22), (23, y23), (24, y24), (37, y37)] := fun y0 y1 y2 y3 y4 y5 y6 y7 y8 y9 y13 y20 y22 y23 y24 y37 z0 z1 => rfl
    refine R_nil (tr _ _ _ _ _ _ _ _ _ _ _ _ _ _ _ _ _ _) ?_; clear tr
    refine then_n ?_
    refine at_seq rfl ?_
    refine at_seq rfl ?_
    refine rg rfl ?_
    refine Rq ?_
    have tr : ∀ y0 y1 y2 y3 y4 y5 y6 y7 y8 y9 y13 y20 y22 y23 y24 y37 z0 : AV, trim [(7, z0), (0, y0), (1, y1), (2, y2), (3, y3), (4, y4), (5, y5), (6, y6), (7, y7), (8, y8), (9, y9), (13, y13), (20, y20), (22, y22), (23, y23), (24, y24), (37, y37)] [(0, y0), (1, y1), (2, y2), (3, y3), (4, y4), (5, y5), (6, y6), (7, y7), (8, y8), (9, y9), (13, y13), (20, y20), (22, y22), (23, y23), (24, y24), (37, y37)] = [(0, y0), (1, y1), (2, y2), (3, y3), (4, y4), (5, y5), (6, y6), (7, z0), (8, y8), (9, y9), (13, y13), (20, y20), (22, y22), (23, y23), (24, y24), (37, y37)] := fun y0 y1 y2 y3 y4 y5 y6 y7 y8 y9 y13 y20 y22 y23 y24 y37 z0 => rfl
    refine R_nil (tr _ _ _ _ _ _ _ _ _ _ _ _ _ _ _ _ _) ?_; clear tr
    refine then_n ?_
    refine at_block rfl ?_
    refine loop_n rfl (fun mm kv H' => ∃ l2 : Tb, ∃ ch : Bool, ∃ c0 : Bool, ∃ x8 x9 x20 x22 x23 x24 x37 : AV, (kv = [(7, AV.v (.bool ch)), (8, x8), (9, x9), (20, x20), (22, x22), (23, x23), (24, x24), (37, x37)]) ∧ (mm = (if ch = true then (9100001 - tsum l2).toNat else 0)) ∧ (RJ rows rows (H ++ [some [rowsAV rows]] ++ [some [AV.v (.slice none 0 0)]]).length b ((H ++ [some [rowsAV rows]] ++ [some [AV.v (.slice none 0 0)]]) ++ X).length bs (gt rows 0).length (fun _ _ => False) ((H ++ [some [rowsAV rows]] ++ [some [AV.v (.slice none 0 0)]]) ++ X ++ [some [AV.own 1 b 0 rows.length]]) H' l2 c0) ∧ (ch = false → Closed l2)) ⟨rows, true, false, _, _, _, _, _, _, _, rfl, rfl, by exact RJ.start (T.grow _) (by rw [hget_app]; rfl) (Inv.start gr) (fun _ _ h _ _ => h), by intro h; cases h⟩ (by rfl) ?_
    rintro mm kv H2 ⟨l2, ch, c0, x8, x9, x20, x22, x23, x24, x37, rfl, rfl, J0, hcl⟩
    have tr : ∀ y0 y1 y2 y3 y4 y5 y6 y7 y8 y9 y13 y20 y22 y23 y24 y37 z7 z8 z9 z20 z22 z23 z24 z37 : AV, upd [(0, y0), (1, y1), (2, y2), (3, y3), (4, y4), (5, y5), (6, y6), (7, y7), (8, y8), (9, y9), (13, y13), (20, y20), (22, y22), (23, y23), (24, y24), (37, y37)] [(7, z7), (8, z8), (9, z9), (20, z20), (22, z22), (23, z23), (24, z24), (37, z37)] = [(0, y0), (1, y1), (2, y2), (3, y3), (4, y4), (5, y5), (6, y6), (7, z7), (8, z8), (9, z9), (13, y13), (20, z20), (22, z22), (23, z23), (24, z24), (37, z37)] := fun y0 y1 y2 y3 y4 y5 y6 y7 y8 y9 y13 y20 y22 y23 y24 y37 z7 z8 z9 z20 z22 z23 z24 z37 => rfl
    refine W_to (tr _ _ _ _ _ _ _ _ _ _ _ _ _ _ _ _ _ _ _ _ _ _ _ _) ?_; clear tr
    refine at_seq rfl ?_
    refine at_seq rfl ?_
    refine rg rfl ?_
    refine Rq ?_
    have tr : ∀ y0 y1 y2 y3 y4 y5 y6 y7 y8 y9 y13 y20 y22 y23 y24 y37 z0 : AV, trim [(20, z0), (0, y0), (1, y1), (2, y2), (3, y3), (4, y4), (5, y5), (6, y6), (7, y7), (8, y8), (9, y9), (13, y13), (20, y20), (22, y22), (23, y23), (24, y24), (37, y37)] [(0, y0), (1, y1), (2, y2), (3, y3), (4, y4), (5, y5), (6, y6), (7, y7), (8, y8), (9, y9), (13, y13), (20, y20), (22, y22), (23, y23), (24, y24), (37, y37)] = [(0, y0), (1, y1), (2, y2), (3, y3), (4, y4), (5, y5), (6, y6), (7, y7), (8, y8), (9, y9), (13, y13), (20, z0), (22, y22), (23, y23), (24, y24), (37, y37)] := fun y0 y1 y2 y3 y4 y5 y6 y7 y8 y9 y13 y20 y22 y23 y24 y37 z0 => rfl
    refine R_nil (tr _ _ _ _ _ _ _ _ _ _ _ _ _ _ _ _ _) ?_; clear tr
    refine then_n ?_
    refine cdd (fun h2 => ?_) (fun h2 => ?_)
    · try simp only [decide_eq_true_eq, decide_eq_false_iff_not, Bool.not_eq_true', Bool.not_eq_false', beq_iff_eq, beq_eq_false_iff_ne, ne_eq] at h2
      refine at_skip rfl ?_
      refine then_n ?_
      refine at_block rfl ?_
      refine at_seq rfl ?_
      refine rg rfl ?_
      refine Rq ?_
      have tr : ∀ y0 y1 y2 y3 y4 y5 y6 y7 y8 y9 y13 y20 y22 y23 y24 y37 z0 : AV, trim [(7, z0), (0, y0), (1, y1), (2, y2), (3, y3), (4, y4), (5, y5), (6, y6), (7, y7), (8, y8), (9, y9), (13, y13), (20, y20), (22, y22), (23, y23), (24, y24), (37, y37)] [(0, y0), (1, y1), (2, y2), (3, y3), (4, y4), (5, y5), (6, y6), (7, y7), (8, y8), (9, y9), (13, y13), (20, y20), (22, y22), (23, y23), (24, y24), (37, y37)] = [(0, y0), (1, y1), (2, y2), (3, y3), (4, y4), (5, y5), (6, y6), (7, z0), (8, y8), (9, y9), (13, y13), (20, y20), (22, y22), (23, y23), (24, y24), (37, y37)] := fun y0 y1 y2 y3 y4 y5 y6 y7 y8 y9 y13 y20 y22 y23 y24 y37 z0 => rfl
      refine R_nil (tr _ _ _ _ _ _ _ _ _ _ _ _ _ _ _ _ _) ?_; clear tr
      refine then_n ?_
      refine at_seq rfl ?_
      refine at_seq rfl ?_
      refine rg rfl ?_
      have hp2 := J0.cell
      have hln0 := J0.len
      refine R_q rfl (by simp (disch := first | omega | (simp only [List.length_map, List.length_append, List.length_set, List.length_cons, List.length_nil, List.length_take, List.length_drop]; omega)) only [go_sem, ↓reduceIte, Nat.reduceEqDiff, reduceCtorEq, hp2]; rfl) ?_
      refine Rq ?_
      refine Rq ?_
      have tr : ∀ y0 y1 y2 y3 y4 y5 y6 y7 y8 y9 y13 y20 y22 y23 y24 y37 z0 z1 z2 : AV, trim [(23, z2), (22, z1), (21, z0), (0, y0), (1, y1), (2, y2), (3, y3), (4, y4), (5, y5), (6, y6), (7, y7), (8, y8), (9, y9), (13, y13), (20, y20), (22, y22), (23, y23), (24, y24), (37, y37)] [(0, y0), (1, y1), (2, y2), (3, y3), (4, y4), (5, y5), (6, y6), (7, y7), (8, y8), (9, y9), (13, y13), (20, y20), (22, y22), (23, y23), (24, y24), (37, y37)] = [(0, y0), (1, y1), (2, y2), (3, y3), (4, y4), (5, y5), (6, y6), (7, y7), (8, y8), (9, y9), (13, y13), (20, y20), (22, z1), (23, z2), (24, y24), (37, y37)] := fun y0 y1 y2 y3 y4 y5 y6 y7 y8 y9 y13 y20 y22 y23 y24 y37 z0 z1 z2 => rfl
      refine R_nil (tr _ _ _ _ _ _ _ _ _ _ _ _ _ _ _ _ _ _ _) ?_; clear tr
      refine then_n ?_
      refine at_block rfl ?_
      refine loop_n rfl (fun mm kv H' => ∃ v : Nat, ∃ l3 : Tb, ∃ c1 : Bool, ∃ x8 x24 : AV, (kv = [(7, AV.v (.bool c1)), (8, x8), (23, AV.i v), (24, x24)]) ∧ (mm = rows.length - v) ∧ (v ≤ rows.length) ∧ (RJ rows l2 (H ++ [some [rowsAV rows]] ++ [some [AV.v (.slice none 0 0)]]).length b ((H ++ [some [rowsAV rows]] ++ [some [AV.v (.slice none 0 0)]]) ++ X).length bs (gt rows 0).length (fun u _ => u < v) H2 H' l3 c1)) ⟨0, l2, false, _, _, rfl, rfl, by omega, by exact RJ.start J0.tab J0.cell J0.inv (fun _ _ h _ _ => by omega)⟩ (by rfl) ?_
      rintro mm kv H3 ⟨v, l3, c1, x8, x24, rfl, rfl, hv, J1⟩
      have tr : ∀ y0 y1 y2 y3 y4 y5 y6 y7 y8 y9 y13 y20 y22 y23 y24 y37 z7 z8 z23 z24 : AV, upd [(0, y0), (1, y1), (2, y2), (3, y3), (4, y4), (5, y5), (6, y6), (7, y7), (8, y8), (9, y9), (13, y13), (20, y20), (22, y22), (23, y23), (24, y24), (37, y37)] [(7, z7), (8, z8), (23, z23), (24, z24)] = [(0, y0), (1, y1), (2, y2), (3, y3), (4, y4), (5, y5), (6, y6), (7, z7), (8, z8), (9, y9), (13, y13), (20, y20), (22, y22), (23, z23), (24, z24), (37, y37)] := fun y0 y1 y2 y3 y4 y5 y6 y7 y8 y9 y13 y20 y22 y23 y24 y37 z7 z8 z23 z24 => rfl
      refine W_to (tr _ _ _ _ _ _ _ _ _ _ _ _ _ _ _ _ _ _ _ _) ?_; clear tr
      have hp2 := J1.cell
      have hln1 := J1.len
      refine at_seq rfl ?_
      refine rg rfl ?_
      refine Rq ?_
      have tr : ∀ y0 y1 y2 y3 y4 y5 y6 y7 y8 y9 y13 y20 y22 y23 y24 y37 z0 : AV, trim [(24, z0), (0, y0), (1, y1), (2, y2), (3, y3), (4, y4), (5, y5), (6, y6), (7, y7), (8, y8), (9, y9), (13, y13), (20, y20), (22, y22), (23, y23), (24, y24), (37, y37)] [(0, y0), (1, y1), (2, y2), (3, y3), (4, y4), (5, y5), (6, y6), (7, y7), (8, y8), (9, y9), (13, y13), (20, y20), (22, y22), (23, y23), (24, y24), (37, y37)] = [(0, y0), (1, y1), (2, y2), (3, y3), (4, y4), (5, y5), (6, y6), (7, y7), (8, y8), (9, y9), (13, y13), (20, y20), (22, y22), (23, y23), (24, z0), (37, y37)] := fun y0 y1 y2 y3 y4 y5 y6 y7 y8 y9 y13 y20 y22 y23 y24 y37 z0 => rfl
      refine R_nil (tr _ _ _ _ _ _ _ _ _ _ _ _ _ _ _ _ _) ?_; clear tr
      refine then_n ?_
      refine at_seq rfl ?_
      refine cdd (fun h3 => ?_) (fun h3 => ?_)
      · try simp only [decide_eq_true_eq, decide_eq_false_iff_not, Bool.not_eq_true', Bool.not_eq_false', beq_iff_eq, beq_eq_false_iff_ne, ne_eq] at h3
        refine at_skip rfl ?_
        refine then_n ?_
        refine at_seq rfl ?_
        refine at_block rfl ?_
        refine at_seq rfl ?_
        refine rg rfl ?_
        refine Rq ?_
        refine Rq ?_
        have tr : ∀ y0 y1 y2 y3 y4 y5 y6 y7 y8 y9 y13 y20 y22 y23 y24 y37 z0 z1 : AV, trim [(8, z1), (25, z0), (0, y0), (1, y1), (2, y2), (3, y3), (4, y4), (5, y5), (6, y6), (7, y7), (8, y8), (9, y9), (13, y13), (20, y20), (22, y22), (23, y23), (24, y24), (37, y37)] [(0, y0), (1, y1), (2, y2), (3, y3), (4, y4), (5, y5), (6, y6), (7, y7), (8, y8), (9, y9), (13, y13), (20, y20), (22, y22), (23, y23), (24, y24), (37, y37)] = [(0, y0), (1, y1), (2, y2), (3, y3), (4, y4), (5, y5), (6, y6), (7, y7), (8, z1), (9, y9), (13, y13), (20, y20), (22, y22), (23, y23), (24, y24), (37, y37)] := fun y0 y1 y2 y3 y4 y5 y6 y7 y8 y9 y13 y20 y22 y23 y24 y37 z0 z1 => rfl
        refine R_nil (tr _ _ _ _ _ _ _ _ _ _ _ _ _ _ _ _ _ _) ?_; clear tr
        refine then_n ?_
        refine rg rfl ?_
        refine Rq ?_
        refine Rq ?_
        refine R_callv (by simp (disch := first | omega | (simp only [List.length_map, List.length_append, List.length_set, List.length_cons, List.length_nil, List.length_take, List.length_drop]; omega)) only [go_sem, ↓reduceIte, Nat.reduceEqDiff, reduceCtorEq, hp2]; rfl) (by simp only [List.map_cons, List.map_nil, List.cons_append, List.nil_append, go_sem, ↓reduceIte, Nat.reduceEqDiff]; rfl) ?_
        refine ACall_mono (rowwalk_ok _ (H ++ [some [rowsAV rows]] ++ [some [AV.v (.slice none 0 0)]]).length (by simp) _ b _ bs rows _ (gt rows 0).length gl (by omega) (by omega) (fun i hi => hp i (by have := J1.len; omega)) J1.tab J1.cell J1.inv v (by omega)) ?_
        rintro r H6 ⟨l5, ch5, rfl, J5⟩
        refine Rq ?_
        refine Rp_split (fun h4 => ?_) (fun h4 => ?_)
        · try simp only [decide_eq_true_eq, decide_eq_false_iff_not, Bool.not_eq_true', Bool.not_eq_false', beq_iff_eq, beq_eq_false_iff_ne, ne_eq] at h4
          have e5 : ch5 = true := by assumption
          subst e5
          refine Rn ?_
          refine Rq ?_
          refine Rq ?_
          have tr : ∀ y0 y1 y2 y3 y4 y5 y6 y7 y8 y9 y13 y20 y22 y23 y24 y37 z0 z1 z2 z3 z4 z5 z6 : AV, trim [(7, z6), (31, z5), (30, z4), (29, z3), (28, z2), (27, z1), (26, z0), (0, y0), (1, y1), (2, y2), (3, y3), (4, y4), (5, y5), (6, y6), (7, y7), (8, y8), (9, y9), (13, y13), (20, y20), (22, y22), (23, y23), (24, y24), (37, y37)] [(0, y0), (1, y1), (2, y2), (3, y3), (4, y4), (5, y5), (6, y6), (7, y7), (8, y8), (9, y9), (13, y13), (20, y20), (22, y22), (23, y23), (24, y24), (37, y37)] = [(0, y0), (1, y1), (2, y2), (3, y3), (4, y4), (5, y5), (6, y6), (7, z6), (8, y8), (9, y9), (13, y13), (20, y20), (22, y22), (23, y23), (24, y24), (37, y37)] := fun y0 y1 y2 y3 y4 y5 y6 y7 y8 y9 y13 y20 y22 y23 y24 y37 z0 z1 z2 z3 z4 z5 z6 => rfl
          refine R_nil (tr _ _ _ _ _ _ _ _ _ _ _ _ _ _ _ _ _ _ _ _ _ _ _) ?_; clear tr
          refine blk_n ?_
          refine then_n ?_
          refine rg rfl ?_
          refine Rq ?_
          refine Rq ?_
          have tr : ∀ y0 y1 y2 y3 y4 y5 y6 y7 y8 y9 y13 y20 y22 y23 y24 y37 z0 z1 : AV, trim [(23, z1), (32, z0), (0, y0), (1, y1), (2, y2), (3, y3), (4, y4), (5, y5), (6, y6), (7, y7), (8, y8), (9, y9), (13, y13), (20, y20), (22, y22), (23, y23), (24, y24), (37, y37)] [(0, y0), (1, y1), (2, y2), (3, y3), (4, y4), (5, y5), (6, y6), (7, y7), (8, y8), (9, y9), (13, y13), (20, y20), (22, y22), (23, y23), (24, y24), (37, y37)] = [(0, y0), (1, y1), (2, y2), (3, y3), (4, y4), (5, y5), (6, y6), (7, y7), (8, y8), (9, y9), (13, y13), (20, y20), (22, y22), (23, z1), (24, y24), (37, y37)] := fun y0 y1 y2 y3 y4 y5 y6 y7 y8 y9 y13 y20 y22 y23 y24 y37 z0 z1 => rfl
          refine R_nil (tr _ _ _ _ _ _ _ _ _ _ _ _ _ _ _ _ _ _) ?_; clear tr
          refine then_n ?_
          exact ⟨_, _, ⟨v + 1, _, _, _, _, rfl, rfl, by omega, by exact (J1.trans J5).mono (fun _ _ h _ _ => by omega)⟩, by rfl, by omega⟩
        · try simp only [decide_eq_true_eq, decide_eq_false_iff_not, Bool.not_eq_true', Bool.not_eq_false', beq_iff_eq, beq_eq_false_iff_ne, ne_eq] at h4
          have e5 : ch5 = false := by assumption
          subst e5
          refine Ry ?_
          refine Rq ?_
          refine Rq ?_
          refine Rq ?_
          have tr : ∀ y0 y1 y2 y3 y4 y5 y6 y7 y8 y9 y13 y20 y22 y23 y24 y37 z0 z1 z2 z3 z4 z5 z6 : AV, trim [(7, z6), (31, z5), (30, z4), (29, z3), (28, z2), (27, z1), (26, z0), (0, y0), (1, y1), (2, y2), (3, y3), (4, y4), (5, y5), (6, y6), (7, y7), (8, y8), (9, y9), (13, y13), (20, y20), (22, y22), (23, y23), (24, y24), (37, y37)] [(0, y0), (1, y1), (2, y2), (3, y3), (4, y4), (5, y5), (6, y6), (7, y7), (8, y8), (9, y9), (13, y13), (20, y20), (22, y22), (23, y23), (24, y24), (37, y37)] = [(0, y0), (1, y1), (2, y2), (3, y3), (4, y4), (5, y5), (6, y6), (7, z6), (8, y8), (9, y9), (13, y13), (20, y20), (22, y22), (23, y23), (24, y24), (37, y37)] := fun y0 y1 y2 y3 y4 y5 y6 y7 y8 y9 y13 y20 y22 y23 y24 y37 z0 z1 z2 z3 z4 z5 z6 => rfl
          refine R_nil (tr _ _ _ _ _ _ _ _ _ _ _ _ _ _ _ _ _ _ _ _ _ _ _) ?_; clear tr
          refine blk_n ?_
          refine then_n ?_
          refine rg rfl ?_
          refine Rq ?_
          refine Rq ?_
          have tr : ∀ y0 y1 y2 y3 y4 y5 y6 y7 y8 y9 y13 y20 y22 y23 y24 y37 z0 z1 : AV, trim [(23, z1), (32, z0), (0, y0), (1, y1), (2, y2), (3, y3), (4, y4), (5, y5), (6, y6), (7, y7), (8, y8), (9, y9), (13, y13), (20, y20), (22, y22), (23, y23), (24, y24), (37, y37)] [(0, y0), (1, y1), (2, y2), (3, y3), (4, y4), (5, y5), (6, y6), (7, y7), (8, y8), (9, y9), (13, y13), (20, y20), (22, y22), (23, y23), (24, y24), (37, y37)] = [(0, y0), (1, y1), (2, y2), (3, y3), (4, y4), (5, y5), (6, y6), (7, y7), (8, y8), (9, y9), (13, y13), (20, y20), (22, y22), (23, z1), (24, y24), (37, y37)] := fun y0 y1 y2 y3 y4 y5 y6 y7 y8 y9 y13 y20 y22 y23 y24 y37 z0 z1 => rfl
          refine R_nil (tr _ _ _ _ _ _ _ _ _ _ _ _ _ _ _ _ _ _) ?_; clear tr
          refine then_n ?_
          exact ⟨_, _, ⟨v + 1, _, _, _, _, rfl, rfl, by omega, by exact (J1.trans J5).mono (fun _ _ h _ _ => by omega)⟩, by rfl, by omega⟩
      · try simp only [decide_eq_true_eq, decide_eq_false_iff_not, Bool.not_eq_true', Bool.not_eq_false', beq_iff_eq, beq_eq_false_iff_ne, ne_eq] at h3
        refine at_exit rfl ?_
        refine then_x ?_
        refine then_x ?_
        refine blk_x ?_
        refine then_n ?_
        refine at_seq rfl ?_
        refine rg rfl ?_
        have hp2 := J1.cell
        have hln1 := J1.len
        refine R_q rfl (by simp (disch := first | omega | (simp only [List.length_map, List.length_append, List.length_set, List.length_cons, List.length_nil, List.length_take, List.length_drop]; omega)) only [go_sem, ↓reduceIte, Nat.reduceEqDiff, reduceCtorEq, hp2]; rfl) ?_
        refine Rq ?_
        refine Rq ?_
        refine Rq ?_
        have tr : ∀ y0 y1 y2 y3 y4 y5 y6 y7 y8 y9 y13 y20 y22 y23 y24 y37 z0 z1 z2 z3 : AV, trim [(9, z3), (35, z2), (34, z1), (33, z0), (0, y0), (1, y1), (2, y2), (3, y3), (4, y4), (5, y5), (6, y6), (7, y7), (8, y8), (9, y9), (13, y13), (20, y20), (22, y22), (23, y23), (24, y24), (37, y37)] [(0, y0), (1, y1), (2, y2), (3, y3), (4, y4), (5, y5), (6, y6), (7, y7), (8, y8), (9, y9), (13, y13), (20, y20), (22, y22), (23, y23), (24, y24), (37, y37)] = [(0, y0), (1, y1), (2, y2), (3, y3), (4, y4), (5, y5), (6, y6), (7, y7), (8, y8), (9, z3), (13, y13), (20, y20), (22, y22), (23, y23), (24, y24), (37, y37)] := fun y0 y1 y2 y3 y4 y5 y6 y7 y8 y9 y13 y20 y22 y23 y24 y37 z0 z1 z2 z3 => rfl
        refine R_nil (tr _ _ _ _ _ _ _ _ _ _ _ _ _ _ _ _ _ _ _ _) ?_; clear tr
        refine then_n ?_
        refine at_block rfl ?_
        refine loop_n rfl (fun mm kv H' => ∃ k : Nat, ∃ z : Int, ∃ l4 : Tb, ∃ c2 : Bool, ∃ x37 : AV, (kv = [(7, AV.v (.bool c2)), (9, AV.i z), (37, x37)]) ∧ (mm = k) ∧ (z = (k : Int) - 1) ∧ (k ≤ rows.length) ∧ (RJ rows l2 (H ++ [some [rowsAV rows]] ++ [some [AV.v (.slice none 0 0)]]).length b ((H ++ [some [rowsAV rows]] ++ [some [AV.v (.slice none 0 0)]]) ++ X).length bs (gt rows 0).length (fun u _ => u < rows.length) H2 H' l4 c2)) ⟨rows.length, ((l3.length : Int) - 1), l3, c1, _, rfl, rfl, by omega, by omega, by exact J1.mono (fun _ _ h _ _ => by omega)⟩ (by rfl) ?_
        rintro mm kv H4 ⟨k, z, l4, c2, x37, rfl, rfl, hz, hk, J2⟩
        have tr : ∀ y0 y1 y2 y3 y4 y5 y6 y7 y8 y9 y13 y20 y22 y23 y24 y37 z7 z9 z37 : AV, upd [(0, y0), (1, y1), (2, y2), (3, y3), (4, y4), (5, y5), (6, y6), (7, y7), (8, y8), (9, y9), (13, y13), (20, y20), (22, y22), (23, y23), (24, y24), (37, y37)] [(7, z7), (9, z9), (37, z37)] = [(0, y0), (1, y1), (2, y2), (3, y3), (4, y4), (5, y5), (6, y6), (7, z7), (8, y8), (9, z9), (13, y13), (20, y20), (22, y22), (23, y23), (24, y24), (37, z37)] := fun y0 y1 y2 y3 y4 y5 y6 y7 y8 y9 y13 y20 y22 y23 y24 y37 z7 z9 z37 => rfl
        refine W_to (tr _ _ _ _ _ _ _ _ _ _ _ _ _ _ _ _ _ _ _) ?_; clear tr
        have hp2 := J2.cell
        have hln2 := J2.len
        refine at_seq rfl ?_
        refine at_seq rfl ?_
        refine rg rfl ?_
        refine Rq ?_
        refine Rq ?_
        have tr : ∀ y0 y1 y2 y3 y4 y5 y6 y7 y8 y9 y13 y20 y22 y23 y24 y37 z0 z1 : AV, trim [(37, z1), (36, z0), (0, y0), (1, y1), (2, y2), (3, y3), (4, y4), (5, y5), (6, y6), (7, y7), (8, y8), (9, y9), (13, y13), (20, y20), (22, y22), (23, y23), (24, y24), (37, y37)] [(0, y0), (1, y1), (2, y2), (3, y3), (4, y4), (5, y5), (6, y6), (7, y7), (8, y8), (9, y9), (13, y13), (20, y20), (22, y22), (23, y23), (24, y24), (37, y37)] = [(0, y0), (1, y1), (2, y2), (3, y3), (4, y4), (5, y5), (6, y6), (7, y7), (8, y8), (9, y9), (13, y13), (20, y20), (22, y22), (23, y23), (24, y24), (37, z1)] := fun y0 y1 y2 y3 y4 y5 y6 y7 y8 y9 y13 y20 y22 y23 y24 y37 z0 z1 => rfl
        refine R_nil (tr _ _ _ _ _ _ _ _ _ _ _ _ _ _ _ _ _ _) ?_; clear tr
        refine then_n ?_
        refine cdd (fun h5 => ?_) (fun h5 => ?_)
        · try simp only [decide_eq_true_eq, decide_eq_false_iff_not, Bool.not_eq_true', Bool.not_eq_false', beq_iff_eq, beq_eq_false_iff_ne, ne_eq] at h5
          refine at_skip rfl ?_
          refine then_n ?_
          refine at_seq rfl ?_
          refine at_block rfl ?_
          refine rg rfl ?_
          obtain ⟨w, rfl⟩ := Int.eq_ofNat_of_zero_le (by omega : 0 ≤ z)
          refine Rq ?_
          refine Rq ?_
          refine R_callv (by simp (disch := first | omega | (simp only [List.length_map, List.length_append, List.length_set, List.length_cons, List.length_nil, List.length_take, List.length_drop]; omega)) only [go_sem, ↓reduceIte, Nat.reduceEqDiff, reduceCtorEq, hp2]; rfl) (by simp only [List.map_cons, List.map_nil, List.cons_append, List.nil_append, go_sem, ↓reduceIte, Nat.reduceEqDiff]; rfl) ?_
          refine ACall_mono (rowwalk_ok _ (H ++ [some [rowsAV rows]] ++ [some [AV.v (.slice none 0 0)]]).length (by simp) _ b _ bs rows _ (gt rows 0).length gl (by omega) (by omega) (fun i hi => hp i (by have := J2.len; omega)) J2.tab J2.cell J2.inv w (by omega)) ?_
          rintro r H6 ⟨l5, ch5, rfl, J5⟩
          refine Rq ?_
          refine Rp_split (fun h6 => ?_) (fun h6 => ?_)
          · try simp only [decide_eq_true_eq, decide_eq_false_iff_not, Bool.not_eq_true', Bool.not_eq_false', beq_iff_eq, beq_eq_false_iff_ne, ne_eq] at h6
            have e5 : ch5 = true := by assumption
            subst e5
            refine Rn ?_
            refine Rq ?_
            refine Rq ?_
            have tr : ∀ y0 y1 y2 y3 y4 y5 y6 y7 y8 y9 y13 y20 y22 y23 y24 y37 z0 z1 z2 z3 z4 z5 z6 : AV, trim [(7, z6), (45, z5), (44, z4), (43, z3), (42, z2), (41, z1), (40, z0), (0, y0), (1, y1), (2, y2), (3, y3), (4, y4), (5, y5), (6, y6), (7, y7), (8, y8), (9, y9), (13, y13), (20, y20), (22, y22), (23, y23), (24, y24), (37, y37)] [(0, y0), (1, y1), (2, y2), (3, y3), (4, y4), (5, y5), (6, y6), (7, y7), (8, y8), (9, y9), (13, y13), (20, y20), (22, y22), (23, y23), (24, y24), (37, y37)] = [(0, y0), (1, y1), (2, y2), (3, y3), (4, y4), (5, y5), (6, y6), (7, z6), (8, y8), (9, y9), (13, y13), (20, y20), (22, y22), (23, y23), (24, y24), (37, y37)] := fun y0 y1 y2 y3 y4 y5 y6 y7 y8 y9 y13 y20 y22 y23 y24 y37 z0 z1 z2 z3 z4 z5 z6 => rfl
            refine R_nil (tr _ _ _ _ _ _ _ _ _ _ _ _ _ _ _ _ _ _ _ _ _ _ _) ?_; clear tr
            refine blk_n ?_
            refine then_n ?_
            refine rg rfl ?_
            refine Rq ?_
            refine Rq ?_
            refine Rq ?_
            have tr : ∀ y0 y1 y2 y3 y4 y5 y6 y7 y8 y9 y13 y20 y22 y23 y24 y37 z0 z1 z2 : AV, trim [(9, z2), (39, z1), (38, z0), (0, y0), (1, y1), (2, y2), (3, y3), (4, y4), (5, y5), (6, y6), (7, y7), (8, y8), (9, y9), (13, y13), (20, y20), (22, y22), (23, y23), (24, y24), (37, y37)] [(0, y0), (1, y1), (2, y2), (3, y3), (4, y4), (5, y5), (6, y6), (7, y7), (8, y8), (9, y9), (13, y13), (20, y20), (22, y22), (23, y23), (24, y24), (37, y37)] = [(0, y0), (1, y1), (2, y2), (3, y3), (4, y4), (5, y5), (6, y6), (7, y7), (8, y8), (9, z2), (13, y13), (20, y20), (22, y22), (23, y23), (24, y24), (37, y37)] := fun y0 y1 y2 y3 y4 y5 y6 y7 y8 y9 y13 y20 y22 y23 y24 y37 z0 z1 z2 => rfl
            refine R_nil (tr _ _ _ _ _ _ _ _ _ _ _ _ _ _ _ _ _ _ _) ?_; clear tr
            refine then_n ?_
            exact ⟨_, _, ⟨w, (↑w - 1), _, _, _, rfl, rfl, by rfl, by omega, by exact (J2.trans J5).mono (fun _ _ h _ _ => Or.inl h)⟩, by rfl, by omega⟩
          · try simp only [decide_eq_true_eq, decide_eq_false_iff_not, Bool.not_eq_true', Bool.not_eq_false', beq_iff_eq, beq_eq_false_iff_ne, ne_eq] at h6
            have e5 : ch5 = false := by assumption
            subst e5
            refine Ry ?_
            refine Rq ?_
            refine Rq ?_
            refine Rq ?_
            have tr : ∀ y0 y1 y2 y3 y4 y5 y6 y7 y8 y9 y13 y20 y22 y23 y24 y37 z0 z1 z2 z3 z4 z5 z6 : AV, trim [(7, z6), (45, z5), (44, z4), (43, z3), (42, z2), (41, z1), (40, z0), (0, y0), (1, y1), (2, y2), (3, y3), (4, y4), (5, y5), (6, y6), (7, y7), (8, y8), (9, y9), (13, y13), (20, y20), (22, y22), (23, y23), (24, y24), (37, y37)] [(0, y0), (1, y1), (2, y2), (3, y3), (4, y4), (5, y5), (6, y6), (7, y7), (8, y8), (9, y9), (13, y13), (20, y20), (22, y22), (23, y23), (24, y24), (37, y37)] = [(0, y0), (1, y1), (2, y2), (3, y3), (4, y4), (5, y5), (6, y6), (7, z6), (8, y8), (9, y9), (13, y13), (20, y20), (22, y22), (23, y23), (24, y24), (37, y37)] := fun y0 y1 y2 y3 y4 y5 y6 y7 y8 y9 y13 y20 y22 y23 y24 y37 z0 z1 z2 z3 z4 z5 z6 => rfl
            refine R_nil (tr _ _ _ _ _ _ _ _ _ _ _ _ _ _ _ _ _ _ _ _ _ _ _) ?_; clear tr
            refine blk_n ?_
            refine then_n ?_
            refine rg rfl ?_
            refine Rq ?_
            refine Rq ?_
            refine Rq ?_
            have tr : ∀ y0 y1 y2 y3 y4 y5 y6 y7 y8 y9 y13 y20 y22 y23 y24 y37 z0 z1 z2 : AV, trim [(9, z2), (39, z1), (38, z0), (0, y0), (1, y1), (2, y2), (3, y3), (4, y4), (5, y5), (6, y6), (7, y7), (8, y8), (9, y9), (13, y13), (20, y20), (22, y22), (23, y23), (24, y24), (37, y37)] [(0, y0), (1, y1), (2, y2), (3, y3), (4, y4), (5, y5), (6, y6), (7, y7), (8, y8), (9, y9), (13, y13), (20, y20), (22, y22), (23, y23), (24, y24), (37, y37)] = [(0, y0), (1, y1), (2, y2), (3, y3), (4, y4), (5, y5), (6, y6), (7, y7), (8, y8), (9, z2), (13, y13), (20, y20), (22, y22), (23, y23), (24, y24), (37, y37)] := fun y0 y1 y2 y3 y4 y5 y6 y7 y8 y9 y13 y20 y22 y23 y24 y37 z0 z1 z2 => rfl
            refine R_nil (tr _ _ _ _ _ _ _ _ _ _ _ _ _ _ _ _ _ _ _) ?_; clear tr
            refine then_n ?_
            exact ⟨_, _, ⟨w, (↑w - 1), _, _, _, rfl, rfl, by rfl, by omega, by exact (J2.trans J5).mono (fun _ _ h _ _ => Or.inl h)⟩, by rfl, by omega⟩
        · try simp only [decide_eq_true_eq, decide_eq_false_iff_not, Bool.not_eq_true', Bool.not_eq_false', beq_iff_eq, beq_eq_false_iff_ne, ne_eq] at h5
          refine at_exit rfl ?_
          refine then_x ?_
          refine then_x ?_
          refine blk_x ?_
          refine blk_n ?_
          refine then_n ?_
          exact ⟨_, _, ⟨_, _, _, _, _, _, _, _, _, _, rfl, rfl, by exact (J0.trans J2).mono (fun _ _ h _ _ => h.elim), by intro h u hu w hw; exact (J2.no h).2 u w (by have := J2.len; omega) hu (by rw [(J2.inv.same.rect gl) u hu] at hw; exact hw)⟩, by rfl, by exact pass_dec (by assumption) J2.yes (tsum_le (J0.inv.same.rect gl) g10 (by omega) J0.inv.rng) (tsum_le (J2.inv.same.rect gl) g10 (by have := J2.len; omega) J2.inv.rng)⟩
    · try simp only [decide_eq_true_eq, decide_eq_false_iff_not, Bool.not_eq_true', Bool.not_eq_false', beq_iff_eq, beq_eq_false_iff_ne, ne_eq] at h2
      refine at_exit rfl ?_
      refine then_x ?_
      refine then_x ?_
      refine blk_x ?_
      refine then_n ?_
      refine at_seq rfl ?_
      refine rg rfl ?_
      have hp2 := J0.cell
      have hq0 : hget H2 (H ++ [some [rowsAV rows]]).length = some [AV.v (.slice none 0 0)] := by
        rw [J0.frame _ (fun i hi => by have := T.low i (by have := J0.len; omega); simp at this ⊢; omega), hget_low _ _ _ (by simp), hget_low _ _ _ (by simp), hget_app]; rfl
      have hq1 := hget_lt hq0
      refine R_q rfl (by simp (disch := first | omega | (simp only [List.length_map, List.length_append, List.length_set, List.length_cons, List.length_nil, List.length_take, List.length_drop]; omega)) only [go_sem, ↓reduceIte, Nat.reduceEqDiff, reduceCtorEq, hp2]; rfl) ?_
      refine R_q rfl (by simp only [go_sem, ↓reduceIte, Nat.reduceEqDiff, List.map_cons, List.map_nil, bld24]; rfl) ?_
      refine R_store ty24 (by simp (disch := first | omega | (simp only [List.length_map, List.length_append, List.length_set, List.length_cons, List.length_nil, List.length_take, List.length_drop]; omega)) only [go_sem, ↓reduceIte, Nat.reduceEqDiff, reduceCtorEq]; rfl) (by simp (disch := first | omega | (simp only [List.length_map, List.length_append, List.length_set, List.length_cons, List.length_nil, List.length_take, List.length_drop]; omega)) only [go_sem, ↓reduceIte, Nat.reduceEqDiff, reduceCtorEq]; rfl) hq0 (by simp) (by rfl) (by rfl) ?_
      refine Rq ?_
      have tr : ∀ y0 y1 y2 y3 y4 y5 y6 y7 y8 y9 y13 y20 y22 y23 y24 y37 z0 z1 z2 : AV, trim [(3, z2), (47, z1), (46, z0), (0, y0), (1, y1), (2, y2), (3, y3), (4, y4), (5, y5), (6, y6), (7, y7), (8, y8), (9, y9), (13, y13), (20, y20), (22, y22), (23, y23), (24, y24), (37, y37)] [(0, y0), (1, y1), (2, y2), (3, y3), (4, y4), (5, y5), (6, y6), (7, y7), (8, y8), (9, y9), (13, y13), (20, y20), (22, y22), (23, y23), (24, y24), (37, y37)] = [(0, y0), (1, y1), (2, y2), (3, z2), (4, y4), (5, y5), (6, y6), (7, y7), (8, y8), (9, y9), (13, y13), (20, y20), (22, y22), (23, y23), (24, y24), (37, y37)] := fun y0 y1 y2 y3 y4 y5 y6 y7 y8 y9 y13 y20 y22 y23 y24 y37 z0 z1 z2 => rfl
      refine R_nil (tr _ _ _ _ _ _ _ _ _ _ _ _ _ _ _ _ _ _ _) ?_; clear tr
      refine then_n ?_
      refine at_ret rfl ?_
      refine fin_pure (rs := [.cell 2 24, .tmp 3]) rfl (l := [.agg [.own 1 b 0 l2.length], AV.i 0]) (by simp only [go_sem, ↓reduceIte, Nat.reduceEqDiff, hget_set_self _ _ _ hq1]; rfl) (by simp only [go_sem, (J0.tab.other (H ++ [some [rowsAV rows]]).length _ (by simp)).frz H.length 3 (by simp)]; rfl) ?_
      exact ⟨rfl, fun h => absurd hraw h, fun _ => ⟨l2, rfl, J0.inv, hcl (by assumption)⟩⟩

end Go.Proofs.Ytdkhgpdojjdadaa
