/-
  Walks of chapter 38. The steps are written by program (walk.py).
-/
import Derived.Test.YtdkhgpdojjdadaaWJ
import Derived.Test.YtdkhgpdojjdadaaWK
import Derived.Test.YtdkhgpdojjdadaaWE
import Derived.Test.YtdkhgpdojjdadaaL
import Derived.KernelRfl
set_option linter.unusedSimpArgs false
set_option linter.unusedVariables false
set_option maxHeartbeats 40000000
set_option maxRecDepth 4000
namespace Go.Proofs.Ytdkhgpdojjdadaa
open Go Go.Am

theorem awake_1 (lim : Nat) (x : AV) : acall sig 300 lim 10 [] ([] ++ [some [x]]) = some (.v (.bool true), [] ++ [some [x]]) := by kernel_rfl
theorem bs38 (lim : Nat) (H : Heap) (x : Operand) (ev : Operand → AV) (c : AV) (hc : storable c = true) (h : ev x = .agg [c]) :
    effV Try.prog lim (.buildSlice 38 1 #[(0, x)]) ev H = some (.own 1 H.length 0 1, H ++ [some [c]]) := by
  simp only [effV, tk38, ty24, List.map_cons, List.map_nil, h, fillA, cellsOf, List.all_cons, List.all_nil, hc, Bool.and_true, if_true]
  rfl
theorem above_case {rows : Tb} {r : AV} (h : (rawS rows ≠ 0 → r = .tup [.agg [.v (.slice none 0 0)], AV.i (rawS rows)]) ∧ (rawS rows = 0 → ∃ t, r = .tup [.agg [rowsAV t], AV.i 0] ∧ Inv rows t ∧ Closed t)) :
    ∃ t ta, r = .tup [.agg [ta], AV.i (rawS rows)] ∧ storable ta = true ∧ ((rawS rows = 0 ∧ ta = rowsAV t ∧ Inv rows t ∧ Closed t) ∨ (rawS rows ≠ 0 ∧ ta = .v (.slice none 0 0))) := by
  by_cases hr : rawS rows = 0
  · obtain ⟨t, h1, h2, h3⟩ := h.2 hr
    exact ⟨t, rowsAV t, by rw [h1, hr], rfl, .inl ⟨hr, rfl, h2, h3⟩⟩
  · exact ⟨[], _, h.1 hr, rfl, .inr ⟨hr, rfl⟩⟩
theorem same_lens {t : Tb} (h : checkS t = 0) : t.length ≤ 4611686018427387904 ∧ ∀ u, u < t.length → (gt t u).length ≤ 4611686018427387904 := by
  have s := shaped_of (raw_zero (check_zero h).1).1
  have h1 := s.most
  have h2 := s.ten
  exact ⟨by omega, fun u hu => by rw [s.len u hu]; omega⟩

theorem stays_ok (rows : Tb) : ACall sig 0 4 [.agg [rowsAV rows]] [] fun r _ => r = .v (.bool true) := by
  have hst : True := trivial
  refine ACall_pure (fa := fa4) rfl rfl rfl rfl ?_
  have tr : ∀ a0 : AV, env0 fa4.keep [a0] = [(0, a0), (1, .any), (2, .any), (3, .any), (4, .any), (5, .any), (6, .any), (8, .any), (12, .any), (30, .any), (32, .any)] := fun a0 => rfl
  refine W_to (tr _) ?_; clear tr
  refine at_seq rfl ?_
  refine rg rfl ?_
  refine R_box rfl (by simp (disch := first | omega | (simp only [List.length_map, List.length_append, List.length_set, List.length_cons, List.length_nil, List.length_take, List.length_drop]; omega)) only [go_sem, ↓reduceIte, Nat.reduceEqDiff, reduceCtorEq, hst]; rfl) rfl rfl ?_
  refine Rq ?_
  have tr : ∀ y0 y1 y2 y3 y4 y5 y6 y8 y12 y30 y32 z0 z1 : AV, trim [(2, z1), (1, z0), (0, y0), (1, y1), (2, y2), (3, y3), (4, y4), (5, y5), (6, y6), (8, y8), (12, y12), (30, y30), (32, y32)] [(0, y0), (1, y1), (2, y2), (3, y3), (4, y4), (5, y5), (6, y6), (8, y8), (12, y12), (30, y30), (32, y32)] = [(0, y0), (1, z0), (2, z1), (3, y3), (4, y4), (5, y5), (6, y6), (8, y8), (12, y12), (30, y30), (32, y32)] := fun y0 y1 y2 y3 y4 y5 y6 y8 y12 y30 y32 z0 z1 => rfl
  refine R_nil (tr _ _ _ _ _ _ _ _ _ _ _ _ _) ?_; clear tr
  refine then_n ?_
  refine at_seq rfl ?_
  refine at_seq rfl ?_
  refine rg rfl ?_
  refine Rcall ?_
  refine ACall_eval 300 (awake_1 _ _) ?_
  refine Rq ?_
  have tr : ∀ y0 y1 y2 y3 y4 y5 y6 y8 y12 y30 y32 z0 z1 : AV, trim [(8, z1), (7, z0), (0, y0), (1, y1), (2, y2), (3, y3), (4, y4), (5, y5), (6, y6), (8, y8), (12, y12), (30, y30), (32, y32)] [(0, y0), (1, y1), (2, y2), (3, y3), (4, y4), (5, y5), (6, y6), (8, y8), (12, y12), (30, y30), (32, y32)] = [(0, y0), (1, y1), (2, y2), (3, y3), (4, y4), (5, y5), (6, y6), (8, z1), (12, y12), (30, y30), (32, y32)] := fun y0 y1 y2 y3 y4 y5 y6 y8 y12 y30 y32 z0 z1 => rfl
  refine R_nil (tr _ _ _ _ _ _ _ _ _ _ _ _ _) ?_; clear tr
  refine then_n ?_
  refine cdf ?_
  refine at_skip rfl ?_
  refine then_n ?_
  refine at_seq rfl ?_
  refine at_seq rfl ?_
  refine rg rfl ?_
  refine R_q rfl (by simp (disch := first | omega | (simp only [List.length_map, List.length_append, List.length_set, List.length_cons, List.length_nil, List.length_take, List.length_drop]; omega)) only [go_sem, ↓reduceIte, Nat.reduceEqDiff, reduceCtorEq, hst]; rfl) ?_
  refine R_buildSlice (bs38 _ _ _ _ _ rfl (by simp only [go_sem, ↓reduceIte, Nat.reduceEqDiff]; rfl)) ?_
  refine Rcall ?_
  refine ACall_eq (small_ok _ _ _ [rows] (by simp only [go_sem]; rfl) (by simp)) ?_
  refine Rq ?_
  have tr : ∀ y0 y1 y2 y3 y4 y5 y6 y8 y12 y30 y32 z0 z1 z2 z3 : AV, trim [(12, z3), (11, z2), (10, z1), (9, z0), (0, y0), (1, y1), (2, y2), (3, y3), (4, y4), (5, y5), (6, y6), (8, y8), (12, y12), (30, y30), (32, y32)] [(0, y0), (1, y1), (2, y2), (3, y3), (4, y4), (5, y5), (6, y6), (8, y8), (12, y12), (30, y30), (32, y32)] = [(0, y0), (1, y1), (2, y2), (3, y3), (4, y4), (5, y5), (6, y6), (8, y8), (12, z3), (30, y30), (32, y32)] := fun y0 y1 y2 y3 y4 y5 y6 y8 y12 y30 y32 z0 z1 z2 z3 => rfl
  refine R_nil (tr _ _ _ _ _ _ _ _ _ _ _ _ _ _ _) ?_; clear tr
  refine then_n ?_
  refine cdd (fun h1 => ?_) (fun h1 => ?_)
  · try simp only [decide_eq_true_eq, decide_eq_false_iff_not, Bool.not_eq_true', Bool.not_eq_false', beq_iff_eq, beq_eq_false_iff_ne, ne_eq] at h1
    refine at_seq rfl ?_
    refine rg rfl ?_
    refine Rq ?_
    have tr : ∀ y0 y1 y2 y3 y4 y5 y6 y8 y12 y30 y32 z0 : AV, trim [(2, z0), (0, y0), (1, y1), (2, y2), (3, y3), (4, y4), (5, y5), (6, y6), (8, y8), (12, y12), (30, y30), (32, y32)] [(0, y0), (1, y1), (2, y2), (3, y3), (4, y4), (5, y5), (6, y6), (8, y8), (12, y12), (30, y30), (32, y32)] = [(0, y0), (1, y1), (2, z0), (3, y3), (4, y4), (5, y5), (6, y6), (8, y8), (12, y12), (30, y30), (32, y32)] := fun y0 y1 y2 y3 y4 y5 y6 y8 y12 y30 y32 z0 => rfl
    refine R_nil (tr _ _ _ _ _ _ _ _ _ _ _ _) ?_; clear tr
    refine then_n ?_
    refine at_ret rfl ?_
    refine then_r ?_
    refine fpure ?_
    rfl
  · try simp only [decide_eq_true_eq, decide_eq_false_iff_not, Bool.not_eq_true', Bool.not_eq_false', beq_iff_eq, beq_eq_false_iff_ne, ne_eq] at h1
    refine at_skip rfl ?_
    refine then_n ?_
    refine at_seq rfl ?_
    refine rg rfl ?_
    refine R_q rfl (by simp (disch := first | omega | (simp only [List.length_map, List.length_append, List.length_set, List.length_cons, List.length_nil, List.length_take, List.length_drop]; omega)) only [go_sem, ↓reduceIte, Nat.reduceEqDiff, reduceCtorEq, hst]; rfl) ?_
    refine Rcall ?_
    refine ACall_mono (above_ok _ _ rows) ?_
    rintro r H6 ⟨rfl, hA⟩
    obtain ⟨t, ta, rfl, hst, hcase⟩ := above_case hA
    refine Rq ?_
    refine Rq ?_
    refine Rq ?_
    refine R_alloc (by simp (disch := first | omega | (simp only [List.length_map, List.length_append, List.length_set, List.length_cons, List.length_nil, List.length_take, List.length_drop]; omega)) only [go_sem, ↓reduceIte, Nat.reduceEqDiff, reduceCtorEq, hst]; rfl) rfl (by simp only [List.map_cons, List.map_nil]; rfl) ?_
    refine R_store ty24 (by simp (disch := first | omega | (simp only [List.length_map, List.length_append, List.length_set, List.length_cons, List.length_nil, List.length_take, List.length_drop]; omega)) only [go_sem, ↓reduceIte, Nat.reduceEqDiff, reduceCtorEq, hst]; rfl) (by simp (disch := first | omega | (simp only [List.length_map, List.length_append, List.length_set, List.length_cons, List.length_nil, List.length_take, List.length_drop]; omega)) only [go_sem, ↓reduceIte, Nat.reduceEqDiff, reduceCtorEq, hst]; rfl) (by simp (disch := first | omega | (simp only [List.length_map, List.length_append, List.length_set, List.length_cons, List.length_nil, List.length_take, List.length_drop]; omega)) only [go_sem, ↓reduceIte, Nat.reduceEqDiff, reduceCtorEq, hst]; rfl) (by simp) (by rfl) (by simp (disch := first | omega | (simp only [List.length_map, List.length_append, List.length_set, List.length_cons, List.length_nil, List.length_take, List.length_drop]; omega)) only [go_sem, ↓reduceIte, Nat.reduceEqDiff, reduceCtorEq, hst]; rfl) ?_
    refine Rq ?_
    have tr : ∀ y0 y1 y2 y3 y4 y5 y6 y8 y12 y30 y32 z0 z1 z2 z3 z4 z5 z6 : AV, trim [(4, z6), (3, z5), (17, z4), (16, z3), (13, z2), (15, z1), (14, z0), (0, y0), (1, y1), (2, y2), (3, y3), (4, y4), (5, y5), (6, y6), (8, y8), (12, y12), (30, y30), (32, y32)] [(0, y0), (1, y1), (2, y2), (3, y3), (4, y4), (5, y5), (6, y6), (8, y8), (12, y12), (30, y30), (32, y32)] = [(0, y0), (1, y1), (2, y2), (3, z5), (4, z6), (5, y5), (6, y6), (8, y8), (12, y12), (30, y30), (32, y32)] := fun y0 y1 y2 y3 y4 y5 y6 y8 y12 y30 y32 z0 z1 z2 z3 z4 z5 z6 => rfl
    refine R_nil (tr _ _ _ _ _ _ _ _ _ _ _ _ _ _ _ _ _ _) ?_; clear tr
    refine then_n ?_
    refine at_seq rfl ?_
    refine at_seq rfl ?_
    refine rg rfl ?_
    refine R_q rfl (by simp (disch := first | omega | (simp only [List.length_map, List.length_append, List.length_set, List.length_cons, List.length_nil, List.length_take, List.length_drop]; omega)) only [go_sem, ↓reduceIte, Nat.reduceEqDiff, reduceCtorEq, hst]; rfl) ?_
    refine Rcall ?_
    refine ACall_eq (check_ok _ _ _) ?_
    refine Rq ?_
    refine Rq ?_
    refine Rp_split (fun h2 => ?_) (fun h2 => ?_)
    · try simp only [decide_eq_true_eq, decide_eq_false_iff_not, Bool.not_eq_true', Bool.not_eq_false', beq_iff_eq, beq_eq_false_iff_ne, ne_eq] at h2
      have hk : checkS rows = 0 := by assumption
      obtain ⟨hr0, hta, hI, hC⟩ := hcase.resolve_right (fun hh => hh.1 (check_zero hk).1)
      subst hta
      have e : t = rows := stays hI (check_closed hk)
      refine Ry ?_
      refine Rq ?_
      refine Ry ?_
      refine Rq ?_
      refine Ry ?_
      refine Rq ?_
      refine Rp_split (fun h3 => ?_) (fun h3 => ?_)
      · try simp only [decide_eq_true_eq, decide_eq_false_iff_not, Bool.not_eq_true', Bool.not_eq_false', beq_iff_eq, beq_eq_false_iff_ne, ne_eq] at h3
        exact absurd hr0 (by assumption)
      · try simp only [decide_eq_true_eq, decide_eq_false_iff_not, Bool.not_eq_true', Bool.not_eq_false', beq_iff_eq, beq_eq_false_iff_ne, ne_eq] at h3
        refine Ry ?_
        refine R_q rfl (by simp (disch := first | omega | (simp only [List.length_map, List.length_append, List.length_set, List.length_cons, List.length_nil, List.length_take, List.length_drop]; omega)) only [go_sem, ↓reduceIte, Nat.reduceEqDiff, reduceCtorEq, hst]; rfl) ?_
        refine Ry ?_
        refine R_q rfl (by simp (disch := first | omega | (simp only [List.length_map, List.length_append, List.length_set, List.length_cons, List.length_nil, List.length_take, List.length_drop]; omega)) only [go_sem, ↓reduceIte, Nat.reduceEqDiff, reduceCtorEq, hst]; rfl) ?_
        refine Ry ?_
        refine Rcall ?_
        refine ACall_mono (same_ok _ _ t rows (by rw [e]; exact (same_lens hk).1) (by rw [e]; exact (same_lens hk).2)) ?_
        rintro r H7 ⟨rfl, rfl⟩
        rw [decide_eq_true e]
        refine Ry ?_
        refine Rq ?_
        refine Ry ?_
        refine Rq ?_
        refine Rq ?_
        have tr : ∀ y0 y1 y2 y3 y4 y5 y6 y8 y12 y30 y32 z0 z1 z2 z3 z4 z5 z6 z7 z8 z9 z10 z11 z12 : AV, trim [(30, z12), (29, z11), (28, z10), (27, z9), (26, z8), (25, z7), (24, z6), (23, z5), (22, z4), (21, z3), (20, z2), (19, z1), (18, z0), (0, y0), (1, y1), (2, y2), (3, y3), (4, y4), (5, y5), (6, y6), (8, y8), (12, y12), (30, y30), (32, y32)] [(0, y0), (1, y1), (2, y2), (3, y3), (4, y4), (5, y5), (6, y6), (8, y8), (12, y12), (30, y30), (32, y32)] = [(0, y0), (1, y1), (2, y2), (3, y3), (4, y4), (5, y5), (6, y6), (8, y8), (12, y12), (30, z12), (32, y32)] := fun y0 y1 y2 y3 y4 y5 y6 y8 y12 y30 y32 z0 z1 z2 z3 z4 z5 z6 z7 z8 z9 z10 z11 z12 => rfl
        refine R_nil (tr _ _ _ _ _ _ _ _ _ _ _ _ _ _ _ _ _ _ _ _ _ _ _ _) ?_; clear tr
        refine then_n ?_
        refine cdf ?_
        refine at_skip rfl ?_
        refine then_n ?_
        refine at_seq rfl ?_
        refine at_seq rfl ?_
        refine rg rfl ?_
        refine Rq ?_
        refine Rq ?_
        have tr : ∀ y0 y1 y2 y3 y4 y5 y6 y8 y12 y30 y32 z0 z1 : AV, trim [(32, z1), (31, z0), (0, y0), (1, y1), (2, y2), (3, y3), (4, y4), (5, y5), (6, y6), (8, y8), (12, y12), (30, y30), (32, y32)] [(0, y0), (1, y1), (2, y2), (3, y3), (4, y4), (5, y5), (6, y6), (8, y8), (12, y12), (30, y30), (32, y32)] = [(0, y0), (1, y1), (2, y2), (3, y3), (4, y4), (5, y5), (6, y6), (8, y8), (12, y12), (30, y30), (32, z1)] := fun y0 y1 y2 y3 y4 y5 y6 y8 y12 y30 y32 z0 z1 => rfl
        refine R_nil (tr _ _ _ _ _ _ _ _ _ _ _ _ _) ?_; clear tr
        refine then_n ?_
        refine cdd (fun h4 => ?_) (fun h4 => ?_)
        · try simp only [decide_eq_true_eq, decide_eq_false_iff_not, Bool.not_eq_true', Bool.not_eq_false', beq_iff_eq, beq_eq_false_iff_ne, ne_eq] at h4
          refine at_seq rfl ?_
          refine rg rfl ?_
          refine Rq ?_
          have tr : ∀ y0 y1 y2 y3 y4 y5 y6 y8 y12 y30 y32 z0 : AV, trim [(2, z0), (0, y0), (1, y1), (2, y2), (3, y3), (4, y4), (5, y5), (6, y6), (8, y8), (12, y12), (30, y30), (32, y32)] [(0, y0), (1, y1), (2, y2), (3, y3), (4, y4), (5, y5), (6, y6), (8, y8), (12, y12), (30, y30), (32, y32)] = [(0, y0), (1, y1), (2, z0), (3, y3), (4, y4), (5, y5), (6, y6), (8, y8), (12, y12), (30, y30), (32, y32)] := fun y0 y1 y2 y3 y4 y5 y6 y8 y12 y30 y32 z0 => rfl
          refine R_nil (tr _ _ _ _ _ _ _ _ _ _ _ _) ?_; clear tr
          refine then_n ?_
          refine at_ret rfl ?_
          refine then_r ?_
          refine fpure ?_
          rfl
        · try simp only [decide_eq_true_eq, decide_eq_false_iff_not, Bool.not_eq_true', Bool.not_eq_false', beq_iff_eq, beq_eq_false_iff_ne, ne_eq] at h4
          refine at_skip rfl ?_
          refine then_n ?_
          refine at_seq rfl ?_
          refine rg rfl ?_
          obtain ⟨_, hta2, hI2, hC2⟩ := hcase.resolve_right (fun hh => hh.1 (by assumption))
          try subst hta2
          refine R_q rfl (by simp (disch := first | omega | (simp only [List.length_map, List.length_append, List.length_set, List.length_cons, List.length_nil, List.length_take, List.length_drop]; omega)) only [go_sem, ↓reduceIte, Nat.reduceEqDiff, reduceCtorEq, hst]; rfl) ?_
          refine Rcall ?_
          refine ACall_mono (above_ok _ _ t) ?_
          rintro r H8 ⟨rfl, hA2⟩
          have hc2 := repaired (by assumption) hI2 hC2
          obtain ⟨t2, rfl, hI3, hC3⟩ := hA2.2 (check_zero hc2).1
          have e3 : t2 = t := stays hI3 hC2
          refine Rq ?_
          refine Rq ?_
          refine Rq ?_
          refine R_alloc (by simp (disch := first | omega | (simp only [List.length_map, List.length_append, List.length_set, List.length_cons, List.length_nil, List.length_take, List.length_drop]; omega)) only [go_sem, ↓reduceIte, Nat.reduceEqDiff, reduceCtorEq, hst]; rfl) rfl (by simp only [List.map_cons, List.map_nil]; rfl) ?_
          refine R_store ty24 (by simp (disch := first | omega | (simp only [List.length_map, List.length_append, List.length_set, List.length_cons, List.length_nil, List.length_take, List.length_drop]; omega)) only [go_sem, ↓reduceIte, Nat.reduceEqDiff, reduceCtorEq, hst]; rfl) (by simp (disch := first | omega | (simp only [List.length_map, List.length_append, List.length_set, List.length_cons, List.length_nil, List.length_take, List.length_drop]; omega)) only [go_sem, ↓reduceIte, Nat.reduceEqDiff, reduceCtorEq, hst]; rfl) (by simp (disch := first | omega | (simp only [List.length_map, List.length_append, List.length_set, List.length_cons, List.length_nil, List.length_take, List.length_drop]; omega)) only [go_sem, ↓reduceIte, Nat.reduceEqDiff, reduceCtorEq, hst]; rfl) (by simp) (by rfl) (by simp (disch := first | omega | (simp only [List.length_map, List.length_append, List.length_set, List.length_cons, List.length_nil, List.length_take, List.length_drop]; omega)) only [go_sem, ↓reduceIte, Nat.reduceEqDiff, reduceCtorEq, hst]; rfl) ?_
          refine Rq ?_
          have tr : ∀ y0 y1 y2 y3 y4 y5 y6 y8 y12 y30 y32 z0 z1 z2 z3 z4 z5 z6 : AV, trim [(6, z6), (5, z5), (37, z4), (36, z3), (33, z2), (35, z1), (34, z0), (0, y0), (1, y1), (2, y2), (3, y3), (4, y4), (5, y5), (6, y6), (8, y8), (12, y12), (30, y30), (32, y32)] [(0, y0), (1, y1), (2, y2), (3, y3), (4, y4), (5, y5), (6, y6), (8, y8), (12, y12), (30, y30), (32, y32)] = [(0, y0), (1, y1), (2, y2), (3, y3), (4, y4), (5, z5), (6, z6), (8, y8), (12, y12), (30, y30), (32, y32)] := fun y0 y1 y2 y3 y4 y5 y6 y8 y12 y30 y32 z0 z1 z2 z3 z4 z5 z6 => rfl
          refine R_nil (tr _ _ _ _ _ _ _ _ _ _ _ _ _ _ _ _ _ _) ?_; clear tr
          refine then_n ?_
          refine at_seq rfl ?_
          refine rg rfl ?_
          refine Rq ?_
          refine Rq ?_
          refine Rq ?_
          refine Rp_split (fun h5 => ?_) (fun h5 => ?_)
          · try simp only [decide_eq_true_eq, decide_eq_false_iff_not, Bool.not_eq_true', Bool.not_eq_false', beq_iff_eq, beq_eq_false_iff_ne, ne_eq] at h5
            refine Ry ?_
            refine R_q rfl (by simp (disch := first | omega | (simp only [List.length_map, List.length_append, List.length_set, List.length_cons, List.length_nil, List.length_take, List.length_drop]; omega)) only [go_sem, ↓reduceIte, Nat.reduceEqDiff, reduceCtorEq, hst]; rfl) ?_
            refine Ry ?_
            refine R_q rfl (by simp (disch := first | omega | (simp only [List.length_map, List.length_append, List.length_set, List.length_cons, List.length_nil, List.length_take, List.length_drop]; omega)) only [go_sem, ↓reduceIte, Nat.reduceEqDiff, reduceCtorEq, hst]; rfl) ?_
            refine Ry ?_
            refine Rcall ?_
            refine ACall_mono (same_ok _ _ t t2 (same_lens hc2).1 (same_lens hc2).2) ?_
            rintro r H9 ⟨rfl, rfl⟩
            rw [decide_eq_true e3.symm]
            refine Rq ?_
            refine Rq ?_
            have tr : ∀ y0 y1 y2 y3 y4 y5 y6 y8 y12 y30 y32 z0 z1 z2 z3 z4 z5 z6 z7 : AV, trim [(2, z7), (44, z6), (43, z5), (42, z4), (41, z3), (40, z2), (39, z1), (38, z0), (0, y0), (1, y1), (2, y2), (3, y3), (4, y4), (5, y5), (6, y6), (8, y8), (12, y12), (30, y30), (32, y32)] [(0, y0), (1, y1), (2, y2), (3, y3), (4, y4), (5, y5), (6, y6), (8, y8), (12, y12), (30, y30), (32, y32)] = [(0, y0), (1, y1), (2, z7), (3, y3), (4, y4), (5, y5), (6, y6), (8, y8), (12, y12), (30, y30), (32, y32)] := fun y0 y1 y2 y3 y4 y5 y6 y8 y12 y30 y32 z0 z1 z2 z3 z4 z5 z6 z7 => rfl
            refine R_nil (tr _ _ _ _ _ _ _ _ _ _ _ _ _ _ _ _ _ _ _) ?_; clear tr
            refine then_n ?_
            refine at_ret rfl ?_
            refine fpure ?_
            rfl
          · try simp only [decide_eq_true_eq, decide_eq_false_iff_not, Bool.not_eq_true', Bool.not_eq_false', beq_iff_eq, beq_eq_false_iff_ne, ne_eq] at h5
            first | omega | exact absurd trivial (by assumption)
    · try simp only [decide_eq_true_eq, decide_eq_false_iff_not, Bool.not_eq_true', Bool.not_eq_false', beq_iff_eq, beq_eq_false_iff_ne, ne_eq] at h2
      refine Rn ?_
      refine Rn ?_
      refine Rn ?_
      refine Ru ?_
      refine Ru ?_
      refine Ru ?_
      refine Ru ?_
      refine Rn ?_
      refine Rq ?_
      have tr : ∀ y0 y1 y2 y3 y4 y5 y6 y8 y12 y30 y32 z0 z1 z2 z3 z4 z5 z6 z7 z8 z9 z10 z11 z12 : AV, trim [(30, z12), (29, z11), (28, z10), (27, z9), (26, z8), (25, z7), (24, z6), (23, z5), (22, z4), (21, z3), (20, z2), (19, z1), (18, z0), (0, y0), (1, y1), (2, y2), (3, y3), (4, y4), (5, y5), (6, y6), (8, y8), (12, y12), (30, y30), (32, y32)] [(0, y0), (1, y1), (2, y2), (3, y3), (4, y4), (5, y5), (6, y6), (8, y8), (12, y12), (30, y30), (32, y32)] = [(0, y0), (1, y1), (2, y2), (3, y3), (4, y4), (5, y5), (6, y6), (8, y8), (12, y12), (30, z12), (32, y32)] := fun y0 y1 y2 y3 y4 y5 y6 y8 y12 y30 y32 z0 z1 z2 z3 z4 z5 z6 z7 z8 z9 z10 z11 z12 => rfl
      refine R_nil (tr _ _ _ _ _ _ _ _ _ _ _ _ _ _ _ _ _ _ _ _ _ _ _ _) ?_; clear tr
      refine then_n ?_
      refine cdf ?_
      refine at_skip rfl ?_
      refine then_n ?_
      refine at_seq rfl ?_
      refine at_seq rfl ?_
      refine rg rfl ?_
      refine Rq ?_
      refine Rq ?_
      have tr : ∀ y0 y1 y2 y3 y4 y5 y6 y8 y12 y30 y32 z0 z1 : AV, trim [(32, z1), (31, z0), (0, y0), (1, y1), (2, y2), (3, y3), (4, y4), (5, y5), (6, y6), (8, y8), (12, y12), (30, y30), (32, y32)] [(0, y0), (1, y1), (2, y2), (3, y3), (4, y4), (5, y5), (6, y6), (8, y8), (12, y12), (30, y30), (32, y32)] = [(0, y0), (1, y1), (2, y2), (3, y3), (4, y4), (5, y5), (6, y6), (8, y8), (12, y12), (30, y30), (32, z1)] := fun y0 y1 y2 y3 y4 y5 y6 y8 y12 y30 y32 z0 z1 => rfl
      refine R_nil (tr _ _ _ _ _ _ _ _ _ _ _ _ _) ?_; clear tr
      refine then_n ?_
      refine cdd (fun h6 => ?_) (fun h6 => ?_)
      · try simp only [decide_eq_true_eq, decide_eq_false_iff_not, Bool.not_eq_true', Bool.not_eq_false', beq_iff_eq, beq_eq_false_iff_ne, ne_eq] at h6
        refine at_seq rfl ?_
        refine rg rfl ?_
        refine Rq ?_
        have tr : ∀ y0 y1 y2 y3 y4 y5 y6 y8 y12 y30 y32 z0 : AV, trim [(2, z0), (0, y0), (1, y1), (2, y2), (3, y3), (4, y4), (5, y5), (6, y6), (8, y8), (12, y12), (30, y30), (32, y32)] [(0, y0), (1, y1), (2, y2), (3, y3), (4, y4), (5, y5), (6, y6), (8, y8), (12, y12), (30, y30), (32, y32)] = [(0, y0), (1, y1), (2, z0), (3, y3), (4, y4), (5, y5), (6, y6), (8, y8), (12, y12), (30, y30), (32, y32)] := fun y0 y1 y2 y3 y4 y5 y6 y8 y12 y30 y32 z0 => rfl
        refine R_nil (tr _ _ _ _ _ _ _ _ _ _ _ _) ?_; clear tr
        refine then_n ?_
        refine at_ret rfl ?_
        refine then_r ?_
        refine fpure ?_
        rfl
      · try simp only [decide_eq_true_eq, decide_eq_false_iff_not, Bool.not_eq_true', Bool.not_eq_false', beq_iff_eq, beq_eq_false_iff_ne, ne_eq] at h6
        refine at_skip rfl ?_
        refine then_n ?_
        refine at_seq rfl ?_
        refine rg rfl ?_
        obtain ⟨_, hta2, hI2, hC2⟩ := hcase.resolve_right (fun hh => hh.1 (by assumption))
        try subst hta2
        refine R_q rfl (by simp (disch := first | omega | (simp only [List.length_map, List.length_append, List.length_set, List.length_cons, List.length_nil, List.length_take, List.length_drop]; omega)) only [go_sem, ↓reduceIte, Nat.reduceEqDiff, reduceCtorEq, hst]; rfl) ?_
        refine Rcall ?_
        refine ACall_mono (above_ok _ _ t) ?_
        rintro r H8 ⟨rfl, hA2⟩
        have hc2 := repaired (by assumption) hI2 hC2
        obtain ⟨t2, rfl, hI3, hC3⟩ := hA2.2 (check_zero hc2).1
        have e3 : t2 = t := stays hI3 hC2
        refine Rq ?_
        refine Rq ?_
        refine Rq ?_
        refine R_alloc (by simp (disch := first | omega | (simp only [List.length_map, List.length_append, List.length_set, List.length_cons, List.length_nil, List.length_take, List.length_drop]; omega)) only [go_sem, ↓reduceIte, Nat.reduceEqDiff, reduceCtorEq, hst]; rfl) rfl (by simp only [List.map_cons, List.map_nil]; rfl) ?_
        refine R_store ty24 (by simp (disch := first | omega | (simp only [List.length_map, List.length_append, List.length_set, List.length_cons, List.length_nil, List.length_take, List.length_drop]; omega)) only [go_sem, ↓reduceIte, Nat.reduceEqDiff, reduceCtorEq, hst]; rfl) (by simp (disch := first | omega | (simp only [List.length_map, List.length_append, List.length_set, List.length_cons, List.length_nil, List.length_take, List.length_drop]; omega)) only [go_sem, ↓reduceIte, Nat.reduceEqDiff, reduceCtorEq, hst]; rfl) (by simp (disch := first | omega | (simp only [List.length_map, List.length_append, List.length_set, List.length_cons, List.length_nil, List.length_take, List.length_drop]; omega)) only [go_sem, ↓reduceIte, Nat.reduceEqDiff, reduceCtorEq, hst]; rfl) (by simp) (by rfl) (by simp (disch := first | omega | (simp only [List.length_map, List.length_append, List.length_set, List.length_cons, List.length_nil, List.length_take, List.length_drop]; omega)) only [go_sem, ↓reduceIte, Nat.reduceEqDiff, reduceCtorEq, hst]; rfl) ?_
        refine Rq ?_
        have tr : ∀ y0 y1 y2 y3 y4 y5 y6 y8 y12 y30 y32 z0 z1 z2 z3 z4 z5 z6 : AV, trim [(6, z6), (5, z5), (37, z4), (36, z3), (33, z2), (35, z1), (34, z0), (0, y0), (1, y1), (2, y2), (3, y3), (4, y4), (5, y5), (6, y6), (8, y8), (12, y12), (30, y30), (32, y32)] [(0, y0), (1, y1), (2, y2), (3, y3), (4, y4), (5, y5), (6, y6), (8, y8), (12, y12), (30, y30), (32, y32)] = [(0, y0), (1, y1), (2, y2), (3, y3), (4, y4), (5, z5), (6, z6), (8, y8), (12, y12), (30, y30), (32, y32)] := fun y0 y1 y2 y3 y4 y5 y6 y8 y12 y30 y32 z0 z1 z2 z3 z4 z5 z6 => rfl
        refine R_nil (tr _ _ _ _ _ _ _ _ _ _ _ _ _ _ _ _ _ _) ?_; clear tr
        refine then_n ?_
        refine at_seq rfl ?_
        refine rg rfl ?_
        refine Rq ?_
        refine Rq ?_
        refine Rq ?_
        refine Rp_split (fun h7 => ?_) (fun h7 => ?_)
        · try simp only [decide_eq_true_eq, decide_eq_false_iff_not, Bool.not_eq_true', Bool.not_eq_false', beq_iff_eq, beq_eq_false_iff_ne, ne_eq] at h7
          refine Ry ?_
          refine R_q rfl (by simp (disch := first | omega | (simp only [List.length_map, List.length_append, List.length_set, List.length_cons, List.length_nil, List.length_take, List.length_drop]; omega)) only [go_sem, ↓reduceIte, Nat.reduceEqDiff, reduceCtorEq, hst]; rfl) ?_
          refine Ry ?_
          refine R_q rfl (by simp (disch := first | omega | (simp only [List.length_map, List.length_append, List.length_set, List.length_cons, List.length_nil, List.length_take, List.length_drop]; omega)) only [go_sem, ↓reduceIte, Nat.reduceEqDiff, reduceCtorEq, hst]; rfl) ?_
          refine Ry ?_
          refine Rcall ?_
          refine ACall_mono (same_ok _ _ t t2 (same_lens hc2).1 (same_lens hc2).2) ?_
          rintro r H9 ⟨rfl, rfl⟩
          rw [decide_eq_true e3.symm]
          refine Rq ?_
          refine Rq ?_
          have tr : ∀ y0 y1 y2 y3 y4 y5 y6 y8 y12 y30 y32 z0 z1 z2 z3 z4 z5 z6 z7 : AV, trim [(2, z7), (44, z6), (43, z5), (42, z4), (41, z3), (40, z2), (39, z1), (38, z0), (0, y0), (1, y1), (2, y2), (3, y3), (4, y4), (5, y5), (6, y6), (8, y8), (12, y12), (30, y30), (32, y32)] [(0, y0), (1, y1), (2, y2), (3, y3), (4, y4), (5, y5), (6, y6), (8, y8), (12, y12), (30, y30), (32, y32)] = [(0, y0), (1, y1), (2, z7), (3, y3), (4, y4), (5, y5), (6, y6), (8, y8), (12, y12), (30, y30), (32, y32)] := fun y0 y1 y2 y3 y4 y5 y6 y8 y12 y30 y32 z0 z1 z2 z3 z4 z5 z6 z7 => rfl
          refine R_nil (tr _ _ _ _ _ _ _ _ _ _ _ _ _ _ _ _ _ _ _) ?_; clear tr
          refine then_n ?_
          refine at_ret rfl ?_
          refine fpure ?_
          rfl
        · try simp only [decide_eq_true_eq, decide_eq_false_iff_not, Bool.not_eq_true', Bool.not_eq_false', beq_iff_eq, beq_eq_false_iff_ne, ne_eq] at h7
          first | omega | exact absurd trivial (by assumption)

end Go.Proofs.Ytdkhgpdojjdadaa
