/-
  Walks of chapter 38. The steps are written by program (walk.py).
-/
import Derived.Test.YtdkhgpdojjdadaaWO
import Derived.Test.YtdkhgpdojjdadaaWN
import Derived.KernelRfl
set_option linter.unusedSimpArgs false
set_option linter.unusedVariables false
set_option maxHeartbeats 40000000
set_option maxRecDepth 4000
namespace Go.Proofs.Ytdkhgpdojjdadaa
open Go Go.Am

theorem least_case {a b : Tb} {r : AV} (h : (lmS a b ≠ 0 ∧ r = .tup [.agg [.v (.slice none 0 0)], AV.i (lmS a b)]) ∨ (lmS a b = 0 ∧ ∃ t, r = .tup [.agg [rowsAV t], AV.i 0] ∧ MinT a b t)) :
    ∃ t ta, r = .tup [.agg [ta], AV.i (lmS a b)] ∧ storable ta = true ∧ ((lmS a b = 0 ∧ ta = rowsAV t ∧ MinT a b t) ∨ (lmS a b ≠ 0 ∧ ta = .v (.slice none 0 0))) := by
  rcases h with ⟨h1, h2⟩ | ⟨h1, t, h2, h3⟩
  · exact ⟨[], _, h2, rfl, .inr ⟨h1, rfl⟩⟩
  · exact ⟨t, rowsAV t, by rw [h2, h1], rfl, .inl ⟨h1, rfl, h3⟩⟩
theorem lm_zero {a b : Tb} (h : lmS a b = 0) : Alike a b := by
  unfold lmS at h
  split at h
  · rename_i h1; exact absurd h h1
  · split at h
    · rename_i h1; exact absurd h h1
    · split at h
      · cases h
      · rename_i h1; exact Classical.not_not.mp h1
theorem lm_01 {a b : Tb} (ha : shapeS a = 0) (hb : shapeS b = 0) : lmS a b = 0 ∨ lmS a b = 1 := by
  rw [lmS, if_neg (fun h => h ha), if_neg (fun h => h hb)]
  split
  · exact .inr rfl
  · exact .inl rfl
theorem MinT.le {a b t : Tb} (h : MinT a b t) : LeT t a := fun u hu w hw => by
  rw [h.cell u (by rw [h.same.len]; exact hu) w (by rw [h.same.row u (by rw [h.same.len]; exact hu)]; exact hw)]; exact Int.min_le_left _ _
theorem MinT.le2 {a b t : Tb} (h : MinT a b t) : LeT t b := fun u hu w hw => by
  rw [h.cell u (by rw [h.same.len]; exact hu) w (by rw [h.same.row u (by rw [h.same.len]; exact hu)]; exact hw)]; exact Int.min_le_right _ _
theorem min_check {a b t : Tb} (ha : checkS a = 0) (hb : checkS b = 0) (al : Alike a b) (h : MinT a b t) : checkS t = 0 := by
  have sab := same_of_alike al
  have stb := h.same.symm.trans sab
  have ra := raw_zero (check_zero ha).1
  have rb := raw_zero (check_zero hb).1
  have s := shaped_of ra.1
  have sb := shaped_of rb.1
  have ea := ends_zero ra.2
  have eb := ends_zero rb.2
  have hr : Rect a (gt a 0).length := s.len
  have ht := h.same.rect hr
  have hl := h.same.len
  have hl2 := sab.len
  have s2 := s.two
  have s1 := s.one
  have e0 : (gt t 0).length = (gt a 0).length := ht 0 (by omega)
  have b0 : (gt b 0).length = (gt a 0).length := (sab.rect hr) 0 (by omega)
  have cl : Closed t := fun u hu w hw => by
    have hw' : w < (gt a 0).length := by rw [ht u hu] at hw; exact hw
    have hc := h.cell u (by omega) w (by rw [hr u (by omega)]; exact hw')
    have h1 := wanted_mono ht h.same.symm h.le hu hw'
    have h2 := wanted_mono ht stb h.le2 hu hw'
    have h3 := check_closed ha u (by omega) w (by rw [hr u (by omega)]; exact hw')
    have h4 := check_closed hb u (by omega) w (by rw [(sab.rect hr) u (by omega)]; exact hw')
    omega
  have rng : InRange t := fun u hu w hw => by
    have hw' : w < (gt a 0).length := by rw [ht u hu] at hw; exact hw
    have hc := h.cell u (by omega) w (by rw [hr u (by omega)]; exact hw')
    have h3 : 0 ≤ gt (gt a u) w ∧ gt (gt a u) w ≤ 10000 := s.rng u (by omega) w (by rw [hr u (by omega)]; exact hw')
    have h4 : 0 ≤ gt (gt b u) w ∧ gt (gt b u) w ≤ 10000 := sb.rng u (by omega) w (by rw [(sab.rect hr) u (by omega)]; exact hw')
    exact ⟨by omega, by omega⟩
  have z : Zero0 t := fun w hw => by
    have hc := h.cell 0 (by omega) w (by omega)
    have := ea.1 w (by omega)
    have := eb.1 w (by omega)
    omega
  have f : gt (gt t (t.length - 1)) 0 = 10000 := by
    have hc := h.cell (a.length - 1) (by omega) 0 (by rw [hr _ (by omega)]; exact s1)
    have h1 := ea.2
    have h2 := eb.2
    rw [← hl2] at h2
    rw [← hl]
    omega
  have d := of_closed ht cl
  exact check_of (raw_of ⟨by omega, by have := s.most; omega, by omega, by have := s.ten; omega, fun u hu => by rw [ht u hu, e0], rng⟩ z f) d.1 d.2
theorem min_covers {a b t : Tb} (ha : shapeS a = 0) (ht : shapeS t = 0) (h : MinT a b t) : CoversP a t :=
  ⟨alike_of ha ht h.same, fun u hu w hw => by rw [h.cell u hu w hw]; exact Int.min_le_left _ _⟩
theorem min_covers2 {a b t : Tb} (al : Alike a b) (ht : shapeS t = 0) (h : MinT a b t) : CoversP b t := by
  have s := same_of_alike al
  exact ⟨alike_of al.2.1 ht (s.symm.trans h.same), fun u hu w hw => by rw [h.cell u (by rw [s.len]; exact hu) w (by rw [s.row u (by rw [s.len]; exact hu)]; exact hw)]; exact Int.min_le_right _ _⟩
theorem order_covers {a b c t1 t2 : Tb} (h : MinT a b c) (ra : rawS a = 0) (rc : rawS c = 0) (i1 : Inv a t1) (c1 : Closed t1) (i2 : Inv c t2) (c2 : Closed t2) : CoversP t1 t2 := by
  have s12 : Same2 t1 t2 := i1.same.symm.trans (h.same.trans i2.same)
  have sc1 : Same2 c t1 := h.same.symm.trans i1.same
  have hl := i2.least t1 sc1 c1 fun u hu w hw => Int.le_trans (h.le u hu w hw) (i1.le u (by rw [h.same.len]; exact hu) w (by rw [h.same.row u (by rw [h.same.len]; exact hu)]; exact hw))
  exact ⟨alike_of (check_shape (repaired ra i1 c1)) (check_shape (repaired rc i2 c2)) s12, fun u hu w hw => hl u (by rw [← s12.len]; exact hu) w (by rw [← s12.row u hu]; exact hw)⟩

theorem meets_ok (a b : Tb) : ACall sig 0 9 [.agg [rowsAV a], .agg [rowsAV b]] [] fun r _ => r = .v (.bool true) := by
  have hst : True := trivial
  refine ACall_pure (fa := fa9) rfl rfl rfl rfl ?_
  have tr : ∀ a0 a1 : AV, env0 fa9.keep [a0, a1] = [(0, a0), (1, a1), (2, .any), (3, .any), (4, .any), (5, .any), (6, .any), (8, .any), (23, .any)] := fun a0 a1 => rfl
  refine W_to (tr _ _) ?_; clear tr
  refine at_seq rfl ?_
  refine rg rfl ?_
  refine R_box rfl (by simp (disch := first | omega | (simp only [List.length_map, List.length_append, List.length_set, List.length_cons, List.length_nil, List.length_take, List.length_drop]; omega)) only [go_sem, ↓reduceIte, Nat.reduceEqDiff, reduceCtorEq, hst]; rfl) rfl rfl ?_
  refine R_box rfl (by simp (disch := first | omega | (simp only [List.length_map, List.length_append, List.length_set, List.length_cons, List.length_nil, List.length_take, List.length_drop]; omega)) only [go_sem, ↓reduceIte, Nat.reduceEqDiff, reduceCtorEq, hst]; rfl) rfl rfl ?_
  refine Rq ?_
  have tr : ∀ y0 y1 y2 y3 y4 y5 y6 y8 y23 z0 z1 z2 : AV, trim [(4, z2), (3, z1), (2, z0), (0, y0), (1, y1), (2, y2), (3, y3), (4, y4), (5, y5), (6, y6), (8, y8), (23, y23)] [(0, y0), (1, y1), (2, y2), (3, y3), (4, y4), (5, y5), (6, y6), (8, y8), (23, y23)] = [(0, y0), (1, y1), (2, z0), (3, z1), (4, z2), (5, y5), (6, y6), (8, y8), (23, y23)] := fun y0 y1 y2 y3 y4 y5 y6 y8 y23 z0 z1 z2 => rfl
  refine R_nil (tr _ _ _ _ _ _ _ _ _ _ _ _) ?_; clear tr
  refine then_n ?_
  refine at_seq rfl ?_
  refine at_seq rfl ?_
  refine rg rfl ?_
  refine Rcall ?_
  refine ACall_eval 300 (awake_2 _ _ _) ?_
  refine Rq ?_
  have tr : ∀ y0 y1 y2 y3 y4 y5 y6 y8 y23 z0 z1 : AV, trim [(8, z1), (7, z0), (0, y0), (1, y1), (2, y2), (3, y3), (4, y4), (5, y5), (6, y6), (8, y8), (23, y23)] [(0, y0), (1, y1), (2, y2), (3, y3), (4, y4), (5, y5), (6, y6), (8, y8), (23, y23)] = [(0, y0), (1, y1), (2, y2), (3, y3), (4, y4), (5, y5), (6, y6), (8, z1), (23, y23)] := fun y0 y1 y2 y3 y4 y5 y6 y8 y23 z0 z1 => rfl
  refine R_nil (tr _ _ _ _ _ _ _ _ _ _ _) ?_; clear tr
  refine then_n ?_
  refine cdf ?_
  refine at_skip rfl ?_
  refine then_n ?_
  refine at_seq rfl ?_
  refine at_seq rfl ?_
  refine rg rfl ?_
  refine R_q rfl (by simp (disch := first | omega | (simp only [List.length_map, List.length_append, List.length_set, List.length_cons, List.length_nil, List.length_take, List.length_drop]; omega)) only [go_sem, ↓reduceIte, Nat.reduceEqDiff, reduceCtorEq, hst]; rfl) ?_
  refine R_q rfl (by simp (disch := first | omega | (simp only [List.length_map, List.length_append, List.length_set, List.length_cons, List.length_nil, List.length_take, List.length_drop]; omega)) only [go_sem, ↓reduceIte, Nat.reduceEqDiff, reduceCtorEq, hst]; rfl) ?_
  refine R_buildSlice (bs38_2 _ _ _ _ _ _ _ rfl rfl (by simp only [go_sem, ↓reduceIte, Nat.reduceEqDiff]; rfl) (by simp only [go_sem, ↓reduceIte, Nat.reduceEqDiff]; rfl)) ?_
  refine Rcall ?_
  refine ACall_eq (small_ok _ _ _ [a, b] (by simp only [go_sem]; rfl) (by simp)) ?_
  refine Rq ?_
  refine Rq ?_
  refine Rp_split (fun h1 => ?_) (fun h1 => ?_)
  · try simp only [decide_eq_true_eq, decide_eq_false_iff_not, Bool.not_eq_true', Bool.not_eq_false', beq_iff_eq, beq_eq_false_iff_ne, ne_eq] at h1
    refine Rn ?_
    refine Rn ?_
    refine Rn ?_
    refine Rq ?_
    refine Rq ?_
    refine Rn ?_
    refine Rn ?_
    refine Rn ?_
    refine Rq ?_
    have tr : ∀ y0 y1 y2 y3 y4 y5 y6 y8 y23 z0 z1 z2 z3 z4 z5 z6 z7 z8 z9 z10 z11 z12 z13 z14 : AV, trim [(23, z14), (22, z13), (21, z12), (20, z11), (19, z10), (18, z9), (17, z8), (16, z7), (15, z6), (14, z5), (13, z4), (12, z3), (11, z2), (10, z1), (9, z0), (0, y0), (1, y1), (2, y2), (3, y3), (4, y4), (5, y5), (6, y6), (8, y8), (23, y23)] [(0, y0), (1, y1), (2, y2), (3, y3), (4, y4), (5, y5), (6, y6), (8, y8), (23, y23)] = [(0, y0), (1, y1), (2, y2), (3, y3), (4, y4), (5, y5), (6, y6), (8, y8), (23, z14)] := fun y0 y1 y2 y3 y4 y5 y6 y8 y23 z0 z1 z2 z3 z4 z5 z6 z7 z8 z9 z10 z11 z12 z13 z14 => rfl
    refine R_nil (tr _ _ _ _ _ _ _ _ _ _ _ _ _ _ _ _ _ _ _ _ _ _ _ _) ?_; clear tr
    refine then_n ?_
    refine cdt ?_
    refine at_seq rfl ?_
    refine rg rfl ?_
    refine Rq ?_
    have tr : ∀ y0 y1 y2 y3 y4 y5 y6 y8 y23 z0 : AV, trim [(4, z0), (0, y0), (1, y1), (2, y2), (3, y3), (4, y4), (5, y5), (6, y6), (8, y8), (23, y23)] [(0, y0), (1, y1), (2, y2), (3, y3), (4, y4), (5, y5), (6, y6), (8, y8), (23, y23)] = [(0, y0), (1, y1), (2, y2), (3, y3), (4, z0), (5, y5), (6, y6), (8, y8), (23, y23)] := fun y0 y1 y2 y3 y4 y5 y6 y8 y23 z0 => rfl
    refine R_nil (tr _ _ _ _ _ _ _ _ _ _) ?_; clear tr
    refine then_n ?_
    refine at_ret rfl ?_
    refine then_r ?_
    refine fpure ?_
    rfl
  · try simp only [decide_eq_true_eq, decide_eq_false_iff_not, Bool.not_eq_true', Bool.not_eq_false', beq_iff_eq, beq_eq_false_iff_ne, ne_eq] at h1
    refine Ry ?_
    refine R_q rfl (by simp (disch := first | omega | (simp only [List.length_map, List.length_append, List.length_set, List.length_cons, List.length_nil, List.length_take, List.length_drop]; omega)) only [go_sem, ↓reduceIte, Nat.reduceEqDiff, reduceCtorEq, hst]; rfl) ?_
    refine Ry ?_
    refine Rcall ?_
    refine ACall_eq (check_ok _ _ _) ?_
    refine Ry ?_
    refine Rq ?_
    refine Rq ?_
    refine Rq ?_
    refine Rp_split (fun h2 => ?_) (fun h2 => ?_)
    · try simp only [decide_eq_true_eq, decide_eq_false_iff_not, Bool.not_eq_true', Bool.not_eq_false', beq_iff_eq, beq_eq_false_iff_ne, ne_eq] at h2
      refine Rn ?_
      refine Rn ?_
      refine Rn ?_
      refine Rq ?_
      have tr : ∀ y0 y1 y2 y3 y4 y5 y6 y8 y23 z0 z1 z2 z3 z4 z5 z6 z7 z8 z9 z10 z11 z12 z13 z14 : AV, trim [(23, z14), (22, z13), (21, z12), (20, z11), (19, z10), (18, z9), (17, z8), (16, z7), (15, z6), (14, z5), (13, z4), (12, z3), (11, z2), (10, z1), (9, z0), (0, y0), (1, y1), (2, y2), (3, y3), (4, y4), (5, y5), (6, y6), (8, y8), (23, y23)] [(0, y0), (1, y1), (2, y2), (3, y3), (4, y4), (5, y5), (6, y6), (8, y8), (23, y23)] = [(0, y0), (1, y1), (2, y2), (3, y3), (4, y4), (5, y5), (6, y6), (8, y8), (23, z14)] := fun y0 y1 y2 y3 y4 y5 y6 y8 y23 z0 z1 z2 z3 z4 z5 z6 z7 z8 z9 z10 z11 z12 z13 z14 => rfl
      refine R_nil (tr _ _ _ _ _ _ _ _ _ _ _ _ _ _ _ _ _ _ _ _ _ _ _ _) ?_; clear tr
      refine then_n ?_
      refine cdt ?_
      refine at_seq rfl ?_
      refine rg rfl ?_
      refine Rq ?_
      have tr : ∀ y0 y1 y2 y3 y4 y5 y6 y8 y23 z0 : AV, trim [(4, z0), (0, y0), (1, y1), (2, y2), (3, y3), (4, y4), (5, y5), (6, y6), (8, y8), (23, y23)] [(0, y0), (1, y1), (2, y2), (3, y3), (4, y4), (5, y5), (6, y6), (8, y8), (23, y23)] = [(0, y0), (1, y1), (2, y2), (3, y3), (4, z0), (5, y5), (6, y6), (8, y8), (23, y23)] := fun y0 y1 y2 y3 y4 y5 y6 y8 y23 z0 => rfl
      refine R_nil (tr _ _ _ _ _ _ _ _ _ _) ?_; clear tr
      refine then_n ?_
      refine at_ret rfl ?_
      refine then_r ?_
      refine fpure ?_
      rfl
    · try simp only [decide_eq_true_eq, decide_eq_false_iff_not, Bool.not_eq_true', Bool.not_eq_false', beq_iff_eq, beq_eq_false_iff_ne, ne_eq] at h2
      refine Ry ?_
      refine R_q rfl (by simp (disch := first | omega | (simp only [List.length_map, List.length_append, List.length_set, List.length_cons, List.length_nil, List.length_take, List.length_drop]; omega)) only [go_sem, ↓reduceIte, Nat.reduceEqDiff, reduceCtorEq, hst]; rfl) ?_
      refine Ry ?_
      refine Rcall ?_
      refine ACall_eq (check_ok _ _ _) ?_
      refine Ry ?_
      refine Rq ?_
      refine Rq ?_
      have tr : ∀ y0 y1 y2 y3 y4 y5 y6 y8 y23 z0 z1 z2 z3 z4 z5 z6 z7 z8 z9 z10 z11 z12 z13 z14 : AV, trim [(23, z14), (22, z13), (21, z12), (20, z11), (19, z10), (18, z9), (17, z8), (16, z7), (15, z6), (14, z5), (13, z4), (12, z3), (11, z2), (10, z1), (9, z0), (0, y0), (1, y1), (2, y2), (3, y3), (4, y4), (5, y5), (6, y6), (8, y8), (23, y23)] [(0, y0), (1, y1), (2, y2), (3, y3), (4, y4), (5, y5), (6, y6), (8, y8), (23, y23)] = [(0, y0), (1, y1), (2, y2), (3, y3), (4, y4), (5, y5), (6, y6), (8, y8), (23, z14)] := fun y0 y1 y2 y3 y4 y5 y6 y8 y23 z0 z1 z2 z3 z4 z5 z6 z7 z8 z9 z10 z11 z12 z13 z14 => rfl
      refine R_nil (tr _ _ _ _ _ _ _ _ _ _ _ _ _ _ _ _ _ _ _ _ _ _ _ _) ?_; clear tr
      refine then_n ?_
      refine cdd (fun h3 => ?_) (fun h3 => ?_)
      · try simp only [decide_eq_true_eq, decide_eq_false_iff_not, Bool.not_eq_true', Bool.not_eq_false', beq_iff_eq, beq_eq_false_iff_ne, ne_eq] at h3
        refine at_seq rfl ?_
        refine rg rfl ?_
        refine Rq ?_
        have tr : ∀ y0 y1 y2 y3 y4 y5 y6 y8 y23 z0 : AV, trim [(4, z0), (0, y0), (1, y1), (2, y2), (3, y3), (4, y4), (5, y5), (6, y6), (8, y8), (23, y23)] [(0, y0), (1, y1), (2, y2), (3, y3), (4, y4), (5, y5), (6, y6), (8, y8), (23, y23)] = [(0, y0), (1, y1), (2, y2), (3, y3), (4, z0), (5, y5), (6, y6), (8, y8), (23, y23)] := fun y0 y1 y2 y3 y4 y5 y6 y8 y23 z0 => rfl
        refine R_nil (tr _ _ _ _ _ _ _ _ _ _) ?_; clear tr
        refine then_n ?_
        refine at_ret rfl ?_
        refine then_r ?_
        refine fpure ?_
        rfl
      · try simp only [decide_eq_true_eq, decide_eq_false_iff_not, Bool.not_eq_true', Bool.not_eq_false', beq_iff_eq, beq_eq_false_iff_ne, ne_eq] at h3
        refine at_skip rfl ?_
        refine then_n ?_
        refine at_seq rfl ?_
        refine rg rfl ?_
        refine R_q rfl (by simp (disch := first | omega | (simp only [List.length_map, List.length_append, List.length_set, List.length_cons, List.length_nil, List.length_take, List.length_drop]; omega)) only [go_sem, ↓reduceIte, Nat.reduceEqDiff, reduceCtorEq, hst]; rfl) ?_
        refine R_q rfl (by simp (disch := first | omega | (simp only [List.length_map, List.length_append, List.length_set, List.length_cons, List.length_nil, List.length_take, List.length_drop]; omega)) only [go_sem, ↓reduceIte, Nat.reduceEqDiff, reduceCtorEq, hst]; rfl) ?_
        refine Rcall ?_
        refine ACall_mono (leastw_ok _ _ a b) ?_
        rintro r H6 ⟨rfl, hA⟩
        obtain ⟨t, ta, rfl, hst, hcase⟩ := least_case hA
        refine Rq ?_
        refine Rq ?_
        refine Rq ?_
        refine R_alloc (by simp (disch := first | omega | (simp only [List.length_map, List.length_append, List.length_set, List.length_cons, List.length_nil, List.length_take, List.length_drop]; omega)) only [go_sem, ↓reduceIte, Nat.reduceEqDiff, reduceCtorEq, hst]; rfl) rfl (by simp only [List.map_cons, List.map_nil]; rfl) ?_
        refine R_store ty24 (by simp (disch := first | omega | (simp only [List.length_map, List.length_append, List.length_set, List.length_cons, List.length_nil, List.length_take, List.length_drop]; omega)) only [go_sem, ↓reduceIte, Nat.reduceEqDiff, reduceCtorEq, hst]; rfl) (by simp (disch := first | omega | (simp only [List.length_map, List.length_append, List.length_set, List.length_cons, List.length_nil, List.length_take, List.length_drop]; omega)) only [go_sem, ↓reduceIte, Nat.reduceEqDiff, reduceCtorEq, hst]; rfl) (by simp (disch := first | omega | (simp only [List.length_map, List.length_append, List.length_set, List.length_cons, List.length_nil, List.length_take, List.length_drop]; omega)) only [go_sem, ↓reduceIte, Nat.reduceEqDiff, reduceCtorEq, hst]; rfl) (by simp) (by rfl) (by simp (disch := first | omega | (simp only [List.length_map, List.length_append, List.length_set, List.length_cons, List.length_nil, List.length_take, List.length_drop]; omega)) only [go_sem, ↓reduceIte, Nat.reduceEqDiff, reduceCtorEq, hst]; rfl) ?_
        refine Rq ?_
        have tr : ∀ y0 y1 y2 y3 y4 y5 y6 y8 y23 z0 z1 z2 z3 z4 z5 z6 z7 : AV, trim [(6, z7), (5, z6), (29, z5), (28, z4), (24, z3), (27, z2), (26, z1), (25, z0), (0, y0), (1, y1), (2, y2), (3, y3), (4, y4), (5, y5), (6, y6), (8, y8), (23, y23)] [(0, y0), (1, y1), (2, y2), (3, y3), (4, y4), (5, y5), (6, y6), (8, y8), (23, y23)] = [(0, y0), (1, y1), (2, y2), (3, y3), (4, y4), (5, z6), (6, z7), (8, y8), (23, y23)] := fun y0 y1 y2 y3 y4 y5 y6 y8 y23 z0 z1 z2 z3 z4 z5 z6 z7 => rfl
        refine R_nil (tr _ _ _ _ _ _ _ _ _ _ _ _ _ _ _ _ _) ?_; clear tr
        refine then_n ?_
        refine at_seq rfl ?_
        refine rg rfl ?_
        have hka : checkS a = 0 := by assumption
        have hkb : checkS b = 0 := by assumption
        have hlm := lm_01 (check_shape hka) (check_shape hkb)
        refine Rq ?_
        refine Rq ?_
        refine Rq ?_
        refine Rp_split (fun h4 => ?_) (fun h4 => ?_)
        · try simp only [decide_eq_true_eq, decide_eq_false_iff_not, Bool.not_eq_true', Bool.not_eq_false', beq_iff_eq, beq_eq_false_iff_ne, ne_eq] at h4
          obtain ⟨_, hta⟩ := hcase.resolve_left (fun hh => by have := hh.1; omega)
          subst hta
          refine Ry ?_
          refine Rq ?_
          refine Ry ?_
          refine R_q rfl (by simp (disch := first | omega | (simp only [List.length_map, List.length_append, List.length_set, List.length_cons, List.length_nil, List.length_take, List.length_drop]; omega)) only [go_sem, ↓reduceIte, Nat.reduceEqDiff, reduceCtorEq, hst]; rfl) ?_
          refine Ry ?_
          refine Rq ?_
          refine Ry ?_
          refine Rq ?_
          refine Rq ?_
          refine Rq ?_
          refine Rp_split (fun h5 => ?_) (fun h5 => ?_)
          · try simp only [decide_eq_true_eq, decide_eq_false_iff_not, Bool.not_eq_true', Bool.not_eq_false', beq_iff_eq, beq_eq_false_iff_ne, ne_eq] at h5
            refine Rn ?_
            refine Rn ?_
            refine Rn ?_
            refine Ru ?_
            refine Ru ?_
            refine Ru ?_
            refine Rn ?_
            refine Rn ?_
            refine Ru ?_
            refine Ru ?_
            refine Ru ?_
            refine Rn ?_
            refine Rn ?_
            refine Ru ?_
            refine Ru ?_
            refine Ru ?_
            refine Rn ?_
            refine Rq ?_
            refine Rq ?_
            have tr : ∀ y0 y1 y2 y3 y4 y5 y6 y8 y23 z0 z1 z2 z3 z4 z5 z6 z7 z8 z9 z10 z11 z12 z13 z14 z15 z16 z17 z18 z19 z20 z21 z22 z23 z24 z25 z26 z27 : AV, trim [(4, z27), (56, z26), (55, z25), (54, z24), (53, z23), (52, z22), (51, z21), (50, z20), (49, z19), (48, z18), (47, z17), (46, z16), (45, z15), (44, z14), (43, z13), (42, z12), (41, z11), (40, z10), (39, z9), (38, z8), (37, z7), (36, z6), (35, z5), (34, z4), (33, z3), (32, z2), (31, z1), (30, z0), (0, y0), (1, y1), (2, y2), (3, y3), (4, y4), (5, y5), (6, y6), (8, y8), (23, y23)] [(0, y0), (1, y1), (2, y2), (3, y3), (4, y4), (5, y5), (6, y6), (8, y8), (23, y23)] = [(0, y0), (1, y1), (2, y2), (3, y3), (4, z27), (5, y5), (6, y6), (8, y8), (23, y23)] := fun y0 y1 y2 y3 y4 y5 y6 y8 y23 z0 z1 z2 z3 z4 z5 z6 z7 z8 z9 z10 z11 z12 z13 z14 z15 z16 z17 z18 z19 z20 z21 z22 z23 z24 z25 z26 z27 => rfl
            refine R_nil (tr _ _ _ _ _ _ _ _ _ _ _ _ _ _ _ _ _ _ _ _ _ _ _ _ _ _ _ _ _ _ _ _ _ _ _ _ _) ?_; clear tr
            refine then_n ?_
            refine at_ret rfl ?_
            refine fpure ?_
            rfl
          · try simp only [decide_eq_true_eq, decide_eq_false_iff_not, Bool.not_eq_true', Bool.not_eq_false', beq_iff_eq, beq_eq_false_iff_ne, ne_eq] at h5
            first | omega | exact absurd trivial (by assumption)
        · try simp only [decide_eq_true_eq, decide_eq_false_iff_not, Bool.not_eq_true', Bool.not_eq_false', beq_iff_eq, beq_eq_false_iff_ne, ne_eq] at h4
          refine Rn ?_
          refine Rn ?_
          refine Rn ?_
          refine Rn ?_
          refine Rq ?_
          refine Rq ?_
          refine Ry ?_
          refine Rq ?_
          refine Ry ?_
          refine Rq ?_
          refine Ry ?_
          refine Rq ?_
          refine Rp_split (fun h6 => ?_) (fun h6 => ?_)
          · try simp only [decide_eq_true_eq, decide_eq_false_iff_not, Bool.not_eq_true', Bool.not_eq_false', beq_iff_eq, beq_eq_false_iff_ne, ne_eq] at h6
            obtain ⟨hl0, hta, hM⟩ := hcase.resolve_right (fun hh => hh.1 (by assumption))
            subst hta
            have hal := lm_zero hl0
            have hct := min_check hka hkb hal hM
            refine Ry ?_
            refine R_q rfl (by simp (disch := first | omega | (simp only [List.length_map, List.length_append, List.length_set, List.length_cons, List.length_nil, List.length_take, List.length_drop]; omega)) only [go_sem, ↓reduceIte, Nat.reduceEqDiff, reduceCtorEq, hst]; rfl) ?_
            refine Ry ?_
            refine Rcall ?_
            refine ACall_eq (check_ok _ _ _) ?_
            rw [hct]
            refine Ry ?_
            refine Rq ?_
            refine Ry ?_
            refine Rq ?_
            refine Ry ?_
            refine Rq ?_
            refine Rp_split (fun h7 => ?_) (fun h7 => ?_)
            · try simp only [decide_eq_true_eq, decide_eq_false_iff_not, Bool.not_eq_true', Bool.not_eq_false', beq_iff_eq, beq_eq_false_iff_ne, ne_eq] at h7
              refine Ry ?_
              refine R_q rfl (by simp (disch := first | omega | (simp only [List.length_map, List.length_append, List.length_set, List.length_cons, List.length_nil, List.length_take, List.length_drop]; omega)) only [go_sem, ↓reduceIte, Nat.reduceEqDiff, reduceCtorEq, hst]; rfl) ?_
              refine Ry ?_
              refine R_q rfl (by simp (disch := first | omega | (simp only [List.length_map, List.length_append, List.length_set, List.length_cons, List.length_nil, List.length_take, List.length_drop]; omega)) only [go_sem, ↓reduceIte, Nat.reduceEqDiff, reduceCtorEq, hst]; rfl) ?_
              refine Ry ?_
              refine Rcall ?_
              refine ACall_eq (covers_ok _ _ a t) ?_
              rw [coversB_t (min_covers (check_shape hka) (check_shape hct) hM)]
              refine Ry ?_
              refine Rq ?_
              refine Ry ?_
              refine Rq ?_
              refine Ry ?_
              refine R_q rfl (by simp (disch := first | omega | (simp only [List.length_map, List.length_append, List.length_set, List.length_cons, List.length_nil, List.length_take, List.length_drop]; omega)) only [go_sem, ↓reduceIte, Nat.reduceEqDiff, reduceCtorEq, hst]; rfl) ?_
              refine Ry ?_
              refine R_q rfl (by simp (disch := first | omega | (simp only [List.length_map, List.length_append, List.length_set, List.length_cons, List.length_nil, List.length_take, List.length_drop]; omega)) only [go_sem, ↓reduceIte, Nat.reduceEqDiff, reduceCtorEq, hst]; rfl) ?_
              refine Ry ?_
              refine Rcall ?_
              refine ACall_eq (covers_ok _ _ b t) ?_
              rw [coversB_t (min_covers2 hal (check_shape hct) hM)]
              refine Ry ?_
              refine Rq ?_
              refine Rq ?_
              refine Rq ?_
              have tr : ∀ y0 y1 y2 y3 y4 y5 y6 y8 y23 z0 z1 z2 z3 z4 z5 z6 z7 z8 z9 z10 z11 z12 z13 z14 z15 z16 z17 z18 z19 z20 z21 z22 z23 z24 z25 z26 z27 : AV, trim [(4, z27), (56, z26), (55, z25), (54, z24), (53, z23), (52, z22), (51, z21), (50, z20), (49, z19), (48, z18), (47, z17), (46, z16), (45, z15), (44, z14), (43, z13), (42, z12), (41, z11), (40, z10), (39, z9), (38, z8), (37, z7), (36, z6), (35, z5), (34, z4), (33, z3), (32, z2), (31, z1), (30, z0), (0, y0), (1, y1), (2, y2), (3, y3), (4, y4), (5, y5), (6, y6), (8, y8), (23, y23)] [(0, y0), (1, y1), (2, y2), (3, y3), (4, y4), (5, y5), (6, y6), (8, y8), (23, y23)] = [(0, y0), (1, y1), (2, y2), (3, y3), (4, z27), (5, y5), (6, y6), (8, y8), (23, y23)] := fun y0 y1 y2 y3 y4 y5 y6 y8 y23 z0 z1 z2 z3 z4 z5 z6 z7 z8 z9 z10 z11 z12 z13 z14 z15 z16 z17 z18 z19 z20 z21 z22 z23 z24 z25 z26 z27 => rfl
              refine R_nil (tr _ _ _ _ _ _ _ _ _ _ _ _ _ _ _ _ _ _ _ _ _ _ _ _ _ _ _ _ _ _ _ _ _ _ _ _ _) ?_; clear tr
              refine then_n ?_
              refine at_ret rfl ?_
              refine fpure ?_
              rfl
            · try simp only [decide_eq_true_eq, decide_eq_false_iff_not, Bool.not_eq_true', Bool.not_eq_false', beq_iff_eq, beq_eq_false_iff_ne, ne_eq] at h7
              first | omega | exact absurd trivial (by assumption)
          · try simp only [decide_eq_true_eq, decide_eq_false_iff_not, Bool.not_eq_true', Bool.not_eq_false', beq_iff_eq, beq_eq_false_iff_ne, ne_eq] at h6
            first | omega | exact absurd trivial (by assumption)

theorem order_ok (a b : Tb) : ACall sig 0 6 [.agg [rowsAV a], .agg [rowsAV b]] [] fun r _ => r = .v (.bool true) := by
  have hst : True := trivial
  have hst1 := hst
  have hst2 := hst
  refine ACall_pure (fa := fa6) rfl rfl rfl rfl ?_
  have tr : ∀ a0 a1 : AV, env0 fa6.keep [a0, a1] = [(0, a0), (1, a1), (2, .any), (3, .any), (4, .any), (5, .any), (6, .any), (7, .any), (8, .any), (9, .any), (10, .any), (12, .any), (17, .any), (25, .any)] := fun a0 a1 => rfl
  refine W_to (tr _ _) ?_; clear tr
  refine at_seq rfl ?_
  refine rg rfl ?_
  refine R_box rfl (by simp (disch := first | omega | (simp only [List.length_map, List.length_append, List.length_set, List.length_cons, List.length_nil, List.length_take, List.length_drop]; omega)) only [go_sem, ↓reduceIte, Nat.reduceEqDiff, reduceCtorEq, hst, hst1, hst2]; rfl) rfl rfl ?_
  refine R_box rfl (by simp (disch := first | omega | (simp only [List.length_map, List.length_append, List.length_set, List.length_cons, List.length_nil, List.length_take, List.length_drop]; omega)) only [go_sem, ↓reduceIte, Nat.reduceEqDiff, reduceCtorEq, hst, hst1, hst2]; rfl) rfl rfl ?_
  refine Rq ?_
  have tr : ∀ y0 y1 y2 y3 y4 y5 y6 y7 y8 y9 y10 y12 y17 y25 z0 z1 z2 : AV, trim [(4, z2), (3, z1), (2, z0), (0, y0), (1, y1), (2, y2), (3, y3), (4, y4), (5, y5), (6, y6), (7, y7), (8, y8), (9, y9), (10, y10), (12, y12), (17, y17), (25, y25)] [(0, y0), (1, y1), (2, y2), (3, y3), (4, y4), (5, y5), (6, y6), (7, y7), (8, y8), (9, y9), (10, y10), (12, y12), (17, y17), (25, y25)] = [(0, y0), (1, y1), (2, z0), (3, z1), (4, z2), (5, y5), (6, y6), (7, y7), (8, y8), (9, y9), (10, y10), (12, y12), (17, y17), (25, y25)] := fun y0 y1 y2 y3 y4 y5 y6 y7 y8 y9 y10 y12 y17 y25 z0 z1 z2 => rfl
  refine R_nil (tr _ _ _ _ _ _ _ _ _ _ _ _ _ _ _ _ _) ?_; clear tr
  refine then_n ?_
  refine at_seq rfl ?_
  refine at_seq rfl ?_
  refine rg rfl ?_
  refine Rcall ?_
  refine ACall_eval 300 (awake_2 _ _ _) ?_
  refine Rq ?_
  have tr : ∀ y0 y1 y2 y3 y4 y5 y6 y7 y8 y9 y10 y12 y17 y25 z0 z1 : AV, trim [(12, z1), (11, z0), (0, y0), (1, y1), (2, y2), (3, y3), (4, y4), (5, y5), (6, y6), (7, y7), (8, y8), (9, y9), (10, y10), (12, y12), (17, y17), (25, y25)] [(0, y0), (1, y1), (2, y2), (3, y3), (4, y4), (5, y5), (6, y6), (7, y7), (8, y8), (9, y9), (10, y10), (12, y12), (17, y17), (25, y25)] = [(0, y0), (1, y1), (2, y2), (3, y3), (4, y4), (5, y5), (6, y6), (7, y7), (8, y8), (9, y9), (10, y10), (12, z1), (17, y17), (25, y25)] := fun y0 y1 y2 y3 y4 y5 y6 y7 y8 y9 y10 y12 y17 y25 z0 z1 => rfl
  refine R_nil (tr _ _ _ _ _ _ _ _ _ _ _ _ _ _ _ _) ?_; clear tr
  refine then_n ?_
  refine cdf ?_
  refine at_skip rfl ?_
  refine then_n ?_
  refine at_seq rfl ?_
  refine at_seq rfl ?_
  refine rg rfl ?_
  refine R_q rfl (by simp (disch := first | omega | (simp only [List.length_map, List.length_append, List.length_set, List.length_cons, List.length_nil, List.length_take, List.length_drop]; omega)) only [go_sem, ↓reduceIte, Nat.reduceEqDiff, reduceCtorEq, hst, hst1, hst2]; rfl) ?_
  refine R_q rfl (by simp (disch := first | omega | (simp only [List.length_map, List.length_append, List.length_set, List.length_cons, List.length_nil, List.length_take, List.length_drop]; omega)) only [go_sem, ↓reduceIte, Nat.reduceEqDiff, reduceCtorEq, hst, hst1, hst2]; rfl) ?_
  refine R_buildSlice (bs38_2 _ _ _ _ _ _ _ rfl rfl (by simp only [go_sem, ↓reduceIte, Nat.reduceEqDiff]; rfl) (by simp only [go_sem, ↓reduceIte, Nat.reduceEqDiff]; rfl)) ?_
  refine Rcall ?_
  refine ACall_eq (small_ok _ _ _ [a, b] (by simp only [go_sem]; rfl) (by simp)) ?_
  refine Rq ?_
  have tr : ∀ y0 y1 y2 y3 y4 y5 y6 y7 y8 y9 y10 y12 y17 y25 z0 z1 z2 z3 z4 : AV, trim [(17, z4), (16, z3), (15, z2), (14, z1), (13, z0), (0, y0), (1, y1), (2, y2), (3, y3), (4, y4), (5, y5), (6, y6), (7, y7), (8, y8), (9, y9), (10, y10), (12, y12), (17, y17), (25, y25)] [(0, y0), (1, y1), (2, y2), (3, y3), (4, y4), (5, y5), (6, y6), (7, y7), (8, y8), (9, y9), (10, y10), (12, y12), (17, y17), (25, y25)] = [(0, y0), (1, y1), (2, y2), (3, y3), (4, y4), (5, y5), (6, y6), (7, y7), (8, y8), (9, y9), (10, y10), (12, y12), (17, z4), (25, y25)] := fun y0 y1 y2 y3 y4 y5 y6 y7 y8 y9 y10 y12 y17 y25 z0 z1 z2 z3 z4 => rfl
  refine R_nil (tr _ _ _ _ _ _ _ _ _ _ _ _ _ _ _ _ _ _ _) ?_; clear tr
  refine then_n ?_
  refine cdd (fun h1 => ?_) (fun h1 => ?_)
  · try simp only [decide_eq_true_eq, decide_eq_false_iff_not, Bool.not_eq_true', Bool.not_eq_false', beq_iff_eq, beq_eq_false_iff_ne, ne_eq] at h1
    refine at_seq rfl ?_
    refine rg rfl ?_
    refine Rq ?_
    have tr : ∀ y0 y1 y2 y3 y4 y5 y6 y7 y8 y9 y10 y12 y17 y25 z0 : AV, trim [(4, z0), (0, y0), (1, y1), (2, y2), (3, y3), (4, y4), (5, y5), (6, y6), (7, y7), (8, y8), (9, y9), (10, y10), (12, y12), (17, y17), (25, y25)] [(0, y0), (1, y1), (2, y2), (3, y3), (4, y4), (5, y5), (6, y6), (7, y7), (8, y8), (9, y9), (10, y10), (12, y12), (17, y17), (25, y25)] = [(0, y0), (1, y1), (2, y2), (3, y3), (4, z0), (5, y5), (6, y6), (7, y7), (8, y8), (9, y9), (10, y10), (12, y12), (17, y17), (25, y25)] := fun y0 y1 y2 y3 y4 y5 y6 y7 y8 y9 y10 y12 y17 y25 z0 => rfl
    refine R_nil (tr _ _ _ _ _ _ _ _ _ _ _ _ _ _ _) ?_; clear tr
    refine then_n ?_
    refine at_ret rfl ?_
    refine then_r ?_
    refine fpure ?_
    rfl
  · try simp only [decide_eq_true_eq, decide_eq_false_iff_not, Bool.not_eq_true', Bool.not_eq_false', beq_iff_eq, beq_eq_false_iff_ne, ne_eq] at h1
    refine at_skip rfl ?_
    refine then_n ?_
    refine at_seq rfl ?_
    refine rg rfl ?_
    refine R_q rfl (by simp (disch := first | omega | (simp only [List.length_map, List.length_append, List.length_set, List.length_cons, List.length_nil, List.length_take, List.length_drop]; omega)) only [go_sem, ↓reduceIte, Nat.reduceEqDiff, reduceCtorEq, hst, hst1, hst2]; rfl) ?_
    refine R_q rfl (by simp (disch := first | omega | (simp only [List.length_map, List.length_append, List.length_set, List.length_cons, List.length_nil, List.length_take, List.length_drop]; omega)) only [go_sem, ↓reduceIte, Nat.reduceEqDiff, reduceCtorEq, hst, hst1, hst2]; rfl) ?_
    refine Rcall ?_
    refine ACall_mono (leastw_ok _ _ a b) ?_
    rintro r H6 ⟨rfl, hA⟩
    obtain ⟨t, ta, rfl, hst, hcase⟩ := least_case hA
    refine Rq ?_
    refine Rq ?_
    refine Rq ?_
    refine R_alloc (by simp (disch := first | omega | (simp only [List.length_map, List.length_append, List.length_set, List.length_cons, List.length_nil, List.length_take, List.length_drop]; omega)) only [go_sem, ↓reduceIte, Nat.reduceEqDiff, reduceCtorEq, hst, hst1, hst2]; rfl) rfl (by simp only [List.map_cons, List.map_nil]; rfl) ?_
    refine R_store ty24 (by simp (disch := first | omega | (simp only [List.length_map, List.length_append, List.length_set, List.length_cons, List.length_nil, List.length_take, List.length_drop]; omega)) only [go_sem, ↓reduceIte, Nat.reduceEqDiff, reduceCtorEq, hst, hst1, hst2]; rfl) (by simp (disch := first | omega | (simp only [List.length_map, List.length_append, List.length_set, List.length_cons, List.length_nil, List.length_take, List.length_drop]; omega)) only [go_sem, ↓reduceIte, Nat.reduceEqDiff, reduceCtorEq, hst, hst1, hst2]; rfl) (by simp (disch := first | omega | (simp only [List.length_map, List.length_append, List.length_set, List.length_cons, List.length_nil, List.length_take, List.length_drop]; omega)) only [go_sem, ↓reduceIte, Nat.reduceEqDiff, reduceCtorEq, hst, hst1, hst2]; rfl) (by simp) (by rfl) (by simp (disch := first | omega | (simp only [List.length_map, List.length_append, List.length_set, List.length_cons, List.length_nil, List.length_take, List.length_drop]; omega)) only [go_sem, ↓reduceIte, Nat.reduceEqDiff, reduceCtorEq, hst, hst1, hst2]; rfl) ?_
    refine Rq ?_
    have tr : ∀ y0 y1 y2 y3 y4 y5 y6 y7 y8 y9 y10 y12 y17 y25 z0 z1 z2 z3 z4 z5 z6 z7 : AV, trim [(6, z7), (5, z6), (23, z5), (22, z4), (18, z3), (21, z2), (20, z1), (19, z0), (0, y0), (1, y1), (2, y2), (3, y3), (4, y4), (5, y5), (6, y6), (7, y7), (8, y8), (9, y9), (10, y10), (12, y12), (17, y17), (25, y25)] [(0, y0), (1, y1), (2, y2), (3, y3), (4, y4), (5, y5), (6, y6), (7, y7), (8, y8), (9, y9), (10, y10), (12, y12), (17, y17), (25, y25)] = [(0, y0), (1, y1), (2, y2), (3, y3), (4, y4), (5, z6), (6, z7), (7, y7), (8, y8), (9, y9), (10, y10), (12, y12), (17, y17), (25, y25)] := fun y0 y1 y2 y3 y4 y5 y6 y7 y8 y9 y10 y12 y17 y25 z0 z1 z2 z3 z4 z5 z6 z7 => rfl
    refine R_nil (tr _ _ _ _ _ _ _ _ _ _ _ _ _ _ _ _ _ _ _ _ _ _) ?_; clear tr
    refine then_n ?_
    refine at_seq rfl ?_
    refine at_seq rfl ?_
    refine rg rfl ?_
    refine Rq ?_
    refine Rq ?_
    have tr : ∀ y0 y1 y2 y3 y4 y5 y6 y7 y8 y9 y10 y12 y17 y25 z0 z1 : AV, trim [(25, z1), (24, z0), (0, y0), (1, y1), (2, y2), (3, y3), (4, y4), (5, y5), (6, y6), (7, y7), (8, y8), (9, y9), (10, y10), (12, y12), (17, y17), (25, y25)] [(0, y0), (1, y1), (2, y2), (3, y3), (4, y4), (5, y5), (6, y6), (7, y7), (8, y8), (9, y9), (10, y10), (12, y12), (17, y17), (25, y25)] = [(0, y0), (1, y1), (2, y2), (3, y3), (4, y4), (5, y5), (6, y6), (7, y7), (8, y8), (9, y9), (10, y10), (12, y12), (17, y17), (25, z1)] := fun y0 y1 y2 y3 y4 y5 y6 y7 y8 y9 y10 y12 y17 y25 z0 z1 => rfl
    refine R_nil (tr _ _ _ _ _ _ _ _ _ _ _ _ _ _ _ _) ?_; clear tr
    refine then_n ?_
    refine cdd (fun h2 => ?_) (fun h2 => ?_)
    · try simp only [decide_eq_true_eq, decide_eq_false_iff_not, Bool.not_eq_true', Bool.not_eq_false', beq_iff_eq, beq_eq_false_iff_ne, ne_eq] at h2
      refine at_seq rfl ?_
      refine rg rfl ?_
      obtain ⟨_, hta⟩ := hcase.resolve_left (fun hh => absurd hh.1 (by assumption))
      subst hta
      refine Rq ?_
      refine R_q rfl (by simp (disch := first | omega | (simp only [List.length_map, List.length_append, List.length_set, List.length_cons, List.length_nil, List.length_take, List.length_drop]; omega)) only [go_sem, ↓reduceIte, Nat.reduceEqDiff, reduceCtorEq, hst, hst1, hst2]; rfl) ?_
      refine Rq ?_
      refine Rq ?_
      refine Rq ?_
      have tr : ∀ y0 y1 y2 y3 y4 y5 y6 y7 y8 y9 y10 y12 y17 y25 z0 z1 z2 z3 z4 : AV, trim [(4, z4), (29, z3), (28, z2), (27, z1), (26, z0), (0, y0), (1, y1), (2, y2), (3, y3), (4, y4), (5, y5), (6, y6), (7, y7), (8, y8), (9, y9), (10, y10), (12, y12), (17, y17), (25, y25)] [(0, y0), (1, y1), (2, y2), (3, y3), (4, y4), (5, y5), (6, y6), (7, y7), (8, y8), (9, y9), (10, y10), (12, y12), (17, y17), (25, y25)] = [(0, y0), (1, y1), (2, y2), (3, y3), (4, z4), (5, y5), (6, y6), (7, y7), (8, y8), (9, y9), (10, y10), (12, y12), (17, y17), (25, y25)] := fun y0 y1 y2 y3 y4 y5 y6 y7 y8 y9 y10 y12 y17 y25 z0 z1 z2 z3 z4 => rfl
      refine R_nil (tr _ _ _ _ _ _ _ _ _ _ _ _ _ _ _ _ _ _ _) ?_; clear tr
      refine then_n ?_
      refine at_ret rfl ?_
      refine then_r ?_
      refine fpure ?_
      rfl
    · try simp only [decide_eq_true_eq, decide_eq_false_iff_not, Bool.not_eq_true', Bool.not_eq_false', beq_iff_eq, beq_eq_false_iff_ne, ne_eq] at h2
      refine at_skip rfl ?_
      refine then_n ?_
      refine at_seq rfl ?_
      refine rg rfl ?_
      obtain ⟨hl0, hta, hM⟩ := hcase.resolve_right (fun hh => hh.1 (by assumption))
      subst hta
      refine R_q rfl (by simp (disch := first | omega | (simp only [List.length_map, List.length_append, List.length_set, List.length_cons, List.length_nil, List.length_take, List.length_drop]; omega)) only [go_sem, ↓reduceIte, Nat.reduceEqDiff, reduceCtorEq, hst, hst1, hst2]; rfl) ?_
      refine Rcall ?_
      refine ACall_mono (above_ok _ _ a) ?_
      rintro r H7 ⟨rfl, hA1⟩
      obtain ⟨t1, ta1, rfl, hst1, hcase1⟩ := above_case hA1
      refine Rq ?_
      refine Rq ?_
      refine Rq ?_
      refine R_alloc (by simp (disch := first | omega | (simp only [List.length_map, List.length_append, List.length_set, List.length_cons, List.length_nil, List.length_take, List.length_drop]; omega)) only [go_sem, ↓reduceIte, Nat.reduceEqDiff, reduceCtorEq, hst, hst1, hst2]; rfl) rfl (by simp only [List.map_cons, List.map_nil]; rfl) ?_
      refine R_store ty24 (by simp (disch := first | omega | (simp only [List.length_map, List.length_append, List.length_set, List.length_cons, List.length_nil, List.length_take, List.length_drop]; omega)) only [go_sem, ↓reduceIte, Nat.reduceEqDiff, reduceCtorEq, hst, hst1, hst2]; rfl) (by simp (disch := first | omega | (simp only [List.length_map, List.length_append, List.length_set, List.length_cons, List.length_nil, List.length_take, List.length_drop]; omega)) only [go_sem, ↓reduceIte, Nat.reduceEqDiff, reduceCtorEq, hst, hst1, hst2]; rfl) (by simp (disch := first | omega | (simp only [List.length_map, List.length_append, List.length_set, List.length_cons, List.length_nil, List.length_take, List.length_drop]; omega)) only [go_sem, ↓reduceIte, Nat.reduceEqDiff, reduceCtorEq, hst, hst1, hst2]; rfl) (by simp) (by rfl) (by simp (disch := first | omega | (simp only [List.length_map, List.length_append, List.length_set, List.length_cons, List.length_nil, List.length_take, List.length_drop]; omega)) only [go_sem, ↓reduceIte, Nat.reduceEqDiff, reduceCtorEq, hst, hst1, hst2]; rfl) ?_
      refine Rq ?_
      have tr : ∀ y0 y1 y2 y3 y4 y5 y6 y7 y8 y9 y10 y12 y17 y25 z0 z1 z2 z3 z4 z5 z6 : AV, trim [(8, z6), (7, z5), (34, z4), (33, z3), (30, z2), (32, z1), (31, z0), (0, y0), (1, y1), (2, y2), (3, y3), (4, y4), (5, y5), (6, y6), (7, y7), (8, y8), (9, y9), (10, y10), (12, y12), (17, y17), (25, y25)] [(0, y0), (1, y1), (2, y2), (3, y3), (4, y4), (5, y5), (6, y6), (7, y7), (8, y8), (9, y9), (10, y10), (12, y12), (17, y17), (25, y25)] = [(0, y0), (1, y1), (2, y2), (3, y3), (4, y4), (5, y5), (6, y6), (7, z5), (8, z6), (9, y9), (10, y10), (12, y12), (17, y17), (25, y25)] := fun y0 y1 y2 y3 y4 y5 y6 y7 y8 y9 y10 y12 y17 y25 z0 z1 z2 z3 z4 z5 z6 => rfl
      refine R_nil (tr _ _ _ _ _ _ _ _ _ _ _ _ _ _ _ _ _ _ _ _ _) ?_; clear tr
      refine then_n ?_
      refine at_seq rfl ?_
      refine rg rfl ?_
      refine R_q rfl (by simp (disch := first | omega | (simp only [List.length_map, List.length_append, List.length_set, List.length_cons, List.length_nil, List.length_take, List.length_drop]; omega)) only [go_sem, ↓reduceIte, Nat.reduceEqDiff, reduceCtorEq, hst, hst1, hst2]; rfl) ?_
      refine Rcall ?_
      refine ACall_mono (above_ok _ _ t) ?_
      rintro r H7 ⟨rfl, hA2⟩
      obtain ⟨t2, ta2, rfl, hst2, hcase2⟩ := above_case hA2
      refine Rq ?_
      refine Rq ?_
      refine Rq ?_
      refine R_alloc (by simp (disch := first | omega | (simp only [List.length_map, List.length_append, List.length_set, List.length_cons, List.length_nil, List.length_take, List.length_drop]; omega)) only [go_sem, ↓reduceIte, Nat.reduceEqDiff, reduceCtorEq, hst, hst1, hst2]; rfl) rfl (by simp only [List.map_cons, List.map_nil]; rfl) ?_
      refine R_store ty24 (by simp (disch := first | omega | (simp only [List.length_map, List.length_append, List.length_set, List.length_cons, List.length_nil, List.length_take, List.length_drop]; omega)) only [go_sem, ↓reduceIte, Nat.reduceEqDiff, reduceCtorEq, hst, hst1, hst2]; rfl) (by simp (disch := first | omega | (simp only [List.length_map, List.length_append, List.length_set, List.length_cons, List.length_nil, List.length_take, List.length_drop]; omega)) only [go_sem, ↓reduceIte, Nat.reduceEqDiff, reduceCtorEq, hst, hst1, hst2]; rfl) (by simp (disch := first | omega | (simp only [List.length_map, List.length_append, List.length_set, List.length_cons, List.length_nil, List.length_take, List.length_drop]; omega)) only [go_sem, ↓reduceIte, Nat.reduceEqDiff, reduceCtorEq, hst, hst1, hst2]; rfl) (by simp) (by rfl) (by simp (disch := first | omega | (simp only [List.length_map, List.length_append, List.length_set, List.length_cons, List.length_nil, List.length_take, List.length_drop]; omega)) only [go_sem, ↓reduceIte, Nat.reduceEqDiff, reduceCtorEq, hst, hst1, hst2]; rfl) ?_
      refine Rq ?_
      have tr : ∀ y0 y1 y2 y3 y4 y5 y6 y7 y8 y9 y10 y12 y17 y25 z0 z1 z2 z3 z4 z5 z6 : AV, trim [(10, z6), (9, z5), (39, z4), (38, z3), (35, z2), (37, z1), (36, z0), (0, y0), (1, y1), (2, y2), (3, y3), (4, y4), (5, y5), (6, y6), (7, y7), (8, y8), (9, y9), (10, y10), (12, y12), (17, y17), (25, y25)] [(0, y0), (1, y1), (2, y2), (3, y3), (4, y4), (5, y5), (6, y6), (7, y7), (8, y8), (9, y9), (10, y10), (12, y12), (17, y17), (25, y25)] = [(0, y0), (1, y1), (2, y2), (3, y3), (4, y4), (5, y5), (6, y6), (7, y7), (8, y8), (9, z5), (10, z6), (12, y12), (17, y17), (25, y25)] := fun y0 y1 y2 y3 y4 y5 y6 y7 y8 y9 y10 y12 y17 y25 z0 z1 z2 z3 z4 z5 z6 => rfl
      refine R_nil (tr _ _ _ _ _ _ _ _ _ _ _ _ _ _ _ _ _ _ _ _ _) ?_; clear tr
      refine then_n ?_
      refine at_seq rfl ?_
      refine rg rfl ?_
      refine Rq ?_
      refine Rq ?_
      refine Rq ?_
      refine Rp_split (fun h3 => ?_) (fun h3 => ?_)
      · try simp only [decide_eq_true_eq, decide_eq_false_iff_not, Bool.not_eq_true', Bool.not_eq_false', beq_iff_eq, beq_eq_false_iff_ne, ne_eq] at h3
        refine Rn ?_
        refine Rn ?_
        refine Rq ?_
        refine Rq ?_
        refine Rn ?_
        refine Rn ?_
        refine Rn ?_
        refine Rq ?_
        refine Rq ?_
        have tr : ∀ y0 y1 y2 y3 y4 y5 y6 y7 y8 y9 y10 y12 y17 y25 z0 z1 z2 z3 z4 z5 z6 z7 z8 z9 z10 z11 : AV, trim [(4, z11), (50, z10), (49, z9), (48, z8), (47, z7), (46, z6), (45, z5), (44, z4), (43, z3), (42, z2), (41, z1), (40, z0), (0, y0), (1, y1), (2, y2), (3, y3), (4, y4), (5, y5), (6, y6), (7, y7), (8, y8), (9, y9), (10, y10), (12, y12), (17, y17), (25, y25)] [(0, y0), (1, y1), (2, y2), (3, y3), (4, y4), (5, y5), (6, y6), (7, y7), (8, y8), (9, y9), (10, y10), (12, y12), (17, y17), (25, y25)] = [(0, y0), (1, y1), (2, y2), (3, y3), (4, z11), (5, y5), (6, y6), (7, y7), (8, y8), (9, y9), (10, y10), (12, y12), (17, y17), (25, y25)] := fun y0 y1 y2 y3 y4 y5 y6 y7 y8 y9 y10 y12 y17 y25 z0 z1 z2 z3 z4 z5 z6 z7 z8 z9 z10 z11 => rfl
        refine R_nil (tr _ _ _ _ _ _ _ _ _ _ _ _ _ _ _ _ _ _ _ _ _ _ _ _ _ _) ?_; clear tr
        refine then_n ?_
        refine at_ret rfl ?_
        refine fpure ?_
        rfl
      · try simp only [decide_eq_true_eq, decide_eq_false_iff_not, Bool.not_eq_true', Bool.not_eq_false', beq_iff_eq, beq_eq_false_iff_ne, ne_eq] at h3
        refine Ry ?_
        refine Rq ?_
        refine Ry ?_
        refine Rq ?_
        refine Rq ?_
        refine Rq ?_
        refine Rp_split (fun h4 => ?_) (fun h4 => ?_)
        · try simp only [decide_eq_true_eq, decide_eq_false_iff_not, Bool.not_eq_true', Bool.not_eq_false', beq_iff_eq, beq_eq_false_iff_ne, ne_eq] at h4
          refine Rn ?_
          refine Rn ?_
          refine Rn ?_
          refine Rq ?_
          refine Rq ?_
          have tr : ∀ y0 y1 y2 y3 y4 y5 y6 y7 y8 y9 y10 y12 y17 y25 z0 z1 z2 z3 z4 z5 z6 z7 z8 z9 z10 z11 : AV, trim [(4, z11), (50, z10), (49, z9), (48, z8), (47, z7), (46, z6), (45, z5), (44, z4), (43, z3), (42, z2), (41, z1), (40, z0), (0, y0), (1, y1), (2, y2), (3, y3), (4, y4), (5, y5), (6, y6), (7, y7), (8, y8), (9, y9), (10, y10), (12, y12), (17, y17), (25, y25)] [(0, y0), (1, y1), (2, y2), (3, y3), (4, y4), (5, y5), (6, y6), (7, y7), (8, y8), (9, y9), (10, y10), (12, y12), (17, y17), (25, y25)] = [(0, y0), (1, y1), (2, y2), (3, y3), (4, z11), (5, y5), (6, y6), (7, y7), (8, y8), (9, y9), (10, y10), (12, y12), (17, y17), (25, y25)] := fun y0 y1 y2 y3 y4 y5 y6 y7 y8 y9 y10 y12 y17 y25 z0 z1 z2 z3 z4 z5 z6 z7 z8 z9 z10 z11 => rfl
          refine R_nil (tr _ _ _ _ _ _ _ _ _ _ _ _ _ _ _ _ _ _ _ _ _ _ _ _ _ _) ?_; clear tr
          refine then_n ?_
          refine at_ret rfl ?_
          refine fpure ?_
          rfl
        · try simp only [decide_eq_true_eq, decide_eq_false_iff_not, Bool.not_eq_true', Bool.not_eq_false', beq_iff_eq, beq_eq_false_iff_ne, ne_eq] at h4
          obtain ⟨hr1, hta1, hI1, hC1⟩ := hcase1.resolve_right (fun hh => hh.1 (by assumption))
          subst hta1
          obtain ⟨hr2, hta2, hI2, hC2⟩ := hcase2.resolve_right (fun hh => hh.1 (by assumption))
          subst hta2
          refine Ry ?_
          refine R_q rfl (by simp (disch := first | omega | (simp only [List.length_map, List.length_append, List.length_set, List.length_cons, List.length_nil, List.length_take, List.length_drop]; omega)) only [go_sem, ↓reduceIte, Nat.reduceEqDiff, reduceCtorEq, hst, hst1, hst2]; rfl) ?_
          refine Ry ?_
          refine R_q rfl (by simp (disch := first | omega | (simp only [List.length_map, List.length_append, List.length_set, List.length_cons, List.length_nil, List.length_take, List.length_drop]; omega)) only [go_sem, ↓reduceIte, Nat.reduceEqDiff, reduceCtorEq, hst, hst1, hst2]; rfl) ?_
          refine Ry ?_
          refine Rcall ?_
          refine ACall_eq (covers_ok _ _ t1 t2) ?_
          rw [coversB_t (order_covers hM hr1 hr2 hI1 hC1 hI2 hC2)]
          refine Rq ?_
          refine Rq ?_
          have tr : ∀ y0 y1 y2 y3 y4 y5 y6 y7 y8 y9 y10 y12 y17 y25 z0 z1 z2 z3 z4 z5 z6 z7 z8 z9 z10 z11 : AV, trim [(4, z11), (50, z10), (49, z9), (48, z8), (47, z7), (46, z6), (45, z5), (44, z4), (43, z3), (42, z2), (41, z1), (40, z0), (0, y0), (1, y1), (2, y2), (3, y3), (4, y4), (5, y5), (6, y6), (7, y7), (8, y8), (9, y9), (10, y10), (12, y12), (17, y17), (25, y25)] [(0, y0), (1, y1), (2, y2), (3, y3), (4, y4), (5, y5), (6, y6), (7, y7), (8, y8), (9, y9), (10, y10), (12, y12), (17, y17), (25, y25)] = [(0, y0), (1, y1), (2, y2), (3, y3), (4, z11), (5, y5), (6, y6), (7, y7), (8, y8), (9, y9), (10, y10), (12, y12), (17, y17), (25, y25)] := fun y0 y1 y2 y3 y4 y5 y6 y7 y8 y9 y10 y12 y17 y25 z0 z1 z2 z3 z4 z5 z6 z7 z8 z9 z10 z11 => rfl
          refine R_nil (tr _ _ _ _ _ _ _ _ _ _ _ _ _ _ _ _ _ _ _ _ _ _ _ _ _ _) ?_; clear tr
          refine then_n ?_
          refine at_ret rfl ?_
          refine fpure ?_
          rfl

end Go.Proofs.Ytdkhgpdojjdadaa
