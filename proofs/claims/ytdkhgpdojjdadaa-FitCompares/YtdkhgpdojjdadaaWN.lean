/-
  Walks of chapter 38. The steps are written by program (walk.py).
-/
import Derived.Test.YtdkhgpdojjdadaaWL
import Derived.Test.YtdkhgpdojjdadaaWM
import Derived.KernelRfl
set_option linter.unusedSimpArgs false
set_option linter.unusedVariables false
set_option maxHeartbeats 40000000
set_option maxRecDepth 4000
namespace Go.Proofs.Ytdkhgpdojjdadaa
open Go Go.Am

theorem awake_2 (lim : Nat) (x y : AV) : acall sig 300 lim 10 [] ([] ++ [some [x]] ++ [some [y]]) = some (.v (.bool true), [] ++ [some [x]] ++ [some [y]]) := by kernel_rfl
theorem bs38_2 (lim : Nat) (H : Heap) (x y : Operand) (ev : Operand → AV) (c d : AV) (hc : storable c = true) (hd : storable d = true) (h : ev x = .agg [c]) (h' : ev y = .agg [d]) :
    effV Try.prog lim (.buildSlice 38 2 #[(0, x), (1, y)]) ev H = some (.own 1 H.length 0 2, H ++ [some [c, d]]) := by
  simp only [effV, tk38, ty24, List.map_cons, List.map_nil, h, h', fillA, cellsOf, List.all_cons, List.all_nil, hc, hd, Bool.and_true, if_true]
  rfl
theorem same_of_alike {a b : Tb} (h : Alike a b) : Same2 a b := by
  have sa := shaped_of h.1
  have sb := shaped_of h.2.1
  exact ⟨h.2.2.1, fun u hu => by rw [sa.len u hu, sb.len u (by rw [← h.2.2.1]; exact hu)]; exact h.2.2.2⟩
theorem check_shape {r : Tb} (h : checkS r = 0) : shapeS r = 0 := (raw_zero (check_zero h).1).1
theorem alike_of {a b : Tb} (ha : shapeS a = 0) (hb : shapeS b = 0) (s : Same2 a b) : Alike a b := ⟨ha, hb, s.len, s.row 0 (by have := (shaped_of ha).two; omega)⟩
theorem covers_raw {r t : Tb} (h : rawS r = 0) (i : Inv r t) (c : Closed t) : CoversP t r :=
  ⟨alike_of (check_shape (repaired h i c)) (raw_zero h).1 i.same.symm, fun u hu w hw => i.le u (by rw [i.same.len]; exact hu) w (by rw [i.same.row u (by rw [i.same.len]; exact hu)]; exact hw)⟩
theorem covers_rep {r t o : Tb} (h : rawS r = 0) (i : Inv r t) (c : Closed t) (ho : checkS o = 0) (hc : CoversP o r) : CoversP o t := by
  have s := same_of_alike hc.1
  have hl := i.least o s.symm (check_closed ho) fun u hu w hw => hc.2 u (by rw [s.len]; exact hu) w (by rw [s.row u (by rw [s.len]; exact hu)]; exact hw)
  have st := i.same.symm.trans s.symm
  exact ⟨alike_of (check_shape ho) (check_shape (repaired h i c)) st.symm, fun u hu w hw => hl u (by rw [st.len]; exact hu) w (by rw [st.row u (by rw [st.len]; exact hu)]; exact hw)⟩

theorem least_ok2 (raw other : Tb) : ACall sig 0 8 [.agg [rowsAV raw], .agg [rowsAV other]] [] fun r _ => r = .v (.bool true) := by
  have hst : True := trivial
  refine ACall_pure (fa := fa8) rfl rfl rfl rfl ?_
  have tr : ∀ a0 a1 : AV, env0 fa8.keep [a0, a1] = [(0, a0), (1, a1), (2, .any), (3, .any), (4, .any), (5, .any), (6, .any), (8, .any), (13, .any), (20, .any), (33, .any)] := fun a0 a1 => rfl
  refine W_to (tr _ _) ?_; clear tr
  refine at_seq rfl ?_
  refine rg rfl ?_
  refine R_box rfl (by simp (disch := first | omega | (simp only [List.length_map, List.length_append, List.length_set, List.length_cons, List.length_nil, List.length_take, List.length_drop]; omega)) only [go_sem, ↓reduceIte, Nat.reduceEqDiff, reduceCtorEq, hst]; rfl) rfl rfl ?_
  refine R_box rfl (by simp (disch := first | omega | (simp only [List.length_map, List.length_append, List.length_set, List.length_cons, List.length_nil, List.length_take, List.length_drop]; omega)) only [go_sem, ↓reduceIte, Nat.reduceEqDiff, reduceCtorEq, hst]; rfl) rfl rfl ?_
  refine Rq ?_
  have tr : ∀ y0 y1 y2 y3 y4 y5 y6 y8 y13 y20 y33 z0 z1 z2 : AV, trim [(4, z2), (3, z1), (2, z0), (0, y0), (1, y1), (2, y2), (3, y3), (4, y4), (5, y5), (6, y6), (8, y8), (13, y13), (20, y20), (33, y33)] [(0, y0), (1, y1), (2, y2), (3, y3), (4, y4), (5, y5), (6, y6), (8, y8), (13, y13), (20, y20), (33, y33)] = [(0, y0), (1, y1), (2, z0), (3, z1), (4, z2), (5, y5), (6, y6), (8, y8), (13, y13), (20, y20), (33, y33)] := fun y0 y1 y2 y3 y4 y5 y6 y8 y13 y20 y33 z0 z1 z2 => rfl
  refine R_nil (tr _ _ _ _ _ _ _ _ _ _ _ _ _ _) ?_; clear tr
  refine then_n ?_
  refine at_seq rfl ?_
  refine at_seq rfl ?_
  refine rg rfl ?_
  refine Rcall ?_
  refine ACall_eval 300 (awake_2 _ _ _) ?_
  refine Rq ?_
  have tr : ∀ y0 y1 y2 y3 y4 y5 y6 y8 y13 y20 y33 z0 z1 : AV, trim [(8, z1), (7, z0), (0, y0), (1, y1), (2, y2), (3, y3), (4, y4), (5, y5), (6, y6), (8, y8), (13, y13), (20, y20), (33, y33)] [(0, y0), (1, y1), (2, y2), (3, y3), (4, y4), (5, y5), (6, y6), (8, y8), (13, y13), (20, y20), (33, y33)] = [(0, y0), (1, y1), (2, y2), (3, y3), (4, y4), (5, y5), (6, y6), (8, z1), (13, y13), (20, y20), (33, y33)] := fun y0 y1 y2 y3 y4 y5 y6 y8 y13 y20 y33 z0 z1 => rfl
  refine R_nil (tr _ _ _ _ _ _ _ _ _ _ _ _ _) ?_; clear tr
  refine then_n ?_
  refine cdf ?_
  refine at_skip rfl ?_
  refine then_n ?_
  refine at_seq rfl ?_
  refine at_seq rfl ?_
  refine rg rfl ?_
  refine R_q rfl (by simp (disch := first | omega | (simp only [List.length_map, List.length_append, List.length_set, List.length_cons, List.length_nil, List.length_take, List.length_drop]; omega)) only [go_sem, ↓reduceIte, Nat.reduceEqDiff, reduceCtorEq, hst]; rfl) ?_
  refine R_q rfl (by simp (disch := first | omega | (simp only [List.length_map, List.length_append, List.length_set, List.length_cons, List.length_nil, List.length_take, List.length_drop]; omega)) only [go_sem, ↓reduceIte, Nat.reduceEqDiff, reduceCtorEq, hst]; rfl) ?_
  refine R_buildSlice (bs38_2 _ _ _ _ _ _ _ rfl rfl (by simp only [go_sem, ↓reduceIte, Nat.reduceEqDiff]; rfl) (by simp only [go_sem, ↓reduceIte, Nat.reduceEqDiff]; rfl)) ?_
  refine Rcall ?_
  refine ACall_eq (small_ok _ _ _ [raw, other] (by simp only [go_sem]; rfl) (by simp)) ?_
  refine Rq ?_
  have tr : ∀ y0 y1 y2 y3 y4 y5 y6 y8 y13 y20 y33 z0 z1 z2 z3 z4 : AV, trim [(13, z4), (12, z3), (11, z2), (10, z1), (9, z0), (0, y0), (1, y1), (2, y2), (3, y3), (4, y4), (5, y5), (6, y6), (8, y8), (13, y13), (20, y20), (33, y33)] [(0, y0), (1, y1), (2, y2), (3, y3), (4, y4), (5, y5), (6, y6), (8, y8), (13, y13), (20, y20), (33, y33)] = [(0, y0), (1, y1), (2, y2), (3, y3), (4, y4), (5, y5), (6, y6), (8, y8), (13, z4), (20, y20), (33, y33)] := fun y0 y1 y2 y3 y4 y5 y6 y8 y13 y20 y33 z0 z1 z2 z3 z4 => rfl
  refine R_nil (tr _ _ _ _ _ _ _ _ _ _ _ _ _ _ _ _) ?_; clear tr
  refine then_n ?_
  refine cdd (fun h1 => ?_) (fun h1 => ?_)
  · try simp only [decide_eq_true_eq, decide_eq_false_iff_not, Bool.not_eq_true', Bool.not_eq_false', beq_iff_eq, beq_eq_false_iff_ne, ne_eq] at h1
    refine at_seq rfl ?_
    refine rg rfl ?_
    refine Rq ?_
    have tr : ∀ y0 y1 y2 y3 y4 y5 y6 y8 y13 y20 y33 z0 : AV, trim [(4, z0), (0, y0), (1, y1), (2, y2), (3, y3), (4, y4), (5, y5), (6, y6), (8, y8), (13, y13), (20, y20), (33, y33)] [(0, y0), (1, y1), (2, y2), (3, y3), (4, y4), (5, y5), (6, y6), (8, y8), (13, y13), (20, y20), (33, y33)] = [(0, y0), (1, y1), (2, y2), (3, y3), (4, z0), (5, y5), (6, y6), (8, y8), (13, y13), (20, y20), (33, y33)] := fun y0 y1 y2 y3 y4 y5 y6 y8 y13 y20 y33 z0 => rfl
    refine R_nil (tr _ _ _ _ _ _ _ _ _ _ _ _) ?_; clear tr
    refine then_n ?_
    refine at_ret rfl ?_
    refine then_r ?_
    refine fpure ?_
    rfl
  · try simp only [decide_eq_true_eq, decide_eq_false_iff_not, Bool.not_eq_true', Bool.not_eq_false', beq_iff_eq, beq_eq_false_iff_ne, ne_eq] at h1
    refine at_skip rfl ?_
    refine then_n ?_
    refine at_seq rfl ?_
    refine rg rfl ?_
    refine R_q rfl (by simp (disch := first | omega | (simp only [List.length_map, List.length_append, List.length_set, List.length_cons, List.length_nil, List.length_take, List.length_drop]; omega)) only [go_sem, ↓reduceIte, Nat.reduceEqDiff, reduceCtorEq, hst]; rfl) ?_
    refine Rcall ?_
    refine ACall_mono (above_ok _ _ raw) ?_
    rintro r H6 ⟨rfl, hA⟩
    obtain ⟨t, ta, rfl, hst, hcase⟩ := above_case hA
    refine Rq ?_
    refine Rq ?_
    refine Rq ?_
    refine R_alloc (by simp (disch := first | omega | (simp only [List.length_map, List.length_append, List.length_set, List.length_cons, List.length_nil, List.length_take, List.length_drop]; omega)) only [go_sem, ↓reduceIte, Nat.reduceEqDiff, reduceCtorEq, hst]; rfl) rfl (by simp only [List.map_cons, List.map_nil]; rfl) ?_
    refine R_store ty24 (by simp (disch := first | omega | (simp only [List.length_map, List.length_append, List.length_set, List.length_cons, List.length_nil, List.length_take, List.length_drop]; omega)) only [go_sem, ↓reduceIte, Nat.reduceEqDiff, reduceCtorEq, hst]; rfl) (by simp (disch := first | omega | (simp only [List.length_map, List.length_append, List.length_set, List.length_cons, List.length_nil, List.length_take, List.length_drop]; omega)) only [go_sem, ↓reduceIte, Nat.reduceEqDiff, reduceCtorEq, hst]; rfl) (by simp (disch := first | omega | (simp only [List.length_map, List.length_append, List.length_set, List.length_cons, List.length_nil, List.length_take, List.length_drop]; omega)) only [go_sem, ↓reduceIte, Nat.reduceEqDiff, reduceCtorEq, hst]; rfl) (by simp) (by rfl) (by simp (disch := first | omega | (simp only [List.length_map, List.length_append, List.length_set, List.length_cons, List.length_nil, List.length_take, List.length_drop]; omega)) only [go_sem, ↓reduceIte, Nat.reduceEqDiff, reduceCtorEq, hst]; rfl) ?_
    refine Rq ?_
    have tr : ∀ y0 y1 y2 y3 y4 y5 y6 y8 y13 y20 y33 z0 z1 z2 z3 z4 z5 z6 : AV, trim [(6, z6), (5, z5), (18, z4), (17, z3), (14, z2), (16, z1), (15, z0), (0, y0), (1, y1), (2, y2), (3, y3), (4, y4), (5, y5), (6, y6), (8, y8), (13, y13), (20, y20), (33, y33)] [(0, y0), (1, y1), (2, y2), (3, y3), (4, y4), (5, y5), (6, y6), (8, y8), (13, y13), (20, y20), (33, y33)] = [(0, y0), (1, y1), (2, y2), (3, y3), (4, y4), (5, z5), (6, z6), (8, y8), (13, y13), (20, y20), (33, y33)] := fun y0 y1 y2 y3 y4 y5 y6 y8 y13 y20 y33 z0 z1 z2 z3 z4 z5 z6 => rfl
    refine R_nil (tr _ _ _ _ _ _ _ _ _ _ _ _ _ _ _ _ _ _) ?_; clear tr
    refine then_n ?_
    refine at_seq rfl ?_
    refine at_seq rfl ?_
    refine rg rfl ?_
    refine Rq ?_
    refine Rq ?_
    have tr : ∀ y0 y1 y2 y3 y4 y5 y6 y8 y13 y20 y33 z0 z1 : AV, trim [(20, z1), (19, z0), (0, y0), (1, y1), (2, y2), (3, y3), (4, y4), (5, y5), (6, y6), (8, y8), (13, y13), (20, y20), (33, y33)] [(0, y0), (1, y1), (2, y2), (3, y3), (4, y4), (5, y5), (6, y6), (8, y8), (13, y13), (20, y20), (33, y33)] = [(0, y0), (1, y1), (2, y2), (3, y3), (4, y4), (5, y5), (6, y6), (8, y8), (13, y13), (20, z1), (33, y33)] := fun y0 y1 y2 y3 y4 y5 y6 y8 y13 y20 y33 z0 z1 => rfl
    refine R_nil (tr _ _ _ _ _ _ _ _ _ _ _ _ _) ?_; clear tr
    refine then_n ?_
    refine cdd (fun h2 => ?_) (fun h2 => ?_)
    · try simp only [decide_eq_true_eq, decide_eq_false_iff_not, Bool.not_eq_true', Bool.not_eq_false', beq_iff_eq, beq_eq_false_iff_ne, ne_eq] at h2
      refine at_seq rfl ?_
      refine rg rfl ?_
      obtain ⟨_, hta⟩ := hcase.resolve_left (fun hh => absurd hh.1 (by assumption))
      subst hta
      refine Rq ?_
      refine R_q rfl (by simp (disch := first | omega | (simp only [List.length_map, List.length_append, List.length_set, List.length_cons, List.length_nil, List.length_take, List.length_drop]; omega)) only [go_sem, ↓reduceIte, Nat.reduceEqDiff, reduceCtorEq, hst]; rfl) ?_
      refine Rq ?_
      refine Rq ?_
      refine Rq ?_
      have tr : ∀ y0 y1 y2 y3 y4 y5 y6 y8 y13 y20 y33 z0 z1 z2 z3 z4 : AV, trim [(4, z4), (24, z3), (23, z2), (22, z1), (21, z0), (0, y0), (1, y1), (2, y2), (3, y3), (4, y4), (5, y5), (6, y6), (8, y8), (13, y13), (20, y20), (33, y33)] [(0, y0), (1, y1), (2, y2), (3, y3), (4, y4), (5, y5), (6, y6), (8, y8), (13, y13), (20, y20), (33, y33)] = [(0, y0), (1, y1), (2, y2), (3, y3), (4, z4), (5, y5), (6, y6), (8, y8), (13, y13), (20, y20), (33, y33)] := fun y0 y1 y2 y3 y4 y5 y6 y8 y13 y20 y33 z0 z1 z2 z3 z4 => rfl
      refine R_nil (tr _ _ _ _ _ _ _ _ _ _ _ _ _ _ _ _) ?_; clear tr
      refine then_n ?_
      refine at_ret rfl ?_
      refine then_r ?_
      refine fpure ?_
      rfl
    · try simp only [decide_eq_true_eq, decide_eq_false_iff_not, Bool.not_eq_true', Bool.not_eq_false', beq_iff_eq, beq_eq_false_iff_ne, ne_eq] at h2
      refine at_skip rfl ?_
      refine then_n ?_
      refine at_seq rfl ?_
      refine at_seq rfl ?_
      refine rg rfl ?_
      obtain ⟨hr0, hta, hI, hC⟩ := hcase.resolve_right (fun hh => hh.1 (by assumption))
      subst hta
      refine R_q rfl (by simp (disch := first | omega | (simp only [List.length_map, List.length_append, List.length_set, List.length_cons, List.length_nil, List.length_take, List.length_drop]; omega)) only [go_sem, ↓reduceIte, Nat.reduceEqDiff, reduceCtorEq, hst]; rfl) ?_
      refine Rcall ?_
      refine ACall_eq (check_ok _ _ _) ?_
      rw [repaired hr0 hI hC]
      refine Rq ?_
      refine Rq ?_
      refine Rp_split (fun h3 => ?_) (fun h3 => ?_)
      · try simp only [decide_eq_true_eq, decide_eq_false_iff_not, Bool.not_eq_true', Bool.not_eq_false', beq_iff_eq, beq_eq_false_iff_ne, ne_eq] at h3
        first | omega | exact absurd trivial (by assumption)
      · try simp only [decide_eq_true_eq, decide_eq_false_iff_not, Bool.not_eq_true', Bool.not_eq_false', beq_iff_eq, beq_eq_false_iff_ne, ne_eq] at h3
        refine Ry ?_
        refine R_q rfl (by simp (disch := first | omega | (simp only [List.length_map, List.length_append, List.length_set, List.length_cons, List.length_nil, List.length_take, List.length_drop]; omega)) only [go_sem, ↓reduceIte, Nat.reduceEqDiff, reduceCtorEq, hst]; rfl) ?_
        refine Ry ?_
        refine R_q rfl (by simp (disch := first | omega | (simp only [List.length_map, List.length_append, List.length_set, List.length_cons, List.length_nil, List.length_take, List.length_drop]; omega)) only [go_sem, ↓reduceIte, Nat.reduceEqDiff, reduceCtorEq, hst]; rfl) ?_
        refine Ry ?_
        refine Rcall ?_
        refine ACall_eq (covers_ok _ _ t raw) ?_
        rw [coversB_t (covers_raw hr0 hI hC)]
        refine Ry ?_
        refine Rq ?_
        refine Rq ?_
        have tr : ∀ y0 y1 y2 y3 y4 y5 y6 y8 y13 y20 y33 z0 z1 z2 z3 z4 z5 z6 z7 z8 : AV, trim [(33, z8), (32, z7), (31, z6), (30, z5), (29, z4), (28, z3), (27, z2), (26, z1), (25, z0), (0, y0), (1, y1), (2, y2), (3, y3), (4, y4), (5, y5), (6, y6), (8, y8), (13, y13), (20, y20), (33, y33)] [(0, y0), (1, y1), (2, y2), (3, y3), (4, y4), (5, y5), (6, y6), (8, y8), (13, y13), (20, y20), (33, y33)] = [(0, y0), (1, y1), (2, y2), (3, y3), (4, y4), (5, y5), (6, y6), (8, y8), (13, y13), (20, y20), (33, z8)] := fun y0 y1 y2 y3 y4 y5 y6 y8 y13 y20 y33 z0 z1 z2 z3 z4 z5 z6 z7 z8 => rfl
        refine R_nil (tr _ _ _ _ _ _ _ _ _ _ _ _ _ _ _ _ _ _ _ _) ?_; clear tr
        refine then_n ?_
        refine cdf ?_
        refine at_skip rfl ?_
        refine then_n ?_
        refine at_seq rfl ?_
        refine rg rfl ?_
        refine R_q rfl (by simp (disch := first | omega | (simp only [List.length_map, List.length_append, List.length_set, List.length_cons, List.length_nil, List.length_take, List.length_drop]; omega)) only [go_sem, ↓reduceIte, Nat.reduceEqDiff, reduceCtorEq, hst]; rfl) ?_
        refine Rcall ?_
        refine ACall_eq (check_ok _ _ _) ?_
        refine Rq ?_
        refine Rq ?_
        refine Rp_split (fun h4 => ?_) (fun h4 => ?_)
        · try simp only [decide_eq_true_eq, decide_eq_false_iff_not, Bool.not_eq_true', Bool.not_eq_false', beq_iff_eq, beq_eq_false_iff_ne, ne_eq] at h4
          refine Rn ?_
          refine Rn ?_
          refine Rn ?_
          refine Rn ?_
          refine Rq ?_
          refine Rq ?_
          refine Rn ?_
          refine Rn ?_
          refine Rn ?_
          refine Rq ?_
          refine Rq ?_
          have tr : ∀ y0 y1 y2 y3 y4 y5 y6 y8 y13 y20 y33 z0 z1 z2 z3 z4 z5 z6 z7 z8 z9 z10 z11 z12 z13 z14 : AV, trim [(4, z14), (47, z13), (46, z12), (45, z11), (44, z10), (43, z9), (42, z8), (41, z7), (40, z6), (39, z5), (38, z4), (37, z3), (36, z2), (35, z1), (34, z0), (0, y0), (1, y1), (2, y2), (3, y3), (4, y4), (5, y5), (6, y6), (8, y8), (13, y13), (20, y20), (33, y33)] [(0, y0), (1, y1), (2, y2), (3, y3), (4, y4), (5, y5), (6, y6), (8, y8), (13, y13), (20, y20), (33, y33)] = [(0, y0), (1, y1), (2, y2), (3, y3), (4, z14), (5, y5), (6, y6), (8, y8), (13, y13), (20, y20), (33, y33)] := fun y0 y1 y2 y3 y4 y5 y6 y8 y13 y20 y33 z0 z1 z2 z3 z4 z5 z6 z7 z8 z9 z10 z11 z12 z13 z14 => rfl
          refine R_nil (tr _ _ _ _ _ _ _ _ _ _ _ _ _ _ _ _ _ _ _ _ _ _ _ _ _ _) ?_; clear tr
          refine then_n ?_
          refine at_ret rfl ?_
          refine fpure ?_
          rfl
        · try simp only [decide_eq_true_eq, decide_eq_false_iff_not, Bool.not_eq_true', Bool.not_eq_false', beq_iff_eq, beq_eq_false_iff_ne, ne_eq] at h4
          refine Ry ?_
          refine R_q rfl (by simp (disch := first | omega | (simp only [List.length_map, List.length_append, List.length_set, List.length_cons, List.length_nil, List.length_take, List.length_drop]; omega)) only [go_sem, ↓reduceIte, Nat.reduceEqDiff, reduceCtorEq, hst]; rfl) ?_
          refine Ry ?_
          refine R_q rfl (by simp (disch := first | omega | (simp only [List.length_map, List.length_append, List.length_set, List.length_cons, List.length_nil, List.length_take, List.length_drop]; omega)) only [go_sem, ↓reduceIte, Nat.reduceEqDiff, reduceCtorEq, hst]; rfl) ?_
          refine Ry ?_
          refine Rcall ?_
          refine ACall_eq (covers_ok _ _ other raw) ?_
          refine Ry ?_
          refine Rq ?_
          refine Rq ?_
          refine Rq ?_
          refine Rp_split (fun h5 => ?_) (fun h5 => ?_)
          · try simp only [decide_eq_true_eq, decide_eq_false_iff_not, Bool.not_eq_true', Bool.not_eq_false', beq_iff_eq, beq_eq_false_iff_ne, ne_eq] at h5
            refine Rn ?_
            refine Rn ?_
            refine Rn ?_
            refine Rq ?_
            refine Rq ?_
            have tr : ∀ y0 y1 y2 y3 y4 y5 y6 y8 y13 y20 y33 z0 z1 z2 z3 z4 z5 z6 z7 z8 z9 z10 z11 z12 z13 z14 : AV, trim [(4, z14), (47, z13), (46, z12), (45, z11), (44, z10), (43, z9), (42, z8), (41, z7), (40, z6), (39, z5), (38, z4), (37, z3), (36, z2), (35, z1), (34, z0), (0, y0), (1, y1), (2, y2), (3, y3), (4, y4), (5, y5), (6, y6), (8, y8), (13, y13), (20, y20), (33, y33)] [(0, y0), (1, y1), (2, y2), (3, y3), (4, y4), (5, y5), (6, y6), (8, y8), (13, y13), (20, y20), (33, y33)] = [(0, y0), (1, y1), (2, y2), (3, y3), (4, z14), (5, y5), (6, y6), (8, y8), (13, y13), (20, y20), (33, y33)] := fun y0 y1 y2 y3 y4 y5 y6 y8 y13 y20 y33 z0 z1 z2 z3 z4 z5 z6 z7 z8 z9 z10 z11 z12 z13 z14 => rfl
            refine R_nil (tr _ _ _ _ _ _ _ _ _ _ _ _ _ _ _ _ _ _ _ _ _ _ _ _ _ _) ?_; clear tr
            refine then_n ?_
            refine at_ret rfl ?_
            refine fpure ?_
            rfl
          · try simp only [decide_eq_true_eq, decide_eq_false_iff_not, Bool.not_eq_true', Bool.not_eq_false', beq_iff_eq, beq_eq_false_iff_ne, ne_eq] at h5
            refine Ry ?_
            refine R_q rfl (by simp (disch := first | omega | (simp only [List.length_map, List.length_append, List.length_set, List.length_cons, List.length_nil, List.length_take, List.length_drop]; omega)) only [go_sem, ↓reduceIte, Nat.reduceEqDiff, reduceCtorEq, hst]; rfl) ?_
            refine Ry ?_
            refine R_q rfl (by simp (disch := first | omega | (simp only [List.length_map, List.length_append, List.length_set, List.length_cons, List.length_nil, List.length_take, List.length_drop]; omega)) only [go_sem, ↓reduceIte, Nat.reduceEqDiff, reduceCtorEq, hst]; rfl) ?_
            refine Ry ?_
            refine Rcall ?_
            refine ACall_eq (covers_ok _ _ other t) ?_
            rw [coversB_t (covers_rep hr0 hI hC (by assumption) (of_coversB (by assumption)))]
            refine Rq ?_
            refine Rq ?_
            have tr : ∀ y0 y1 y2 y3 y4 y5 y6 y8 y13 y20 y33 z0 z1 z2 z3 z4 z5 z6 z7 z8 z9 z10 z11 z12 z13 z14 : AV, trim [(4, z14), (47, z13), (46, z12), (45, z11), (44, z10), (43, z9), (42, z8), (41, z7), (40, z6), (39, z5), (38, z4), (37, z3), (36, z2), (35, z1), (34, z0), (0, y0), (1, y1), (2, y2), (3, y3), (4, y4), (5, y5), (6, y6), (8, y8), (13, y13), (20, y20), (33, y33)] [(0, y0), (1, y1), (2, y2), (3, y3), (4, y4), (5, y5), (6, y6), (8, y8), (13, y13), (20, y20), (33, y33)] = [(0, y0), (1, y1), (2, y2), (3, y3), (4, z14), (5, y5), (6, y6), (8, y8), (13, y13), (20, y20), (33, y33)] := fun y0 y1 y2 y3 y4 y5 y6 y8 y13 y20 y33 z0 z1 z2 z3 z4 z5 z6 z7 z8 z9 z10 z11 z12 z13 z14 => rfl
            refine R_nil (tr _ _ _ _ _ _ _ _ _ _ _ _ _ _ _ _ _ _ _ _ _ _ _ _ _ _) ?_; clear tr
            refine then_n ?_
            refine at_ret rfl ?_
            refine fpure ?_
            rfl

end Go.Proofs.Ytdkhgpdojjdadaa
