/-
  Walks of chapters 52 and 53. The steps are written by program (walk.py).
-/
import Derived.Test.YtdicnojnkbmdlaaRB
set_option linter.unusedSimpArgs false
set_option linter.unusedVariables false
set_option maxHeartbeats 40000000
set_option maxRecDepth 4000
namespace Go.Proofs.Ytdicnojnkbmdlaa
open Go Go.Am

theorem feas_ok (lim : Nat) (H : Heap) (n s t : Int) (E : List Ed) (f : List Int) :
    ACall sig lim 23 [.agg (graphC n s t E), intsAV f] H fun r H' => r = AV.i (feasS n s t E f) ∧ H' = H := by
  refine ACall_pure (fa := fa23) rfl rfl rfl rfl ?_
  have tr : ∀ a0 a1 : AV, env0 fa23.keep [a0, a1] = [(0, a0), (1, a1), (2, .any), (4, .any), (5, .any), (6, .any), (7, .any), (8, .any), (9, .any), (13, .any), (20, .any), (22, .any), (23, .any), (24, .any), (25, .any), (42, .any), (46, .any), (47, .any), (48, .any), (49, .any), (66, .any)] := fun a0 a1 => rfl
  refine W_to (tr _ _) ?_; clear tr
  refine at_seq rfl ?_
  refine rg rfl ?_
  refine R_box rfl (by simp (disch := first | omega | (simp only [List.length_map, List.length_append, List.length_set, List.length_cons, List.length_nil, List.length_take, List.length_drop]; omega)) only [go_sem, ↓reduceIte, Nat.reduceEqDiff, reduceCtorEq]; rfl) rfl rfl ?_
  refine Rq ?_
  have tr : ∀ y0 y1 y2 y4 y5 y6 y7 y8 y9 y13 y20 y22 y23 y24 y25 y42 y46 y47 y48 y49 y66 z0 z1 : AV, trim [(4, z1), (2, z0), (0, y0), (1, y1), (2, y2), (4, y4), (5, y5), (6, y6), (7, y7), (8, y8), (9, y9), (13, y13), (20, y20), (22, y22), (23, y23), (24, y24), (25, y25), (42, y42), (46, y46), (47, y47), (48, y48), (49, y49), (66, y66)] [(0, y0), (1, y1), (2, y2), (4, y4), (5, y5), (6, y6), (7, y7), (8, y8), (9, y9), (13, y13), (20, y20), (22, y22), (23, y23), (24, y24), (25, y25), (42, y42), (46, y46), (47, y47), (48, y48), (49, y49), (66, y66)] = [(0, y0), (1, y1), (2, z0), (4, z1), (5, y5), (6, y6), (7, y7), (8, y8), (9, y9), (13, y13), (20, y20), (22, y22), (23, y23), (24, y24), (25, y25), (42, y42), (46, y46), (47, y47), (48, y48), (49, y49), (66, y66)] := fun y0 y1 y2 y4 y5 y6 y7 y8 y9 y13 y20 y22 y23 y24 y25 y42 y46 y47 y48 y49 y66 z0 z1 => rfl
  refine R_nil (tr _ _ _ _ _ _ _ _ _ _ _ _ _ _ _ _ _ _ _ _ _ _ _) ?_; clear tr
  refine then_n ?_
  refine at_seq rfl ?_
  refine at_seq rfl ?_
  refine rg rfl ?_
  refine Rq ?_
  refine Rcall ?_
  refine ACall_eq (check_ok _ _ n s t E) ?_
  refine Rq ?_
  have tr : ∀ y0 y1 y2 y4 y5 y6 y7 y8 y9 y13 y20 y22 y23 y24 y25 y42 y46 y47 y48 y49 y66 z0 z1 z2 : AV, trim [(5, z2), (11, z1), (10, z0), (0, y0), (1, y1), (2, y2), (4, y4), (5, y5), (6, y6), (7, y7), (8, y8), (9, y9), (13, y13), (20, y20), (22, y22), (23, y23), (24, y24), (25, y25), (42, y42), (46, y46), (47, y47), (48, y48), (49, y49), (66, y66)] [(0, y0), (1, y1), (2, y2), (4, y4), (5, y5), (6, y6), (7, y7), (8, y8), (9, y9), (13, y13), (20, y20), (22, y22), (23, y23), (24, y24), (25, y25), (42, y42), (46, y46), (47, y47), (48, y48), (49, y49), (66, y66)] = [(0, y0), (1, y1), (2, y2), (4, y4), (5, z2), (6, y6), (7, y7), (8, y8), (9, y9), (13, y13), (20, y20), (22, y22), (23, y23), (24, y24), (25, y25), (42, y42), (46, y46), (47, y47), (48, y48), (49, y49), (66, y66)] := fun y0 y1 y2 y4 y5 y6 y7 y8 y9 y13 y20 y22 y23 y24 y25 y42 y46 y47 y48 y49 y66 z0 z1 z2 => rfl
  refine R_nil (tr _ _ _ _ _ _ _ _ _ _ _ _ _ _ _ _ _ _ _ _ _ _ _ _) ?_; clear tr
  refine then_n ?_
  refine at_seq rfl ?_
  refine rg rfl ?_
  refine Rq ?_
  refine Rq ?_
  have tr : ∀ y0 y1 y2 y4 y5 y6 y7 y8 y9 y13 y20 y22 y23 y24 y25 y42 y46 y47 y48 y49 y66 z0 z1 : AV, trim [(13, z1), (12, z0), (0, y0), (1, y1), (2, y2), (4, y4), (5, y5), (6, y6), (7, y7), (8, y8), (9, y9), (13, y13), (20, y20), (22, y22), (23, y23), (24, y24), (25, y25), (42, y42), (46, y46), (47, y47), (48, y48), (49, y49), (66, y66)] [(0, y0), (1, y1), (2, y2), (4, y4), (5, y5), (6, y6), (7, y7), (8, y8), (9, y9), (13, y13), (20, y20), (22, y22), (23, y23), (24, y24), (25, y25), (42, y42), (46, y46), (47, y47), (48, y48), (49, y49), (66, y66)] = [(0, y0), (1, y1), (2, y2), (4, y4), (5, y5), (6, y6), (7, y7), (8, y8), (9, y9), (13, z1), (20, y20), (22, y22), (23, y23), (24, y24), (25, y25), (42, y42), (46, y46), (47, y47), (48, y48), (49, y49), (66, y66)] := fun y0 y1 y2 y4 y5 y6 y7 y8 y9 y13 y20 y22 y23 y24 y25 y42 y46 y47 y48 y49 y66 z0 z1 => rfl
  refine R_nil (tr _ _ _ _ _ _ _ _ _ _ _ _ _ _ _ _ _ _ _ _ _ _ _) ?_; clear tr
  refine then_n ?_
  refine cdd (fun h1 => ?_) (fun h1 => ?_)
  · try simp only [decide_eq_true_eq, decide_eq_false_iff_not, Bool.not_eq_true', Bool.not_eq_false', beq_iff_eq, beq_eq_false_iff_ne, ne_eq] at h1
    refine at_seq rfl ?_
    refine rg rfl ?_
    refine Rq ?_
    refine Rq ?_
    have tr : ∀ y0 y1 y2 y4 y5 y6 y7 y8 y9 y13 y20 y22 y23 y24 y25 y42 y46 y47 y48 y49 y66 z0 z1 : AV, trim [(4, z1), (14, z0), (0, y0), (1, y1), (2, y2), (4, y4), (5, y5), (6, y6), (7, y7), (8, y8), (9, y9), (13, y13), (20, y20), (22, y22), (23, y23), (24, y24), (25, y25), (42, y42), (46, y46), (47, y47), (48, y48), (49, y49), (66, y66)] [(0, y0), (1, y1), (2, y2), (4, y4), (5, y5), (6, y6), (7, y7), (8, y8), (9, y9), (13, y13), (20, y20), (22, y22), (23, y23), (24, y24), (25, y25), (42, y42), (46, y46), (47, y47), (48, y48), (49, y49), (66, y66)] = [(0, y0), (1, y1), (2, y2), (4, z1), (5, y5), (6, y6), (7, y7), (8, y8), (9, y9), (13, y13), (20, y20), (22, y22), (23, y23), (24, y24), (25, y25), (42, y42), (46, y46), (47, y47), (48, y48), (49, y49), (66, y66)] := fun y0 y1 y2 y4 y5 y6 y7 y8 y9 y13 y20 y22 y23 y24 y25 y42 y46 y47 y48 y49 y66 z0 z1 => rfl
    refine R_nil (tr _ _ _ _ _ _ _ _ _ _ _ _ _ _ _ _ _ _ _ _ _ _ _) ?_; clear tr
    refine then_n ?_
    refine at_ret rfl ?_
    refine then_r ?_
    refine fpure ?_
    refine ⟨?_, rfl⟩
    rw [feasS, if_pos (by assumption)]
  · try simp only [decide_eq_true_eq, decide_eq_false_iff_not, Bool.not_eq_true', Bool.not_eq_false', beq_iff_eq, beq_eq_false_iff_ne, ne_eq] at h1
    refine at_skip rfl ?_
    refine then_n ?_
    refine at_seq rfl ?_
    refine at_seq rfl ?_
    refine rg rfl ?_
    have g := gok_of (by assumption : gchkS n s t E = 0)
    have g1 := g.n2
    have g2 := g.n64
    have g8 := g.el
    have ge := g.ed
    refine Rq ?_
    refine Rq ?_
    refine Rq ?_
    refine Rq ?_
    refine Rq ?_
    refine Rq ?_
    have tr : ∀ y0 y1 y2 y4 y5 y6 y7 y8 y9 y13 y20 y22 y23 y24 y25 y42 y46 y47 y48 y49 y66 z0 z1 z2 z3 z4 z5 : AV, trim [(20, z5), (19, z4), (18, z3), (17, z2), (16, z1), (15, z0), (0, y0), (1, y1), (2, y2), (4, y4), (5, y5), (6, y6), (7, y7), (8, y8), (9, y9), (13, y13), (20, y20), (22, y22), (23, y23), (24, y24), (25, y25), (42, y42), (46, y46), (47, y47), (48, y48), (49, y49), (66, y66)] [(0, y0), (1, y1), (2, y2), (4, y4), (5, y5), (6, y6), (7, y7), (8, y8), (9, y9), (13, y13), (20, y20), (22, y22), (23, y23), (24, y24), (25, y25), (42, y42), (46, y46), (47, y47), (48, y48), (49, y49), (66, y66)] = [(0, y0), (1, y1), (2, y2), (4, y4), (5, y5), (6, y6), (7, y7), (8, y8), (9, y9), (13, y13), (20, z5), (22, y22), (23, y23), (24, y24), (25, y25), (42, y42), (46, y46), (47, y47), (48, y48), (49, y49), (66, y66)] := fun y0 y1 y2 y4 y5 y6 y7 y8 y9 y13 y20 y22 y23 y24 y25 y42 y46 y47 y48 y49 y66 z0 z1 z2 z3 z4 z5 => rfl
    refine R_nil (tr _ _ _ _ _ _ _ _ _ _ _ _ _ _ _ _ _ _ _ _ _ _ _ _ _ _ _) ?_; clear tr
    refine then_n ?_
    refine cdd (fun h2 => ?_) (fun h2 => ?_)
    · try simp only [decide_eq_true_eq, decide_eq_false_iff_not, Bool.not_eq_true', Bool.not_eq_false', beq_iff_eq, beq_eq_false_iff_ne, ne_eq] at h2
      refine at_seq rfl ?_
      refine rg rfl ?_
      refine Rq ?_
      have tr : ∀ y0 y1 y2 y4 y5 y6 y7 y8 y9 y13 y20 y22 y23 y24 y25 y42 y46 y47 y48 y49 y66 z0 : AV, trim [(4, z0), (0, y0), (1, y1), (2, y2), (4, y4), (5, y5), (6, y6), (7, y7), (8, y8), (9, y9), (13, y13), (20, y20), (22, y22), (23, y23), (24, y24), (25, y25), (42, y42), (46, y46), (47, y47), (48, y48), (49, y49), (66, y66)] [(0, y0), (1, y1), (2, y2), (4, y4), (5, y5), (6, y6), (7, y7), (8, y8), (9, y9), (13, y13), (20, y20), (22, y22), (23, y23), (24, y24), (25, y25), (42, y42), (46, y46), (47, y47), (48, y48), (49, y49), (66, y66)] = [(0, y0), (1, y1), (2, y2), (4, z0), (5, y5), (6, y6), (7, y7), (8, y8), (9, y9), (13, y13), (20, y20), (22, y22), (23, y23), (24, y24), (25, y25), (42, y42), (46, y46), (47, y47), (48, y48), (49, y49), (66, y66)] := fun y0 y1 y2 y4 y5 y6 y7 y8 y9 y13 y20 y22 y23 y24 y25 y42 y46 y47 y48 y49 y66 z0 => rfl
      refine R_nil (tr _ _ _ _ _ _ _ _ _ _ _ _ _ _ _ _ _ _ _ _ _ _) ?_; clear tr
      refine then_n ?_
      refine at_ret rfl ?_
      refine then_r ?_
      refine fpure ?_
      refine ⟨?_, rfl⟩
      rw [feasS, if_neg (fun hh => hh (by assumption)), if_pos (by omega)]
    · try simp only [decide_eq_true_eq, decide_eq_false_iff_not, Bool.not_eq_true', Bool.not_eq_false', beq_iff_eq, beq_eq_false_iff_ne, ne_eq] at h2
      refine at_skip rfl ?_
      refine then_n ?_
      refine at_seq rfl ?_
      refine at_seq rfl ?_
      refine rg rfl ?_
      refine Rq ?_
      refine Rq ?_
      refine Rq ?_
      refine Rq ?_
      have tr : ∀ y0 y1 y2 y4 y5 y6 y7 y8 y9 y13 y20 y22 y23 y24 y25 y42 y46 y47 y48 y49 y66 z0 z1 z2 z3 : AV, trim [(24, z3), (23, z2), (22, z1), (21, z0), (0, y0), (1, y1), (2, y2), (4, y4), (5, y5), (6, y6), (7, y7), (8, y8), (9, y9), (13, y13), (20, y20), (22, y22), (23, y23), (24, y24), (25, y25), (42, y42), (46, y46), (47, y47), (48, y48), (49, y49), (66, y66)] [(0, y0), (1, y1), (2, y2), (4, y4), (5, y5), (6, y6), (7, y7), (8, y8), (9, y9), (13, y13), (20, y20), (22, y22), (23, y23), (24, y24), (25, y25), (42, y42), (46, y46), (47, y47), (48, y48), (49, y49), (66, y66)] = [(0, y0), (1, y1), (2, y2), (4, y4), (5, y5), (6, y6), (7, y7), (8, y8), (9, y9), (13, y13), (20, y20), (22, z1), (23, z2), (24, z3), (25, y25), (42, y42), (46, y46), (47, y47), (48, y48), (49, y49), (66, y66)] := fun y0 y1 y2 y4 y5 y6 y7 y8 y9 y13 y20 y22 y23 y24 y25 y42 y46 y47 y48 y49 y66 z0 z1 z2 z3 => rfl
      refine R_nil (tr _ _ _ _ _ _ _ _ _ _ _ _ _ _ _ _ _ _ _ _ _ _ _ _ _) ?_; clear tr
      refine then_n ?_
      refine at_block rfl ?_
      refine loop_n rfl (fun mm kv H' => ∃ u : Nat, ∃ X : Heap, ∃ x4 x6 x7 x25 x42 : AV, (kv = [(4, x4), (6, x6), (7, x7), (24, AV.i u), (25, x25), (42, x42)]) ∧ (mm = E.length - u) ∧ (H' = H ++ [some (graphC n s t E)] ++ X) ∧ (u ≤ E.length) ∧ (∀ i, i < u → 0 ≤ gt f i ∧ gt f i ≤ (gt E i).c)) ⟨0, [], _, _, _, _, _, rfl, rfl, by simp, by omega, by intro i hi; omega⟩ (by rfl) ?_
      rintro mm kv H1 ⟨u, X, x4, x6, x7, x25, x42, rfl, rfl, hX, hu, hq⟩
      have tr : ∀ y0 y1 y2 y4 y5 y6 y7 y8 y9 y13 y20 y22 y23 y24 y25 y42 y46 y47 y48 y49 y66 z4 z6 z7 z24 z25 z42 : AV, upd [(0, y0), (1, y1), (2, y2), (4, y4), (5, y5), (6, y6), (7, y7), (8, y8), (9, y9), (13, y13), (20, y20), (22, y22), (23, y23), (24, y24), (25, y25), (42, y42), (46, y46), (47, y47), (48, y48), (49, y49), (66, y66)] [(4, z4), (6, z6), (7, z7), (24, z24), (25, z25), (42, z42)] = [(0, y0), (1, y1), (2, y2), (4, z4), (5, y5), (6, z6), (7, z7), (8, y8), (9, y9), (13, y13), (20, y20), (22, y22), (23, y23), (24, z24), (25, z25), (42, z42), (46, y46), (47, y47), (48, y48), (49, y49), (66, y66)] := fun y0 y1 y2 y4 y5 y6 y7 y8 y9 y13 y20 y22 y23 y24 y25 y42 y46 y47 y48 y49 y66 z4 z6 z7 z24 z25 z42 => rfl
      refine W_to (tr _ _ _ _ _ _ _ _ _ _ _ _ _ _ _ _ _ _ _ _ _ _ _ _ _ _ _) ?_; clear tr
      subst hX
      refine at_seq rfl ?_
      refine rg rfl ?_
      refine Rq ?_
      have tr : ∀ y0 y1 y2 y4 y5 y6 y7 y8 y9 y13 y20 y22 y23 y24 y25 y42 y46 y47 y48 y49 y66 z0 : AV, trim [(25, z0), (0, y0), (1, y1), (2, y2), (4, y4), (5, y5), (6, y6), (7, y7), (8, y8), (9, y9), (13, y13), (20, y20), (22, y22), (23, y23), (24, y24), (25, y25), (42, y42), (46, y46), (47, y47), (48, y48), (49, y49), (66, y66)] [(0, y0), (1, y1), (2, y2), (4, y4), (5, y5), (6, y6), (7, y7), (8, y8), (9, y9), (13, y13), (20, y20), (22, y22), (23, y23), (24, y24), (25, y25), (42, y42), (46, y46), (47, y47), (48, y48), (49, y49), (66, y66)] = [(0, y0), (1, y1), (2, y2), (4, y4), (5, y5), (6, y6), (7, y7), (8, y8), (9, y9), (13, y13), (20, y20), (22, y22), (23, y23), (24, y24), (25, z0), (42, y42), (46, y46), (47, y47), (48, y48), (49, y49), (66, y66)] := fun y0 y1 y2 y4 y5 y6 y7 y8 y9 y13 y20 y22 y23 y24 y25 y42 y46 y47 y48 y49 y66 z0 => rfl
      refine R_nil (tr _ _ _ _ _ _ _ _ _ _ _ _ _ _ _ _ _ _ _ _ _ _) ?_; clear tr
      refine then_n ?_
      refine at_seq rfl ?_
      refine cdd (fun h3 => ?_) (fun h3 => ?_)
      · try simp only [decide_eq_true_eq, decide_eq_false_iff_not, Bool.not_eq_true', Bool.not_eq_false', beq_iff_eq, beq_eq_false_iff_ne, ne_eq] at h3
        refine at_skip rfl ?_
        refine then_n ?_
        refine at_seq rfl ?_
        refine at_block rfl ?_
        refine at_seq rfl ?_
        refine rg rfl ?_
        refine Rq ?_
        refine Rq ?_
        refine Rq ?_
        refine R_alloc (by simp (disch := first | omega | (simp only [List.length_map, List.length_append, List.length_set, List.length_cons, List.length_nil, List.length_take, List.length_drop]; omega)) only [go_sem, ↓reduceIte, Nat.reduceEqDiff, reduceCtorEq]; rfl) rfl (by simp only [List.map_cons, List.map_nil]; rfl) ?_
        refine Rq ?_
        refine R_store ty66 (by simp (disch := first | omega | (simp only [List.length_map, List.length_append, List.length_set, List.length_cons, List.length_nil, List.length_take, List.length_drop]; omega)) only [go_sem, ↓reduceIte, Nat.reduceEqDiff, reduceCtorEq]; rfl) (by simp (disch := first | omega | (simp only [List.length_map, List.length_append, List.length_set, List.length_cons, List.length_nil, List.length_take, List.length_drop]; omega)) only [go_sem, ↓reduceIte, Nat.reduceEqDiff, reduceCtorEq]; rfl) (by simp (disch := first | omega | (simp only [List.length_map, List.length_append, List.length_set, List.length_cons, List.length_nil, List.length_take, List.length_drop]; omega)) only [go_sem, ↓reduceIte, Nat.reduceEqDiff, reduceCtorEq]; rfl) (by simp) (by rfl) (by simp (disch := first | omega | (simp only [List.length_map, List.length_append, List.length_set, List.length_cons, List.length_nil, List.length_take, List.length_drop]; omega)) only [go_sem, ↓reduceIte, Nat.reduceEqDiff, reduceCtorEq]; rfl) ?_
        have tr : ∀ y0 y1 y2 y4 y5 y6 y7 y8 y9 y13 y20 y22 y23 y24 y25 y42 y46 y47 y48 y49 y66 z0 z1 z2 z3 z4 : AV, trim [(6, z4), (7, z3), (28, z2), (27, z1), (26, z0), (0, y0), (1, y1), (2, y2), (4, y4), (5, y5), (6, y6), (7, y7), (8, y8), (9, y9), (13, y13), (20, y20), (22, y22), (23, y23), (24, y24), (25, y25), (42, y42), (46, y46), (47, y47), (48, y48), (49, y49), (66, y66)] [(0, y0), (1, y1), (2, y2), (4, y4), (5, y5), (6, y6), (7, y7), (8, y8), (9, y9), (13, y13), (20, y20), (22, y22), (23, y23), (24, y24), (25, y25), (42, y42), (46, y46), (47, y47), (48, y48), (49, y49), (66, y66)] = [(0, y0), (1, y1), (2, y2), (4, y4), (5, y5), (6, z4), (7, z3), (8, y8), (9, y9), (13, y13), (20, y20), (22, y22), (23, y23), (24, y24), (25, y25), (42, y42), (46, y46), (47, y47), (48, y48), (49, y49), (66, y66)] := fun y0 y1 y2 y4 y5 y6 y7 y8 y9 y13 y20 y22 y23 y24 y25 y42 y46 y47 y48 y49 y66 z0 z1 z2 z3 z4 => rfl
        refine R_nil (tr _ _ _ _ _ _ _ _ _ _ _ _ _ _ _ _ _ _ _ _ _ _ _ _ _ _) ?_; clear tr
        refine then_n ?_
        refine at_seq rfl ?_
        refine rd rfl rfl ?_
        have he := ge u (by omega)
        refine Qq ?_
        refine Qq ?_
        refine Qq ?_
        refine Qq ?_
        refine Qq ?_
        refine Qq ?_
        refine Qp_split (fun h4 => ?_) (fun h4 => ?_)
        · try simp only [decide_eq_true_eq, decide_eq_false_iff_not, Bool.not_eq_true', Bool.not_eq_false', beq_iff_eq, beq_eq_false_iff_ne, ne_eq] at h4
          refine Qn ?_
          refine Qn ?_
          refine Qn ?_
          refine Qn ?_
          refine Qn ?_
          refine Qn ?_
          refine Qn ?_
          refine Qq ?_
          refine Q_nil ?_
          have tr : ∀ y0 y1 y2 y4 y5 y6 y7 y8 y9 y13 y20 y22 y23 y24 y25 y42 y46 y47 y48 y49 y66 z0 z1 z2 z3 z4 z5 z6 z7 z8 z9 z10 z11 z12 z13 : AV, trim [(42, z13), (41, z12), (40, z11), (39, z10), (38, z9), (37, z8), (36, z7), (35, z6), (34, z5), (33, z4), (32, z3), (31, z2), (30, z1), (29, z0), (0, y0), (1, y1), (2, y2), (4, y4), (5, y5), (6, y6), (7, y7), (8, y8), (9, y9), (13, y13), (20, y20), (22, y22), (23, y23), (24, y24), (25, y25), (42, y42), (46, y46), (47, y47), (48, y48), (49, y49), (66, y66)] [(0, y0), (1, y1), (2, y2), (4, y4), (5, y5), (6, y6), (7, y7), (8, y8), (9, y9), (13, y13), (20, y20), (22, y22), (23, y23), (24, y24), (25, y25), (42, y42), (46, y46), (47, y47), (48, y48), (49, y49), (66, y66)] = [(0, y0), (1, y1), (2, y2), (4, y4), (5, y5), (6, y6), (7, y7), (8, y8), (9, y9), (13, y13), (20, y20), (22, y22), (23, y23), (24, y24), (25, y25), (42, z13), (46, y46), (47, y47), (48, y48), (49, y49), (66, y66)] := fun y0 y1 y2 y4 y5 y6 y7 y8 y9 y13 y20 y22 y23 y24 y25 y42 y46 y47 y48 y49 y66 z0 z1 z2 z3 z4 z5 z6 z7 z8 z9 z10 z11 z12 z13 => rfl
          refine R_nil (tr _ _ _ _ _ _ _ _ _ _ _ _ _ _ _ _ _ _ _ _ _ _ _ _ _ _ _ _ _ _ _ _ _ _ _) ?_; clear tr
          refine then_n ?_
          refine cdt ?_
          refine at_seq rfl ?_
          refine rg rfl ?_
          refine Rq ?_
          have tr : ∀ y0 y1 y2 y4 y5 y6 y7 y8 y9 y13 y20 y22 y23 y24 y25 y42 y46 y47 y48 y49 y66 z0 : AV, trim [(4, z0), (0, y0), (1, y1), (2, y2), (4, y4), (5, y5), (6, y6), (7, y7), (8, y8), (9, y9), (13, y13), (20, y20), (22, y22), (23, y23), (24, y24), (25, y25), (42, y42), (46, y46), (47, y47), (48, y48), (49, y49), (66, y66)] [(0, y0), (1, y1), (2, y2), (4, y4), (5, y5), (6, y6), (7, y7), (8, y8), (9, y9), (13, y13), (20, y20), (22, y22), (23, y23), (24, y24), (25, y25), (42, y42), (46, y46), (47, y47), (48, y48), (49, y49), (66, y66)] = [(0, y0), (1, y1), (2, y2), (4, z0), (5, y5), (6, y6), (7, y7), (8, y8), (9, y9), (13, y13), (20, y20), (22, y22), (23, y23), (24, y24), (25, y25), (42, y42), (46, y46), (47, y47), (48, y48), (49, y49), (66, y66)] := fun y0 y1 y2 y4 y5 y6 y7 y8 y9 y13 y20 y22 y23 y24 y25 y42 y46 y47 y48 y49 y66 z0 => rfl
          refine R_nil (tr _ _ _ _ _ _ _ _ _ _ _ _ _ _ _ _ _ _ _ _ _ _) ?_; clear tr
          refine then_n ?_
          refine at_ret rfl ?_
          refine blk_r ?_
          refine then_r ?_
          refine then_r ?_
          refine blk_r ?_
          refine then_r ?_
          refine fpure ?_
          refine ⟨?_, rfl⟩
          rw [feasS, if_neg (fun hh => hh (by assumption)), if_neg (by omega), if_pos (fun hh => absurd (hh u (by omega)) (by omega))]
        · try simp only [decide_eq_true_eq, decide_eq_false_iff_not, Bool.not_eq_true', Bool.not_eq_false', beq_iff_eq, beq_eq_false_iff_ne, ne_eq] at h4
          refine Qy ?_
          refine Qq ?_
          refine Qy ?_
          refine Qq ?_
          refine Qy ?_
          refine Qq ?_
          refine Qy ?_
          refine Qq ?_
          refine Qy ?_
          refine Qq ?_
          refine Qy ?_
          refine Qq ?_
          refine Qy ?_
          refine Qq ?_
          refine Qq ?_
          refine Q_nil ?_
          have tr : ∀ y0 y1 y2 y4 y5 y6 y7 y8 y9 y13 y20 y22 y23 y24 y25 y42 y46 y47 y48 y49 y66 z0 z1 z2 z3 z4 z5 z6 z7 z8 z9 z10 z11 z12 z13 : AV, trim [(42, z13), (41, z12), (40, z11), (39, z10), (38, z9), (37, z8), (36, z7), (35, z6), (34, z5), (33, z4), (32, z3), (31, z2), (30, z1), (29, z0), (0, y0), (1, y1), (2, y2), (4, y4), (5, y5), (6, y6), (7, y7), (8, y8), (9, y9), (13, y13), (20, y20), (22, y22), (23, y23), (24, y24), (25, y25), (42, y42), (46, y46), (47, y47), (48, y48), (49, y49), (66, y66)] [(0, y0), (1, y1), (2, y2), (4, y4), (5, y5), (6, y6), (7, y7), (8, y8), (9, y9), (13, y13), (20, y20), (22, y22), (23, y23), (24, y24), (25, y25), (42, y42), (46, y46), (47, y47), (48, y48), (49, y49), (66, y66)] = [(0, y0), (1, y1), (2, y2), (4, y4), (5, y5), (6, y6), (7, y7), (8, y8), (9, y9), (13, y13), (20, y20), (22, y22), (23, y23), (24, y24), (25, y25), (42, z13), (46, y46), (47, y47), (48, y48), (49, y49), (66, y66)] := fun y0 y1 y2 y4 y5 y6 y7 y8 y9 y13 y20 y22 y23 y24 y25 y42 y46 y47 y48 y49 y66 z0 z1 z2 z3 z4 z5 z6 z7 z8 z9 z10 z11 z12 z13 => rfl
          refine R_nil (tr _ _ _ _ _ _ _ _ _ _ _ _ _ _ _ _ _ _ _ _ _ _ _ _ _ _ _ _ _ _ _ _ _ _ _) ?_; clear tr
          refine then_n ?_
          refine cdd (fun h5 => ?_) (fun h5 => ?_)
          · try simp only [decide_eq_true_eq, decide_eq_false_iff_not, Bool.not_eq_true', Bool.not_eq_false', beq_iff_eq, beq_eq_false_iff_ne, ne_eq] at h5
            refine at_seq rfl ?_
            refine rg rfl ?_
            refine Rq ?_
            have tr : ∀ y0 y1 y2 y4 y5 y6 y7 y8 y9 y13 y20 y22 y23 y24 y25 y42 y46 y47 y48 y49 y66 z0 : AV, trim [(4, z0), (0, y0), (1, y1), (2, y2), (4, y4), (5, y5), (6, y6), (7, y7), (8, y8), (9, y9), (13, y13), (20, y20), (22, y22), (23, y23), (24, y24), (25, y25), (42, y42), (46, y46), (47, y47), (48, y48), (49, y49), (66, y66)] [(0, y0), (1, y1), (2, y2), (4, y4), (5, y5), (6, y6), (7, y7), (8, y8), (9, y9), (13, y13), (20, y20), (22, y22), (23, y23), (24, y24), (25, y25), (42, y42), (46, y46), (47, y47), (48, y48), (49, y49), (66, y66)] = [(0, y0), (1, y1), (2, y2), (4, z0), (5, y5), (6, y6), (7, y7), (8, y8), (9, y9), (13, y13), (20, y20), (22, y22), (23, y23), (24, y24), (25, y25), (42, y42), (46, y46), (47, y47), (48, y48), (49, y49), (66, y66)] := fun y0 y1 y2 y4 y5 y6 y7 y8 y9 y13 y20 y22 y23 y24 y25 y42 y46 y47 y48 y49 y66 z0 => rfl
            refine R_nil (tr _ _ _ _ _ _ _ _ _ _ _ _ _ _ _ _ _ _ _ _ _ _) ?_; clear tr
            refine then_n ?_
            refine at_ret rfl ?_
            refine blk_r ?_
            refine then_r ?_
            refine then_r ?_
            refine blk_r ?_
            refine then_r ?_
            refine fpure ?_
            refine ⟨?_, rfl⟩
            rw [feasS, if_neg (fun hh => hh (by assumption)), if_neg (by omega), if_pos (fun hh => absurd (hh u (by omega)) (by omega))]
          · try simp only [decide_eq_true_eq, decide_eq_false_iff_not, Bool.not_eq_true', Bool.not_eq_false', beq_iff_eq, beq_eq_false_iff_ne, ne_eq] at h5
            refine at_skip rfl ?_
            refine blk_n ?_
            refine then_n ?_
            refine rg rfl ?_
            refine Rq ?_
            refine Rq ?_
            have tr : ∀ y0 y1 y2 y4 y5 y6 y7 y8 y9 y13 y20 y22 y23 y24 y25 y42 y46 y47 y48 y49 y66 z0 z1 : AV, trim [(24, z1), (43, z0), (0, y0), (1, y1), (2, y2), (4, y4), (5, y5), (6, y6), (7, y7), (8, y8), (9, y9), (13, y13), (20, y20), (22, y22), (23, y23), (24, y24), (25, y25), (42, y42), (46, y46), (47, y47), (48, y48), (49, y49), (66, y66)] [(0, y0), (1, y1), (2, y2), (4, y4), (5, y5), (6, y6), (7, y7), (8, y8), (9, y9), (13, y13), (20, y20), (22, y22), (23, y23), (24, y24), (25, y25), (42, y42), (46, y46), (47, y47), (48, y48), (49, y49), (66, y66)] = [(0, y0), (1, y1), (2, y2), (4, y4), (5, y5), (6, y6), (7, y7), (8, y8), (9, y9), (13, y13), (20, y20), (22, y22), (23, y23), (24, z1), (25, y25), (42, y42), (46, y46), (47, y47), (48, y48), (49, y49), (66, y66)] := fun y0 y1 y2 y4 y5 y6 y7 y8 y9 y13 y20 y22 y23 y24 y25 y42 y46 y47 y48 y49 y66 z0 z1 => rfl
            refine R_nil (tr _ _ _ _ _ _ _ _ _ _ _ _ _ _ _ _ _ _ _ _ _ _ _) ?_; clear tr
            refine then_n ?_
            exact ⟨_, _, ⟨u + 1, X ++ [some (edC (gt E u))], _, _, _, _, _, rfl, rfl, by simp; rfl, by omega, by exact all_step hq (by omega)⟩, by rfl, by omega⟩
      · try simp only [decide_eq_true_eq, decide_eq_false_iff_not, Bool.not_eq_true', Bool.not_eq_false', beq_iff_eq, beq_eq_false_iff_ne, ne_eq] at h3
        refine at_exit rfl ?_
        refine then_x ?_
        refine then_x ?_
        refine blk_x ?_
        refine then_n ?_
        refine at_seq rfl ?_
        refine at_seq rfl ?_
        refine rg rfl ?_
        have hrr : fRng E f := fun i hi => hq i (by omega)
        refine Rq ?_
        refine Rq ?_
        refine Rcall ?_
        refine ACall_eq (surplus_ok _ _ n s t E f g (by omega) (fRng_cap g hrr)) ?_
        refine Rq ?_
        refine Rq ?_
        have tr : ∀ y0 y1 y2 y4 y5 y6 y7 y8 y9 y13 y20 y22 y23 y24 y25 y42 y46 y47 y48 y49 y66 z0 z1 z2 z3 z4 : AV, trim [(48, z4), (47, z3), (46, z2), (45, z1), (44, z0), (0, y0), (1, y1), (2, y2), (4, y4), (5, y5), (6, y6), (7, y7), (8, y8), (9, y9), (13, y13), (20, y20), (22, y22), (23, y23), (24, y24), (25, y25), (42, y42), (46, y46), (47, y47), (48, y48), (49, y49), (66, y66)] [(0, y0), (1, y1), (2, y2), (4, y4), (5, y5), (6, y6), (7, y7), (8, y8), (9, y9), (13, y13), (20, y20), (22, y22), (23, y23), (24, y24), (25, y25), (42, y42), (46, y46), (47, y47), (48, y48), (49, y49), (66, y66)] = [(0, y0), (1, y1), (2, y2), (4, y4), (5, y5), (6, y6), (7, y7), (8, y8), (9, y9), (13, y13), (20, y20), (22, y22), (23, y23), (24, y24), (25, y25), (42, y42), (46, z2), (47, z3), (48, z4), (49, y49), (66, y66)] := fun y0 y1 y2 y4 y5 y6 y7 y8 y9 y13 y20 y22 y23 y24 y25 y42 y46 y47 y48 y49 y66 z0 z1 z2 z3 z4 => rfl
        refine R_nil (tr _ _ _ _ _ _ _ _ _ _ _ _ _ _ _ _ _ _ _ _ _ _ _ _ _ _) ?_; clear tr
        have hsl : (surpS n E f).length = n.toNat := surp_len n.toNat E f E.length
        refine then_n ?_
        refine at_block rfl ?_
        refine loop_n rfl (fun mm kv H' => ∃ w : Nat, ∃ x4 x8 x9 x49 x66 : AV, (kv = [(4, x4), (8, x8), (9, x9), (48, AV.i w), (49, x49), (66, x66)]) ∧ (mm = n.toNat - w) ∧ (H' = H ++ [some (graphC n s t E)] ++ X) ∧ (w ≤ n.toNat) ∧ (∀ j, j < w → ¬ (gt (surpS n E f) j ≠ 0 ∧ (j : Int) ≠ s ∧ (j : Int) ≠ t))) ⟨0, _, _, _, _, _, rfl, rfl, rfl, by omega, by intro i hi; omega⟩ (by rfl) ?_
        rintro mm kv H' ⟨w, x4, x8, x9, x49, x66, rfl, rfl, rfl, hw, hz⟩
        have tr : ∀ y0 y1 y2 y4 y5 y6 y7 y8 y9 y13 y20 y22 y23 y24 y25 y42 y46 y47 y48 y49 y66 z4 z8 z9 z48 z49 z66 : AV, upd [(0, y0), (1, y1), (2, y2), (4, y4), (5, y5), (6, y6), (7, y7), (8, y8), (9, y9), (13, y13), (20, y20), (22, y22), (23, y23), (24, y24), (25, y25), (42, y42), (46, y46), (47, y47), (48, y48), (49, y49), (66, y66)] [(4, z4), (8, z8), (9, z9), (48, z48), (49, z49), (66, z66)] = [(0, y0), (1, y1), (2, y2), (4, z4), (5, y5), (6, y6), (7, y7), (8, z8), (9, z9), (13, y13), (20, y20), (22, y22), (23, y23), (24, y24), (25, y25), (42, y42), (46, y46), (47, y47), (48, z48), (49, z49), (66, z66)] := fun y0 y1 y2 y4 y5 y6 y7 y8 y9 y13 y20 y22 y23 y24 y25 y42 y46 y47 y48 y49 y66 z4 z8 z9 z48 z49 z66 => rfl
        refine W_to (tr _ _ _ _ _ _ _ _ _ _ _ _ _ _ _ _ _ _ _ _ _ _ _ _ _ _ _) ?_; clear tr
        refine at_seq rfl ?_
        refine rg rfl ?_
        refine Rq ?_
        have tr : ∀ y0 y1 y2 y4 y5 y6 y7 y8 y9 y13 y20 y22 y23 y24 y25 y42 y46 y47 y48 y49 y66 z0 : AV, trim [(49, z0), (0, y0), (1, y1), (2, y2), (4, y4), (5, y5), (6, y6), (7, y7), (8, y8), (9, y9), (13, y13), (20, y20), (22, y22), (23, y23), (24, y24), (25, y25), (42, y42), (46, y46), (47, y47), (48, y48), (49, y49), (66, y66)] [(0, y0), (1, y1), (2, y2), (4, y4), (5, y5), (6, y6), (7, y7), (8, y8), (9, y9), (13, y13), (20, y20), (22, y22), (23, y23), (24, y24), (25, y25), (42, y42), (46, y46), (47, y47), (48, y48), (49, y49), (66, y66)] = [(0, y0), (1, y1), (2, y2), (4, y4), (5, y5), (6, y6), (7, y7), (8, y8), (9, y9), (13, y13), (20, y20), (22, y22), (23, y23), (24, y24), (25, y25), (42, y42), (46, y46), (47, y47), (48, y48), (49, z0), (66, y66)] := fun y0 y1 y2 y4 y5 y6 y7 y8 y9 y13 y20 y22 y23 y24 y25 y42 y46 y47 y48 y49 y66 z0 => rfl
        refine R_nil (tr _ _ _ _ _ _ _ _ _ _ _ _ _ _ _ _ _ _ _ _ _ _) ?_; clear tr
        refine then_n ?_
        refine at_seq rfl ?_
        refine cdd (fun h6 => ?_) (fun h6 => ?_)
        · try simp only [decide_eq_true_eq, decide_eq_false_iff_not, Bool.not_eq_true', Bool.not_eq_false', beq_iff_eq, beq_eq_false_iff_ne, ne_eq] at h6
          refine at_skip rfl ?_
          refine then_n ?_
          refine at_seq rfl ?_
          refine at_block rfl ?_
          refine at_seq rfl ?_
          refine rg rfl ?_
          refine Rq ?_
          refine Rq ?_
          refine Rq ?_
          refine Rq ?_
          refine Rq ?_
          have tr : ∀ y0 y1 y2 y4 y5 y6 y7 y8 y9 y13 y20 y22 y23 y24 y25 y42 y46 y47 y48 y49 y66 z0 z1 z2 z3 z4 : AV, trim [(9, z4), (8, z3), (52, z2), (51, z1), (50, z0), (0, y0), (1, y1), (2, y2), (4, y4), (5, y5), (6, y6), (7, y7), (8, y8), (9, y9), (13, y13), (20, y20), (22, y22), (23, y23), (24, y24), (25, y25), (42, y42), (46, y46), (47, y47), (48, y48), (49, y49), (66, y66)] [(0, y0), (1, y1), (2, y2), (4, y4), (5, y5), (6, y6), (7, y7), (8, y8), (9, y9), (13, y13), (20, y20), (22, y22), (23, y23), (24, y24), (25, y25), (42, y42), (46, y46), (47, y47), (48, y48), (49, y49), (66, y66)] = [(0, y0), (1, y1), (2, y2), (4, y4), (5, y5), (6, y6), (7, y7), (8, z3), (9, z4), (13, y13), (20, y20), (22, y22), (23, y23), (24, y24), (25, y25), (42, y42), (46, y46), (47, y47), (48, y48), (49, y49), (66, y66)] := fun y0 y1 y2 y4 y5 y6 y7 y8 y9 y13 y20 y22 y23 y24 y25 y42 y46 y47 y48 y49 y66 z0 z1 z2 z3 z4 => rfl
          refine R_nil (tr _ _ _ _ _ _ _ _ _ _ _ _ _ _ _ _ _ _ _ _ _ _ _ _ _ _) ?_; clear tr
          refine then_n ?_
          refine at_seq rfl ?_
          refine rg rfl ?_
          refine Rq ?_
          refine Rq ?_
          refine Rq ?_
          refine Rp_split (fun h7 => ?_) (fun h7 => ?_)
          · try simp only [decide_eq_true_eq, decide_eq_false_iff_not, Bool.not_eq_true', Bool.not_eq_false', beq_iff_eq, beq_eq_false_iff_ne, ne_eq] at h7
            refine Ry ?_
            refine Rq ?_
            refine Ry ?_
            refine Rq ?_
            refine Ry ?_
            refine Rq ?_
            refine Ry ?_
            refine Rq ?_
            refine Rq ?_
            refine Rq ?_
            refine Rp_split (fun h8 => ?_) (fun h8 => ?_)
            · try simp only [decide_eq_true_eq, decide_eq_false_iff_not, Bool.not_eq_true', Bool.not_eq_false', beq_iff_eq, beq_eq_false_iff_ne, ne_eq] at h8
              refine Ry ?_
              refine Rq ?_
              refine Ry ?_
              refine Rq ?_
              refine Ry ?_
              refine Rq ?_
              refine Ry ?_
              refine Rq ?_
              refine Rq ?_
              have tr : ∀ y0 y1 y2 y4 y5 y6 y7 y8 y9 y13 y20 y22 y23 y24 y25 y42 y46 y47 y48 y49 y66 z0 z1 z2 z3 z4 z5 z6 z7 z8 z9 z10 z11 z12 z13 : AV, trim [(66, z13), (65, z12), (64, z11), (63, z10), (62, z9), (61, z8), (60, z7), (59, z6), (58, z5), (57, z4), (56, z3), (55, z2), (54, z1), (53, z0), (0, y0), (1, y1), (2, y2), (4, y4), (5, y5), (6, y6), (7, y7), (8, y8), (9, y9), (13, y13), (20, y20), (22, y22), (23, y23), (24, y24), (25, y25), (42, y42), (46, y46), (47, y47), (48, y48), (49, y49), (66, y66)] [(0, y0), (1, y1), (2, y2), (4, y4), (5, y5), (6, y6), (7, y7), (8, y8), (9, y9), (13, y13), (20, y20), (22, y22), (23, y23), (24, y24), (25, y25), (42, y42), (46, y46), (47, y47), (48, y48), (49, y49), (66, y66)] = [(0, y0), (1, y1), (2, y2), (4, y4), (5, y5), (6, y6), (7, y7), (8, y8), (9, y9), (13, y13), (20, y20), (22, y22), (23, y23), (24, y24), (25, y25), (42, y42), (46, y46), (47, y47), (48, y48), (49, y49), (66, z13)] := fun y0 y1 y2 y4 y5 y6 y7 y8 y9 y13 y20 y22 y23 y24 y25 y42 y46 y47 y48 y49 y66 z0 z1 z2 z3 z4 z5 z6 z7 z8 z9 z10 z11 z12 z13 => rfl
              refine R_nil (tr _ _ _ _ _ _ _ _ _ _ _ _ _ _ _ _ _ _ _ _ _ _ _ _ _ _ _ _ _ _ _ _ _ _ _) ?_; clear tr
              refine then_n ?_
              refine cdd (fun h9 => ?_) (fun h9 => ?_)
              · try simp only [decide_eq_true_eq, decide_eq_false_iff_not, Bool.not_eq_true', Bool.not_eq_false', beq_iff_eq, beq_eq_false_iff_ne, ne_eq] at h9
                refine at_seq rfl ?_
                refine rg rfl ?_
                refine Rq ?_
                have tr : ∀ y0 y1 y2 y4 y5 y6 y7 y8 y9 y13 y20 y22 y23 y24 y25 y42 y46 y47 y48 y49 y66 z0 : AV, trim [(4, z0), (0, y0), (1, y1), (2, y2), (4, y4), (5, y5), (6, y6), (7, y7), (8, y8), (9, y9), (13, y13), (20, y20), (22, y22), (23, y23), (24, y24), (25, y25), (42, y42), (46, y46), (47, y47), (48, y48), (49, y49), (66, y66)] [(0, y0), (1, y1), (2, y2), (4, y4), (5, y5), (6, y6), (7, y7), (8, y8), (9, y9), (13, y13), (20, y20), (22, y22), (23, y23), (24, y24), (25, y25), (42, y42), (46, y46), (47, y47), (48, y48), (49, y49), (66, y66)] = [(0, y0), (1, y1), (2, y2), (4, z0), (5, y5), (6, y6), (7, y7), (8, y8), (9, y9), (13, y13), (20, y20), (22, y22), (23, y23), (24, y24), (25, y25), (42, y42), (46, y46), (47, y47), (48, y48), (49, y49), (66, y66)] := fun y0 y1 y2 y4 y5 y6 y7 y8 y9 y13 y20 y22 y23 y24 y25 y42 y46 y47 y48 y49 y66 z0 => rfl
                refine R_nil (tr _ _ _ _ _ _ _ _ _ _ _ _ _ _ _ _ _ _ _ _ _ _) ?_; clear tr
                refine then_n ?_
                refine at_ret rfl ?_
                refine blk_r ?_
                refine then_r ?_
                refine then_r ?_
                refine blk_r ?_
                refine then_r ?_
                refine fpure ?_
                refine ⟨?_, rfl⟩
                rw [feasS, if_neg (fun hh => hh (by assumption)), if_neg (by omega), if_neg (fun hh => hh hrr), if_pos ⟨w, by omega, by omega, by omega, by omega⟩]
              · try simp only [decide_eq_true_eq, decide_eq_false_iff_not, Bool.not_eq_true', Bool.not_eq_false', beq_iff_eq, beq_eq_false_iff_ne, ne_eq] at h9
                refine at_skip rfl ?_
                refine blk_n ?_
                refine then_n ?_
                refine rg rfl ?_
                refine Rq ?_
                refine Rq ?_
                have tr : ∀ y0 y1 y2 y4 y5 y6 y7 y8 y9 y13 y20 y22 y23 y24 y25 y42 y46 y47 y48 y49 y66 z0 z1 : AV, trim [(48, z1), (67, z0), (0, y0), (1, y1), (2, y2), (4, y4), (5, y5), (6, y6), (7, y7), (8, y8), (9, y9), (13, y13), (20, y20), (22, y22), (23, y23), (24, y24), (25, y25), (42, y42), (46, y46), (47, y47), (48, y48), (49, y49), (66, y66)] [(0, y0), (1, y1), (2, y2), (4, y4), (5, y5), (6, y6), (7, y7), (8, y8), (9, y9), (13, y13), (20, y20), (22, y22), (23, y23), (24, y24), (25, y25), (42, y42), (46, y46), (47, y47), (48, y48), (49, y49), (66, y66)] = [(0, y0), (1, y1), (2, y2), (4, y4), (5, y5), (6, y6), (7, y7), (8, y8), (9, y9), (13, y13), (20, y20), (22, y22), (23, y23), (24, y24), (25, y25), (42, y42), (46, y46), (47, y47), (48, z1), (49, y49), (66, y66)] := fun y0 y1 y2 y4 y5 y6 y7 y8 y9 y13 y20 y22 y23 y24 y25 y42 y46 y47 y48 y49 y66 z0 z1 => rfl
                refine R_nil (tr _ _ _ _ _ _ _ _ _ _ _ _ _ _ _ _ _ _ _ _ _ _ _) ?_; clear tr
                refine then_n ?_
                exact ⟨_, _, ⟨w + 1, _, _, _, _, _, rfl, rfl, rfl, by omega, by exact all_step hz (by omega)⟩, by rfl, by omega⟩
            · try simp only [decide_eq_true_eq, decide_eq_false_iff_not, Bool.not_eq_true', Bool.not_eq_false', beq_iff_eq, beq_eq_false_iff_ne, ne_eq] at h8
              refine Rn ?_
              refine Rn ?_
              refine Rn ?_
              refine Rn ?_
              refine Rq ?_
              have tr : ∀ y0 y1 y2 y4 y5 y6 y7 y8 y9 y13 y20 y22 y23 y24 y25 y42 y46 y47 y48 y49 y66 z0 z1 z2 z3 z4 z5 z6 z7 z8 z9 z10 z11 z12 z13 : AV, trim [(66, z13), (65, z12), (64, z11), (63, z10), (62, z9), (61, z8), (60, z7), (59, z6), (58, z5), (57, z4), (56, z3), (55, z2), (54, z1), (53, z0), (0, y0), (1, y1), (2, y2), (4, y4), (5, y5), (6, y6), (7, y7), (8, y8), (9, y9), (13, y13), (20, y20), (22, y22), (23, y23), (24, y24), (25, y25), (42, y42), (46, y46), (47, y47), (48, y48), (49, y49), (66, y66)] [(0, y0), (1, y1), (2, y2), (4, y4), (5, y5), (6, y6), (7, y7), (8, y8), (9, y9), (13, y13), (20, y20), (22, y22), (23, y23), (24, y24), (25, y25), (42, y42), (46, y46), (47, y47), (48, y48), (49, y49), (66, y66)] = [(0, y0), (1, y1), (2, y2), (4, y4), (5, y5), (6, y6), (7, y7), (8, y8), (9, y9), (13, y13), (20, y20), (22, y22), (23, y23), (24, y24), (25, y25), (42, y42), (46, y46), (47, y47), (48, y48), (49, y49), (66, z13)] := fun y0 y1 y2 y4 y5 y6 y7 y8 y9 y13 y20 y22 y23 y24 y25 y42 y46 y47 y48 y49 y66 z0 z1 z2 z3 z4 z5 z6 z7 z8 z9 z10 z11 z12 z13 => rfl
              refine R_nil (tr _ _ _ _ _ _ _ _ _ _ _ _ _ _ _ _ _ _ _ _ _ _ _ _ _ _ _ _ _ _ _ _ _ _ _) ?_; clear tr
              refine then_n ?_
              refine cdf ?_
              refine at_skip rfl ?_
              refine blk_n ?_
              refine then_n ?_
              refine rg rfl ?_
              refine Rq ?_
              refine Rq ?_
              have tr : ∀ y0 y1 y2 y4 y5 y6 y7 y8 y9 y13 y20 y22 y23 y24 y25 y42 y46 y47 y48 y49 y66 z0 z1 : AV, trim [(48, z1), (67, z0), (0, y0), (1, y1), (2, y2), (4, y4), (5, y5), (6, y6), (7, y7), (8, y8), (9, y9), (13, y13), (20, y20), (22, y22), (23, y23), (24, y24), (25, y25), (42, y42), (46, y46), (47, y47), (48, y48), (49, y49), (66, y66)] [(0, y0), (1, y1), (2, y2), (4, y4), (5, y5), (6, y6), (7, y7), (8, y8), (9, y9), (13, y13), (20, y20), (22, y22), (23, y23), (24, y24), (25, y25), (42, y42), (46, y46), (47, y47), (48, y48), (49, y49), (66, y66)] = [(0, y0), (1, y1), (2, y2), (4, y4), (5, y5), (6, y6), (7, y7), (8, y8), (9, y9), (13, y13), (20, y20), (22, y22), (23, y23), (24, y24), (25, y25), (42, y42), (46, y46), (47, y47), (48, z1), (49, y49), (66, y66)] := fun y0 y1 y2 y4 y5 y6 y7 y8 y9 y13 y20 y22 y23 y24 y25 y42 y46 y47 y48 y49 y66 z0 z1 => rfl
              refine R_nil (tr _ _ _ _ _ _ _ _ _ _ _ _ _ _ _ _ _ _ _ _ _ _ _) ?_; clear tr
              refine then_n ?_
              exact ⟨_, _, ⟨w + 1, _, _, _, _, _, rfl, rfl, rfl, by omega, by exact all_step hz (by omega)⟩, by rfl, by omega⟩
          · try simp only [decide_eq_true_eq, decide_eq_false_iff_not, Bool.not_eq_true', Bool.not_eq_false', beq_iff_eq, beq_eq_false_iff_ne, ne_eq] at h7
            refine Rn ?_
            refine Rn ?_
            refine Rn ?_
            refine Rn ?_
            refine Rq ?_
            refine Rq ?_
            refine Rn ?_
            refine Rn ?_
            refine Rn ?_
            refine Rn ?_
            refine Rq ?_
            have tr : ∀ y0 y1 y2 y4 y5 y6 y7 y8 y9 y13 y20 y22 y23 y24 y25 y42 y46 y47 y48 y49 y66 z0 z1 z2 z3 z4 z5 z6 z7 z8 z9 z10 z11 z12 z13 : AV, trim [(66, z13), (65, z12), (64, z11), (63, z10), (62, z9), (61, z8), (60, z7), (59, z6), (58, z5), (57, z4), (56, z3), (55, z2), (54, z1), (53, z0), (0, y0), (1, y1), (2, y2), (4, y4), (5, y5), (6, y6), (7, y7), (8, y8), (9, y9), (13, y13), (20, y20), (22, y22), (23, y23), (24, y24), (25, y25), (42, y42), (46, y46), (47, y47), (48, y48), (49, y49), (66, y66)] [(0, y0), (1, y1), (2, y2), (4, y4), (5, y5), (6, y6), (7, y7), (8, y8), (9, y9), (13, y13), (20, y20), (22, y22), (23, y23), (24, y24), (25, y25), (42, y42), (46, y46), (47, y47), (48, y48), (49, y49), (66, y66)] = [(0, y0), (1, y1), (2, y2), (4, y4), (5, y5), (6, y6), (7, y7), (8, y8), (9, y9), (13, y13), (20, y20), (22, y22), (23, y23), (24, y24), (25, y25), (42, y42), (46, y46), (47, y47), (48, y48), (49, y49), (66, z13)] := fun y0 y1 y2 y4 y5 y6 y7 y8 y9 y13 y20 y22 y23 y24 y25 y42 y46 y47 y48 y49 y66 z0 z1 z2 z3 z4 z5 z6 z7 z8 z9 z10 z11 z12 z13 => rfl
            refine R_nil (tr _ _ _ _ _ _ _ _ _ _ _ _ _ _ _ _ _ _ _ _ _ _ _ _ _ _ _ _ _ _ _ _ _ _ _) ?_; clear tr
            refine then_n ?_
            refine cdf ?_
            refine at_skip rfl ?_
            refine blk_n ?_
            refine then_n ?_
            refine rg rfl ?_
            refine Rq ?_
            refine Rq ?_
            have tr : ∀ y0 y1 y2 y4 y5 y6 y7 y8 y9 y13 y20 y22 y23 y24 y25 y42 y46 y47 y48 y49 y66 z0 z1 : AV, trim [(48, z1), (67, z0), (0, y0), (1, y1), (2, y2), (4, y4), (5, y5), (6, y6), (7, y7), (8, y8), (9, y9), (13, y13), (20, y20), (22, y22), (23, y23), (24, y24), (25, y25), (42, y42), (46, y46), (47, y47), (48, y48), (49, y49), (66, y66)] [(0, y0), (1, y1), (2, y2), (4, y4), (5, y5), (6, y6), (7, y7), (8, y8), (9, y9), (13, y13), (20, y20), (22, y22), (23, y23), (24, y24), (25, y25), (42, y42), (46, y46), (47, y47), (48, y48), (49, y49), (66, y66)] = [(0, y0), (1, y1), (2, y2), (4, y4), (5, y5), (6, y6), (7, y7), (8, y8), (9, y9), (13, y13), (20, y20), (22, y22), (23, y23), (24, y24), (25, y25), (42, y42), (46, y46), (47, y47), (48, z1), (49, y49), (66, y66)] := fun y0 y1 y2 y4 y5 y6 y7 y8 y9 y13 y20 y22 y23 y24 y25 y42 y46 y47 y48 y49 y66 z0 z1 => rfl
            refine R_nil (tr _ _ _ _ _ _ _ _ _ _ _ _ _ _ _ _ _ _ _ _ _ _ _) ?_; clear tr
            refine then_n ?_
            exact ⟨_, _, ⟨w + 1, _, _, _, _, _, rfl, rfl, rfl, by omega, by exact all_step hz (by omega)⟩, by rfl, by omega⟩
        · try simp only [decide_eq_true_eq, decide_eq_false_iff_not, Bool.not_eq_true', Bool.not_eq_false', beq_iff_eq, beq_eq_false_iff_ne, ne_eq] at h6
          refine at_exit rfl ?_
          refine then_x ?_
          refine then_x ?_
          refine blk_x ?_
          refine then_n ?_
          refine at_seq rfl ?_
          refine rg rfl ?_
          refine Rq ?_
          have tr : ∀ y0 y1 y2 y4 y5 y6 y7 y8 y9 y13 y20 y22 y23 y24 y25 y42 y46 y47 y48 y49 y66 z0 : AV, trim [(4, z0), (0, y0), (1, y1), (2, y2), (4, y4), (5, y5), (6, y6), (7, y7), (8, y8), (9, y9), (13, y13), (20, y20), (22, y22), (23, y23), (24, y24), (25, y25), (42, y42), (46, y46), (47, y47), (48, y48), (49, y49), (66, y66)] [(0, y0), (1, y1), (2, y2), (4, y4), (5, y5), (6, y6), (7, y7), (8, y8), (9, y9), (13, y13), (20, y20), (22, y22), (23, y23), (24, y24), (25, y25), (42, y42), (46, y46), (47, y47), (48, y48), (49, y49), (66, y66)] = [(0, y0), (1, y1), (2, y2), (4, z0), (5, y5), (6, y6), (7, y7), (8, y8), (9, y9), (13, y13), (20, y20), (22, y22), (23, y23), (24, y24), (25, y25), (42, y42), (46, y46), (47, y47), (48, y48), (49, y49), (66, y66)] := fun y0 y1 y2 y4 y5 y6 y7 y8 y9 y13 y20 y22 y23 y24 y25 y42 y46 y47 y48 y49 y66 z0 => rfl
          refine R_nil (tr _ _ _ _ _ _ _ _ _ _ _ _ _ _ _ _ _ _ _ _ _ _) ?_; clear tr
          refine then_n ?_
          refine at_ret rfl ?_
          refine fpure ?_
          refine ⟨?_, rfl⟩
          rw [feasS, if_neg (fun hh => hh (by assumption)), if_neg (by omega), if_neg (fun hh => hh hrr), if_neg (fun ⟨j, hj, h1, h2, h3⟩ => hz j (by omega) ⟨h1, h2, h3⟩)]

theorem rfeas_ok (lim : Nat) (H : Heap) (n s t : Int) (E : List Ed) (f : List Int) :
    ACall sig lim 24 [.agg (graphC n s t E), intsAV f] H fun r H' => r = AV.i (feasS n s t E f) ∧ H' = H := by
  refine ACall_pure (fa := fa24) rfl rfl rfl rfl ?_
  have tr : ∀ a0 a1 : AV, env0 fa24.keep [a0, a1] = [(0, a0), (1, a1), (2, .any), (4, .any), (5, .any), (6, .any), (7, .any), (8, .any), (9, .any), (13, .any), (20, .any), (22, .any), (23, .any), (24, .any), (25, .any), (42, .any), (46, .any), (47, .any), (48, .any), (49, .any), (66, .any)] := fun a0 a1 => rfl
  refine W_to (tr _ _) ?_; clear tr
  refine at_seq rfl ?_
  refine rg rfl ?_
  refine R_box rfl (by simp (disch := first | omega | (simp only [List.length_map, List.length_append, List.length_set, List.length_cons, List.length_nil, List.length_take, List.length_drop]; omega)) only [go_sem, ↓reduceIte, Nat.reduceEqDiff, reduceCtorEq]; rfl) rfl rfl ?_
  refine Rq ?_
  have tr : ∀ y0 y1 y2 y4 y5 y6 y7 y8 y9 y13 y20 y22 y23 y24 y25 y42 y46 y47 y48 y49 y66 z0 z1 : AV, trim [(4, z1), (2, z0), (0, y0), (1, y1), (2, y2), (4, y4), (5, y5), (6, y6), (7, y7), (8, y8), (9, y9), (13, y13), (20, y20), (22, y22), (23, y23), (24, y24), (25, y25), (42, y42), (46, y46), (47, y47), (48, y48), (49, y49), (66, y66)] [(0, y0), (1, y1), (2, y2), (4, y4), (5, y5), (6, y6), (7, y7), (8, y8), (9, y9), (13, y13), (20, y20), (22, y22), (23, y23), (24, y24), (25, y25), (42, y42), (46, y46), (47, y47), (48, y48), (49, y49), (66, y66)] = [(0, y0), (1, y1), (2, z0), (4, z1), (5, y5), (6, y6), (7, y7), (8, y8), (9, y9), (13, y13), (20, y20), (22, y22), (23, y23), (24, y24), (25, y25), (42, y42), (46, y46), (47, y47), (48, y48), (49, y49), (66, y66)] := fun y0 y1 y2 y4 y5 y6 y7 y8 y9 y13 y20 y22 y23 y24 y25 y42 y46 y47 y48 y49 y66 z0 z1 => rfl
  refine R_nil (tr _ _ _ _ _ _ _ _ _ _ _ _ _ _ _ _ _ _ _ _ _ _ _) ?_; clear tr
  refine then_n ?_
  refine at_seq rfl ?_
  refine at_seq rfl ?_
  refine rg rfl ?_
  refine Rq ?_
  refine Rcall ?_
  refine ACall_eq (rcheck_ok _ _ n s t E) ?_
  refine Rq ?_
  have tr : ∀ y0 y1 y2 y4 y5 y6 y7 y8 y9 y13 y20 y22 y23 y24 y25 y42 y46 y47 y48 y49 y66 z0 z1 z2 : AV, trim [(5, z2), (11, z1), (10, z0), (0, y0), (1, y1), (2, y2), (4, y4), (5, y5), (6, y6), (7, y7), (8, y8), (9, y9), (13, y13), (20, y20), (22, y22), (23, y23), (24, y24), (25, y25), (42, y42), (46, y46), (47, y47), (48, y48), (49, y49), (66, y66)] [(0, y0), (1, y1), (2, y2), (4, y4), (5, y5), (6, y6), (7, y7), (8, y8), (9, y9), (13, y13), (20, y20), (22, y22), (23, y23), (24, y24), (25, y25), (42, y42), (46, y46), (47, y47), (48, y48), (49, y49), (66, y66)] = [(0, y0), (1, y1), (2, y2), (4, y4), (5, z2), (6, y6), (7, y7), (8, y8), (9, y9), (13, y13), (20, y20), (22, y22), (23, y23), (24, y24), (25, y25), (42, y42), (46, y46), (47, y47), (48, y48), (49, y49), (66, y66)] := fun y0 y1 y2 y4 y5 y6 y7 y8 y9 y13 y20 y22 y23 y24 y25 y42 y46 y47 y48 y49 y66 z0 z1 z2 => rfl
  refine R_nil (tr _ _ _ _ _ _ _ _ _ _ _ _ _ _ _ _ _ _ _ _ _ _ _ _) ?_; clear tr
  refine then_n ?_
  refine at_seq rfl ?_
  refine rg rfl ?_
  refine Rq ?_
  refine Rq ?_
  have tr : ∀ y0 y1 y2 y4 y5 y6 y7 y8 y9 y13 y20 y22 y23 y24 y25 y42 y46 y47 y48 y49 y66 z0 z1 : AV, trim [(13, z1), (12, z0), (0, y0), (1, y1), (2, y2), (4, y4), (5, y5), (6, y6), (7, y7), (8, y8), (9, y9), (13, y13), (20, y20), (22, y22), (23, y23), (24, y24), (25, y25), (42, y42), (46, y46), (47, y47), (48, y48), (49, y49), (66, y66)] [(0, y0), (1, y1), (2, y2), (4, y4), (5, y5), (6, y6), (7, y7), (8, y8), (9, y9), (13, y13), (20, y20), (22, y22), (23, y23), (24, y24), (25, y25), (42, y42), (46, y46), (47, y47), (48, y48), (49, y49), (66, y66)] = [(0, y0), (1, y1), (2, y2), (4, y4), (5, y5), (6, y6), (7, y7), (8, y8), (9, y9), (13, z1), (20, y20), (22, y22), (23, y23), (24, y24), (25, y25), (42, y42), (46, y46), (47, y47), (48, y48), (49, y49), (66, y66)] := fun y0 y1 y2 y4 y5 y6 y7 y8 y9 y13 y20 y22 y23 y24 y25 y42 y46 y47 y48 y49 y66 z0 z1 => rfl
  refine R_nil (tr _ _ _ _ _ _ _ _ _ _ _ _ _ _ _ _ _ _ _ _ _ _ _) ?_; clear tr
  refine then_n ?_
  refine cdd (fun h1 => ?_) (fun h1 => ?_)
  · try simp only [decide_eq_true_eq, decide_eq_false_iff_not, Bool.not_eq_true', Bool.not_eq_false', beq_iff_eq, beq_eq_false_iff_ne, ne_eq] at h1
    refine at_seq rfl ?_
    refine rg rfl ?_
    refine Rq ?_
    refine Rq ?_
    have tr : ∀ y0 y1 y2 y4 y5 y6 y7 y8 y9 y13 y20 y22 y23 y24 y25 y42 y46 y47 y48 y49 y66 z0 z1 : AV, trim [(4, z1), (14, z0), (0, y0), (1, y1), (2, y2), (4, y4), (5, y5), (6, y6), (7, y7), (8, y8), (9, y9), (13, y13), (20, y20), (22, y22), (23, y23), (24, y24), (25, y25), (42, y42), (46, y46), (47, y47), (48, y48), (49, y49), (66, y66)] [(0, y0), (1, y1), (2, y2), (4, y4), (5, y5), (6, y6), (7, y7), (8, y8), (9, y9), (13, y13), (20, y20), (22, y22), (23, y23), (24, y24), (25, y25), (42, y42), (46, y46), (47, y47), (48, y48), (49, y49), (66, y66)] = [(0, y0), (1, y1), (2, y2), (4, z1), (5, y5), (6, y6), (7, y7), (8, y8), (9, y9), (13, y13), (20, y20), (22, y22), (23, y23), (24, y24), (25, y25), (42, y42), (46, y46), (47, y47), (48, y48), (49, y49), (66, y66)] := fun y0 y1 y2 y4 y5 y6 y7 y8 y9 y13 y20 y22 y23 y24 y25 y42 y46 y47 y48 y49 y66 z0 z1 => rfl
    refine R_nil (tr _ _ _ _ _ _ _ _ _ _ _ _ _ _ _ _ _ _ _ _ _ _ _) ?_; clear tr
    refine then_n ?_
    refine at_ret rfl ?_
    refine then_r ?_
    refine fpure ?_
    refine ⟨?_, rfl⟩
    rw [feasS, if_pos (by assumption)]
  · try simp only [decide_eq_true_eq, decide_eq_false_iff_not, Bool.not_eq_true', Bool.not_eq_false', beq_iff_eq, beq_eq_false_iff_ne, ne_eq] at h1
    refine at_skip rfl ?_
    refine then_n ?_
    refine at_seq rfl ?_
    refine at_seq rfl ?_
    refine rg rfl ?_
    have g := gok_of (by assumption : gchkS n s t E = 0)
    have g1 := g.n2
    have g2 := g.n64
    have g8 := g.el
    have ge := g.ed
    refine Rq ?_
    refine Rq ?_
    refine Rq ?_
    refine Rq ?_
    refine Rq ?_
    refine Rq ?_
    have tr : ∀ y0 y1 y2 y4 y5 y6 y7 y8 y9 y13 y20 y22 y23 y24 y25 y42 y46 y47 y48 y49 y66 z0 z1 z2 z3 z4 z5 : AV, trim [(20, z5), (19, z4), (18, z3), (17, z2), (16, z1), (15, z0), (0, y0), (1, y1), (2, y2), (4, y4), (5, y5), (6, y6), (7, y7), (8, y8), (9, y9), (13, y13), (20, y20), (22, y22), (23, y23), (24, y24), (25, y25), (42, y42), (46, y46), (47, y47), (48, y48), (49, y49), (66, y66)] [(0, y0), (1, y1), (2, y2), (4, y4), (5, y5), (6, y6), (7, y7), (8, y8), (9, y9), (13, y13), (20, y20), (22, y22), (23, y23), (24, y24), (25, y25), (42, y42), (46, y46), (47, y47), (48, y48), (49, y49), (66, y66)] = [(0, y0), (1, y1), (2, y2), (4, y4), (5, y5), (6, y6), (7, y7), (8, y8), (9, y9), (13, y13), (20, z5), (22, y22), (23, y23), (24, y24), (25, y25), (42, y42), (46, y46), (47, y47), (48, y48), (49, y49), (66, y66)] := fun y0 y1 y2 y4 y5 y6 y7 y8 y9 y13 y20 y22 y23 y24 y25 y42 y46 y47 y48 y49 y66 z0 z1 z2 z3 z4 z5 => rfl
    refine R_nil (tr _ _ _ _ _ _ _ _ _ _ _ _ _ _ _ _ _ _ _ _ _ _ _ _ _ _ _) ?_; clear tr
    refine then_n ?_
    refine cdd (fun h2 => ?_) (fun h2 => ?_)
    · try simp only [decide_eq_true_eq, decide_eq_false_iff_not, Bool.not_eq_true', Bool.not_eq_false', beq_iff_eq, beq_eq_false_iff_ne, ne_eq] at h2
      refine at_seq rfl ?_
      refine rg rfl ?_
      refine Rq ?_
      have tr : ∀ y0 y1 y2 y4 y5 y6 y7 y8 y9 y13 y20 y22 y23 y24 y25 y42 y46 y47 y48 y49 y66 z0 : AV, trim [(4, z0), (0, y0), (1, y1), (2, y2), (4, y4), (5, y5), (6, y6), (7, y7), (8, y8), (9, y9), (13, y13), (20, y20), (22, y22), (23, y23), (24, y24), (25, y25), (42, y42), (46, y46), (47, y47), (48, y48), (49, y49), (66, y66)] [(0, y0), (1, y1), (2, y2), (4, y4), (5, y5), (6, y6), (7, y7), (8, y8), (9, y9), (13, y13), (20, y20), (22, y22), (23, y23), (24, y24), (25, y25), (42, y42), (46, y46), (47, y47), (48, y48), (49, y49), (66, y66)] = [(0, y0), (1, y1), (2, y2), (4, z0), (5, y5), (6, y6), (7, y7), (8, y8), (9, y9), (13, y13), (20, y20), (22, y22), (23, y23), (24, y24), (25, y25), (42, y42), (46, y46), (47, y47), (48, y48), (49, y49), (66, y66)] := fun y0 y1 y2 y4 y5 y6 y7 y8 y9 y13 y20 y22 y23 y24 y25 y42 y46 y47 y48 y49 y66 z0 => rfl
      refine R_nil (tr _ _ _ _ _ _ _ _ _ _ _ _ _ _ _ _ _ _ _ _ _ _) ?_; clear tr
      refine then_n ?_
      refine at_ret rfl ?_
      refine then_r ?_
      refine fpure ?_
      refine ⟨?_, rfl⟩
      rw [feasS, if_neg (fun hh => hh (by assumption)), if_pos (by omega)]
    · try simp only [decide_eq_true_eq, decide_eq_false_iff_not, Bool.not_eq_true', Bool.not_eq_false', beq_iff_eq, beq_eq_false_iff_ne, ne_eq] at h2
      refine at_skip rfl ?_
      refine then_n ?_
      refine at_seq rfl ?_
      refine at_seq rfl ?_
      refine rg rfl ?_
      refine Rq ?_
      refine Rq ?_
      refine Rq ?_
      refine Rq ?_
      have tr : ∀ y0 y1 y2 y4 y5 y6 y7 y8 y9 y13 y20 y22 y23 y24 y25 y42 y46 y47 y48 y49 y66 z0 z1 z2 z3 : AV, trim [(24, z3), (23, z2), (22, z1), (21, z0), (0, y0), (1, y1), (2, y2), (4, y4), (5, y5), (6, y6), (7, y7), (8, y8), (9, y9), (13, y13), (20, y20), (22, y22), (23, y23), (24, y24), (25, y25), (42, y42), (46, y46), (47, y47), (48, y48), (49, y49), (66, y66)] [(0, y0), (1, y1), (2, y2), (4, y4), (5, y5), (6, y6), (7, y7), (8, y8), (9, y9), (13, y13), (20, y20), (22, y22), (23, y23), (24, y24), (25, y25), (42, y42), (46, y46), (47, y47), (48, y48), (49, y49), (66, y66)] = [(0, y0), (1, y1), (2, y2), (4, y4), (5, y5), (6, y6), (7, y7), (8, y8), (9, y9), (13, y13), (20, y20), (22, z1), (23, z2), (24, z3), (25, y25), (42, y42), (46, y46), (47, y47), (48, y48), (49, y49), (66, y66)] := fun y0 y1 y2 y4 y5 y6 y7 y8 y9 y13 y20 y22 y23 y24 y25 y42 y46 y47 y48 y49 y66 z0 z1 z2 z3 => rfl
      refine R_nil (tr _ _ _ _ _ _ _ _ _ _ _ _ _ _ _ _ _ _ _ _ _ _ _ _ _) ?_; clear tr
      refine then_n ?_
      refine at_block rfl ?_
      refine loop_n rfl (fun mm kv H' => ∃ u : Nat, ∃ X : Heap, ∃ x4 x6 x7 x25 x42 : AV, (kv = [(4, x4), (6, x6), (7, x7), (24, AV.i u), (25, x25), (42, x42)]) ∧ (mm = E.length - u) ∧ (H' = H ++ [some (graphC n s t E)] ++ X) ∧ (u ≤ E.length) ∧ (∀ i, i < u → 0 ≤ gt f i ∧ gt f i ≤ (gt E i).c)) ⟨0, [], _, _, _, _, _, rfl, rfl, by simp, by omega, by intro i hi; omega⟩ (by rfl) ?_
      rintro mm kv H1 ⟨u, X, x4, x6, x7, x25, x42, rfl, rfl, hX, hu, hq⟩
      have tr : ∀ y0 y1 y2 y4 y5 y6 y7 y8 y9 y13 y20 y22 y23 y24 y25 y42 y46 y47 y48 y49 y66 z4 z6 z7 z24 z25 z42 : AV, upd [(0, y0), (1, y1), (2, y2), (4, y4), (5, y5), (6, y6), (7, y7), (8, y8), (9, y9), (13, y13), (20, y20), (22, y22), (23, y23), (24, y24), (25, y25), (42, y42), (46, y46), (47, y47), (48, y48), (49, y49), (66, y66)] [(4, z4), (6, z6), (7, z7), (24, z24), (25, z25), (42, z42)] = [(0, y0), (1, y1), (2, y2), (4, z4), (5, y5), (6, z6), (7, z7), (8, y8), (9, y9), (13, y13), (20, y20), (22, y22), (23, y23), (24, z24), (25, z25), (42, z42), (46, y46), (47, y47), (48, y48), (49, y49), (66, y66)] := fun y0 y1 y2 y4 y5 y6 y7 y8 y9 y13 y20 y22 y23 y24 y25 y42 y46 y47 y48 y49 y66 z4 z6 z7 z24 z25 z42 => rfl
      refine W_to (tr _ _ _ _ _ _ _ _ _ _ _ _ _ _ _ _ _ _ _ _ _ _ _ _ _ _ _) ?_; clear tr
      subst hX
      refine at_seq rfl ?_
      refine rg rfl ?_
      refine Rq ?_
      have tr : ∀ y0 y1 y2 y4 y5 y6 y7 y8 y9 y13 y20 y22 y23 y24 y25 y42 y46 y47 y48 y49 y66 z0 : AV, trim [(25, z0), (0, y0), (1, y1), (2, y2), (4, y4), (5, y5), (6, y6), (7, y7), (8, y8), (9, y9), (13, y13), (20, y20), (22, y22), (23, y23), (24, y24), (25, y25), (42, y42), (46, y46), (47, y47), (48, y48), (49, y49), (66, y66)] [(0, y0), (1, y1), (2, y2), (4, y4), (5, y5), (6, y6), (7, y7), (8, y8), (9, y9), (13, y13), (20, y20), (22, y22), (23, y23), (24, y24), (25, y25), (42, y42), (46, y46), (47, y47), (48, y48), (49, y49), (66, y66)] = [(0, y0), (1, y1), (2, y2), (4, y4), (5, y5), (6, y6), (7, y7), (8, y8), (9, y9), (13, y13), (20, y20), (22, y22), (23, y23), (24, y24), (25, z0), (42, y42), (46, y46), (47, y47), (48, y48), (49, y49), (66, y66)] := fun y0 y1 y2 y4 y5 y6 y7 y8 y9 y13 y20 y22 y23 y24 y25 y42 y46 y47 y48 y49 y66 z0 => rfl
      refine R_nil (tr _ _ _ _ _ _ _ _ _ _ _ _ _ _ _ _ _ _ _ _ _ _) ?_; clear tr
      refine then_n ?_
      refine at_seq rfl ?_
      refine cdd (fun h3 => ?_) (fun h3 => ?_)
      · try simp only [decide_eq_true_eq, decide_eq_false_iff_not, Bool.not_eq_true', Bool.not_eq_false', beq_iff_eq, beq_eq_false_iff_ne, ne_eq] at h3
        refine at_skip rfl ?_
        refine then_n ?_
        refine at_seq rfl ?_
        refine at_block rfl ?_
        refine at_seq rfl ?_
        refine rg rfl ?_
        refine Rq ?_
        refine Rq ?_
        refine Rq ?_
        refine R_alloc (by simp (disch := first | omega | (simp only [List.length_map, List.length_append, List.length_set, List.length_cons, List.length_nil, List.length_take, List.length_drop]; omega)) only [go_sem, ↓reduceIte, Nat.reduceEqDiff, reduceCtorEq]; rfl) rfl (by simp only [List.map_cons, List.map_nil]; rfl) ?_
        refine Rq ?_
        refine R_store ty66 (by simp (disch := first | omega | (simp only [List.length_map, List.length_append, List.length_set, List.length_cons, List.length_nil, List.length_take, List.length_drop]; omega)) only [go_sem, ↓reduceIte, Nat.reduceEqDiff, reduceCtorEq]; rfl) (by simp (disch := first | omega | (simp only [List.length_map, List.length_append, List.length_set, List.length_cons, List.length_nil, List.length_take, List.length_drop]; omega)) only [go_sem, ↓reduceIte, Nat.reduceEqDiff, reduceCtorEq]; rfl) (by simp (disch := first | omega | (simp only [List.length_map, List.length_append, List.length_set, List.length_cons, List.length_nil, List.length_take, List.length_drop]; omega)) only [go_sem, ↓reduceIte, Nat.reduceEqDiff, reduceCtorEq]; rfl) (by simp) (by rfl) (by simp (disch := first | omega | (simp only [List.length_map, List.length_append, List.length_set, List.length_cons, List.length_nil, List.length_take, List.length_drop]; omega)) only [go_sem, ↓reduceIte, Nat.reduceEqDiff, reduceCtorEq]; rfl) ?_
        have tr : ∀ y0 y1 y2 y4 y5 y6 y7 y8 y9 y13 y20 y22 y23 y24 y25 y42 y46 y47 y48 y49 y66 z0 z1 z2 z3 z4 : AV, trim [(6, z4), (7, z3), (28, z2), (27, z1), (26, z0), (0, y0), (1, y1), (2, y2), (4, y4), (5, y5), (6, y6), (7, y7), (8, y8), (9, y9), (13, y13), (20, y20), (22, y22), (23, y23), (24, y24), (25, y25), (42, y42), (46, y46), (47, y47), (48, y48), (49, y49), (66, y66)] [(0, y0), (1, y1), (2, y2), (4, y4), (5, y5), (6, y6), (7, y7), (8, y8), (9, y9), (13, y13), (20, y20), (22, y22), (23, y23), (24, y24), (25, y25), (42, y42), (46, y46), (47, y47), (48, y48), (49, y49), (66, y66)] = [(0, y0), (1, y1), (2, y2), (4, y4), (5, y5), (6, z4), (7, z3), (8, y8), (9, y9), (13, y13), (20, y20), (22, y22), (23, y23), (24, y24), (25, y25), (42, y42), (46, y46), (47, y47), (48, y48), (49, y49), (66, y66)] := fun y0 y1 y2 y4 y5 y6 y7 y8 y9 y13 y20 y22 y23 y24 y25 y42 y46 y47 y48 y49 y66 z0 z1 z2 z3 z4 => rfl
        refine R_nil (tr _ _ _ _ _ _ _ _ _ _ _ _ _ _ _ _ _ _ _ _ _ _ _ _ _ _) ?_; clear tr
        refine then_n ?_
        refine at_seq rfl ?_
        refine rd rfl rfl ?_
        have he := ge u (by omega)
        refine Qq ?_
        refine Qq ?_
        refine Qq ?_
        refine Qq ?_
        refine Qq ?_
        refine Qq ?_
        refine Qp_split (fun h4 => ?_) (fun h4 => ?_)
        · try simp only [decide_eq_true_eq, decide_eq_false_iff_not, Bool.not_eq_true', Bool.not_eq_false', beq_iff_eq, beq_eq_false_iff_ne, ne_eq] at h4
          refine Qn ?_
          refine Qn ?_
          refine Qn ?_
          refine Qn ?_
          refine Qn ?_
          refine Qn ?_
          refine Qn ?_
          refine Qq ?_
          refine Q_nil ?_
          have tr : ∀ y0 y1 y2 y4 y5 y6 y7 y8 y9 y13 y20 y22 y23 y24 y25 y42 y46 y47 y48 y49 y66 z0 z1 z2 z3 z4 z5 z6 z7 z8 z9 z10 z11 z12 z13 : AV, trim [(42, z13), (41, z12), (40, z11), (39, z10), (38, z9), (37, z8), (36, z7), (35, z6), (34, z5), (33, z4), (32, z3), (31, z2), (30, z1), (29, z0), (0, y0), (1, y1), (2, y2), (4, y4), (5, y5), (6, y6), (7, y7), (8, y8), (9, y9), (13, y13), (20, y20), (22, y22), (23, y23), (24, y24), (25, y25), (42, y42), (46, y46), (47, y47), (48, y48), (49, y49), (66, y66)] [(0, y0), (1, y1), (2, y2), (4, y4), (5, y5), (6, y6), (7, y7), (8, y8), (9, y9), (13, y13), (20, y20), (22, y22), (23, y23), (24, y24), (25, y25), (42, y42), (46, y46), (47, y47), (48, y48), (49, y49), (66, y66)] = [(0, y0), (1, y1), (2, y2), (4, y4), (5, y5), (6, y6), (7, y7), (8, y8), (9, y9), (13, y13), (20, y20), (22, y22), (23, y23), (24, y24), (25, y25), (42, z13), (46, y46), (47, y47), (48, y48), (49, y49), (66, y66)] := fun y0 y1 y2 y4 y5 y6 y7 y8 y9 y13 y20 y22 y23 y24 y25 y42 y46 y47 y48 y49 y66 z0 z1 z2 z3 z4 z5 z6 z7 z8 z9 z10 z11 z12 z13 => rfl
          refine R_nil (tr _ _ _ _ _ _ _ _ _ _ _ _ _ _ _ _ _ _ _ _ _ _ _ _ _ _ _ _ _ _ _ _ _ _ _) ?_; clear tr
          refine then_n ?_
          refine cdt ?_
          refine at_seq rfl ?_
          refine rg rfl ?_
          refine Rq ?_
          have tr : ∀ y0 y1 y2 y4 y5 y6 y7 y8 y9 y13 y20 y22 y23 y24 y25 y42 y46 y47 y48 y49 y66 z0 : AV, trim [(4, z0), (0, y0), (1, y1), (2, y2), (4, y4), (5, y5), (6, y6), (7, y7), (8, y8), (9, y9), (13, y13), (20, y20), (22, y22), (23, y23), (24, y24), (25, y25), (42, y42), (46, y46), (47, y47), (48, y48), (49, y49), (66, y66)] [(0, y0), (1, y1), (2, y2), (4, y4), (5, y5), (6, y6), (7, y7), (8, y8), (9, y9), (13, y13), (20, y20), (22, y22), (23, y23), (24, y24), (25, y25), (42, y42), (46, y46), (47, y47), (48, y48), (49, y49), (66, y66)] = [(0, y0), (1, y1), (2, y2), (4, z0), (5, y5), (6, y6), (7, y7), (8, y8), (9, y9), (13, y13), (20, y20), (22, y22), (23, y23), (24, y24), (25, y25), (42, y42), (46, y46), (47, y47), (48, y48), (49, y49), (66, y66)] := fun y0 y1 y2 y4 y5 y6 y7 y8 y9 y13 y20 y22 y23 y24 y25 y42 y46 y47 y48 y49 y66 z0 => rfl
          refine R_nil (tr _ _ _ _ _ _ _ _ _ _ _ _ _ _ _ _ _ _ _ _ _ _) ?_; clear tr
          refine then_n ?_
          refine at_ret rfl ?_
          refine blk_r ?_
          refine then_r ?_
          refine then_r ?_
          refine blk_r ?_
          refine then_r ?_
          refine fpure ?_
          refine ⟨?_, rfl⟩
          rw [feasS, if_neg (fun hh => hh (by assumption)), if_neg (by omega), if_pos (fun hh => absurd (hh u (by omega)) (by omega))]
        · try simp only [decide_eq_true_eq, decide_eq_false_iff_not, Bool.not_eq_true', Bool.not_eq_false', beq_iff_eq, beq_eq_false_iff_ne, ne_eq] at h4
          refine Qy ?_
          refine Qq ?_
          refine Qy ?_
          refine Qq ?_
          refine Qy ?_
          refine Qq ?_
          refine Qy ?_
          refine Qq ?_
          refine Qy ?_
          refine Qq ?_
          refine Qy ?_
          refine Qq ?_
          refine Qy ?_
          refine Qq ?_
          refine Qq ?_
          refine Q_nil ?_
          have tr : ∀ y0 y1 y2 y4 y5 y6 y7 y8 y9 y13 y20 y22 y23 y24 y25 y42 y46 y47 y48 y49 y66 z0 z1 z2 z3 z4 z5 z6 z7 z8 z9 z10 z11 z12 z13 : AV, trim [(42, z13), (41, z12), (40, z11), (39, z10), (38, z9), (37, z8), (36, z7), (35, z6), (34, z5), (33, z4), (32, z3), (31, z2), (30, z1), (29, z0), (0, y0), (1, y1), (2, y2), (4, y4), (5, y5), (6, y6), (7, y7), (8, y8), (9, y9), (13, y13), (20, y20), (22, y22), (23, y23), (24, y24), (25, y25), (42, y42), (46, y46), (47, y47), (48, y48), (49, y49), (66, y66)] [(0, y0), (1, y1), (2, y2), (4, y4), (5, y5), (6, y6), (7, y7), (8, y8), (9, y9), (13, y13), (20, y20), (22, y22), (23, y23), (24, y24), (25, y25), (42, y42), (46, y46), (47, y47), (48, y48), (49, y49), (66, y66)] = [(0, y0), (1, y1), (2, y2), (4, y4), (5, y5), (6, y6), (7, y7), (8, y8), (9, y9), (13, y13), (20, y20), (22, y22), (23, y23), (24, y24), (25, y25), (42, z13), (46, y46), (47, y47), (48, y48), (49, y49), (66, y66)] := fun y0 y1 y2 y4 y5 y6 y7 y8 y9 y13 y20 y22 y23 y24 y25 y42 y46 y47 y48 y49 y66 z0 z1 z2 z3 z4 z5 z6 z7 z8 z9 z10 z11 z12 z13 => rfl
          refine R_nil (tr _ _ _ _ _ _ _ _ _ _ _ _ _ _ _ _ _ _ _ _ _ _ _ _ _ _ _ _ _ _ _ _ _ _ _) ?_; clear tr
          refine then_n ?_
          refine cdd (fun h5 => ?_) (fun h5 => ?_)
          · try simp only [decide_eq_true_eq, decide_eq_false_iff_not, Bool.not_eq_true', Bool.not_eq_false', beq_iff_eq, beq_eq_false_iff_ne, ne_eq] at h5
            refine at_seq rfl ?_
            refine rg rfl ?_
            refine Rq ?_
            have tr : ∀ y0 y1 y2 y4 y5 y6 y7 y8 y9 y13 y20 y22 y23 y24 y25 y42 y46 y47 y48 y49 y66 z0 : AV, trim [(4, z0), (0, y0), (1, y1), (2, y2), (4, y4), (5, y5), (6, y6), (7, y7), (8, y8), (9, y9), (13, y13), (20, y20), (22, y22), (23, y23), (24, y24), (25, y25), (42, y42), (46, y46), (47, y47), (48, y48), (49, y49), (66, y66)] [(0, y0), (1, y1), (2, y2), (4, y4), (5, y5), (6, y6), (7, y7), (8, y8), (9, y9), (13, y13), (20, y20), (22, y22), (23, y23), (24, y24), (25, y25), (42, y42), (46, y46), (47, y47), (48, y48), (49, y49), (66, y66)] = [(0, y0), (1, y1), (2, y2), (4, z0), (5, y5), (6, y6), (7, y7), (8, y8), (9, y9), (13, y13), (20, y20), (22, y22), (23, y23), (24, y24), (25, y25), (42, y42), (46, y46), (47, y47), (48, y48), (49, y49), (66, y66)] := fun y0 y1 y2 y4 y5 y6 y7 y8 y9 y13 y20 y22 y23 y24 y25 y42 y46 y47 y48 y49 y66 z0 => rfl
            refine R_nil (tr _ _ _ _ _ _ _ _ _ _ _ _ _ _ _ _ _ _ _ _ _ _) ?_; clear tr
            refine then_n ?_
            refine at_ret rfl ?_
            refine blk_r ?_
            refine then_r ?_
            refine then_r ?_
            refine blk_r ?_
            refine then_r ?_
            refine fpure ?_
            refine ⟨?_, rfl⟩
            rw [feasS, if_neg (fun hh => hh (by assumption)), if_neg (by omega), if_pos (fun hh => absurd (hh u (by omega)) (by omega))]
          · try simp only [decide_eq_true_eq, decide_eq_false_iff_not, Bool.not_eq_true', Bool.not_eq_false', beq_iff_eq, beq_eq_false_iff_ne, ne_eq] at h5
            refine at_skip rfl ?_
            refine blk_n ?_
            refine then_n ?_
            refine rg rfl ?_
            refine Rq ?_
            refine Rq ?_
            have tr : ∀ y0 y1 y2 y4 y5 y6 y7 y8 y9 y13 y20 y22 y23 y24 y25 y42 y46 y47 y48 y49 y66 z0 z1 : AV, trim [(24, z1), (43, z0), (0, y0), (1, y1), (2, y2), (4, y4), (5, y5), (6, y6), (7, y7), (8, y8), (9, y9), (13, y13), (20, y20), (22, y22), (23, y23), (24, y24), (25, y25), (42, y42), (46, y46), (47, y47), (48, y48), (49, y49), (66, y66)] [(0, y0), (1, y1), (2, y2), (4, y4), (5, y5), (6, y6), (7, y7), (8, y8), (9, y9), (13, y13), (20, y20), (22, y22), (23, y23), (24, y24), (25, y25), (42, y42), (46, y46), (47, y47), (48, y48), (49, y49), (66, y66)] = [(0, y0), (1, y1), (2, y2), (4, y4), (5, y5), (6, y6), (7, y7), (8, y8), (9, y9), (13, y13), (20, y20), (22, y22), (23, y23), (24, z1), (25, y25), (42, y42), (46, y46), (47, y47), (48, y48), (49, y49), (66, y66)] := fun y0 y1 y2 y4 y5 y6 y7 y8 y9 y13 y20 y22 y23 y24 y25 y42 y46 y47 y48 y49 y66 z0 z1 => rfl
            refine R_nil (tr _ _ _ _ _ _ _ _ _ _ _ _ _ _ _ _ _ _ _ _ _ _ _) ?_; clear tr
            refine then_n ?_
            exact ⟨_, _, ⟨u + 1, X ++ [some (edC (gt E u))], _, _, _, _, _, rfl, rfl, by simp; rfl, by omega, by exact all_step hq (by omega)⟩, by rfl, by omega⟩
      · try simp only [decide_eq_true_eq, decide_eq_false_iff_not, Bool.not_eq_true', Bool.not_eq_false', beq_iff_eq, beq_eq_false_iff_ne, ne_eq] at h3
        refine at_exit rfl ?_
        refine then_x ?_
        refine then_x ?_
        refine blk_x ?_
        refine then_n ?_
        refine at_seq rfl ?_
        refine at_seq rfl ?_
        refine rg rfl ?_
        have hrr : fRng E f := fun i hi => hq i (by omega)
        refine Rq ?_
        refine Rq ?_
        refine Rcall ?_
        refine ACall_eq (excess_ok _ _ n s t E f g (by omega) (fRng_cap g hrr)) ?_
        refine Rq ?_
        refine Rq ?_
        have tr : ∀ y0 y1 y2 y4 y5 y6 y7 y8 y9 y13 y20 y22 y23 y24 y25 y42 y46 y47 y48 y49 y66 z0 z1 z2 z3 z4 : AV, trim [(48, z4), (47, z3), (46, z2), (45, z1), (44, z0), (0, y0), (1, y1), (2, y2), (4, y4), (5, y5), (6, y6), (7, y7), (8, y8), (9, y9), (13, y13), (20, y20), (22, y22), (23, y23), (24, y24), (25, y25), (42, y42), (46, y46), (47, y47), (48, y48), (49, y49), (66, y66)] [(0, y0), (1, y1), (2, y2), (4, y4), (5, y5), (6, y6), (7, y7), (8, y8), (9, y9), (13, y13), (20, y20), (22, y22), (23, y23), (24, y24), (25, y25), (42, y42), (46, y46), (47, y47), (48, y48), (49, y49), (66, y66)] = [(0, y0), (1, y1), (2, y2), (4, y4), (5, y5), (6, y6), (7, y7), (8, y8), (9, y9), (13, y13), (20, y20), (22, y22), (23, y23), (24, y24), (25, y25), (42, y42), (46, z2), (47, z3), (48, z4), (49, y49), (66, y66)] := fun y0 y1 y2 y4 y5 y6 y7 y8 y9 y13 y20 y22 y23 y24 y25 y42 y46 y47 y48 y49 y66 z0 z1 z2 z3 z4 => rfl
        refine R_nil (tr _ _ _ _ _ _ _ _ _ _ _ _ _ _ _ _ _ _ _ _ _ _ _ _ _ _) ?_; clear tr
        have hsl : (surpS n E f).length = n.toNat := surp_len n.toNat E f E.length
        refine then_n ?_
        refine at_block rfl ?_
        refine loop_n rfl (fun mm kv H' => ∃ w : Nat, ∃ x4 x8 x9 x49 x66 : AV, (kv = [(4, x4), (8, x8), (9, x9), (48, AV.i w), (49, x49), (66, x66)]) ∧ (mm = n.toNat - w) ∧ (H' = H ++ [some (graphC n s t E)] ++ X) ∧ (w ≤ n.toNat) ∧ (∀ j, j < w → ¬ (gt (surpS n E f) j ≠ 0 ∧ (j : Int) ≠ s ∧ (j : Int) ≠ t))) ⟨0, _, _, _, _, _, rfl, rfl, rfl, by omega, by intro i hi; omega⟩ (by rfl) ?_
        rintro mm kv H' ⟨w, x4, x8, x9, x49, x66, rfl, rfl, rfl, hw, hz⟩
        have tr : ∀ y0 y1 y2 y4 y5 y6 y7 y8 y9 y13 y20 y22 y23 y24 y25 y42 y46 y47 y48 y49 y66 z4 z8 z9 z48 z49 z66 : AV, upd [(0, y0), (1, y1), (2, y2), (4, y4), (5, y5), (6, y6), (7, y7), (8, y8), (9, y9), (13, y13), (20, y20), (22, y22), (23, y23), (24, y24), (25, y25), (42, y42), (46, y46), (47, y47), (48, y48), (49, y49), (66, y66)] [(4, z4), (8, z8), (9, z9), (48, z48), (49, z49), (66, z66)] = [(0, y0), (1, y1), (2, y2), (4, z4), (5, y5), (6, y6), (7, y7), (8, z8), (9, z9), (13, y13), (20, y20), (22, y22), (23, y23), (24, y24), (25, y25), (42, y42), (46, y46), (47, y47), (48, z48), (49, z49), (66, z66)] := fun y0 y1 y2 y4 y5 y6 y7 y8 y9 y13 y20 y22 y23 y24 y25 y42 y46 y47 y48 y49 y66 z4 z8 z9 z48 z49 z66 => rfl
        refine W_to (tr _ _ _ _ _ _ _ _ _ _ _ _ _ _ _ _ _ _ _ _ _ _ _ _ _ _ _) ?_; clear tr
        refine at_seq rfl ?_
        refine rg rfl ?_
        refine Rq ?_
        have tr : ∀ y0 y1 y2 y4 y5 y6 y7 y8 y9 y13 y20 y22 y23 y24 y25 y42 y46 y47 y48 y49 y66 z0 : AV, trim [(49, z0), (0, y0), (1, y1), (2, y2), (4, y4), (5, y5), (6, y6), (7, y7), (8, y8), (9, y9), (13, y13), (20, y20), (22, y22), (23, y23), (24, y24), (25, y25), (42, y42), (46, y46), (47, y47), (48, y48), (49, y49), (66, y66)] [(0, y0), (1, y1), (2, y2), (4, y4), (5, y5), (6, y6), (7, y7), (8, y8), (9, y9), (13, y13), (20, y20), (22, y22), (23, y23), (24, y24), (25, y25), (42, y42), (46, y46), (47, y47), (48, y48), (49, y49), (66, y66)] = [(0, y0), (1, y1), (2, y2), (4, y4), (5, y5), (6, y6), (7, y7), (8, y8), (9, y9), (13, y13), (20, y20), (22, y22), (23, y23), (24, y24), (25, y25), (42, y42), (46, y46), (47, y47), (48, y48), (49, z0), (66, y66)] := fun y0 y1 y2 y4 y5 y6 y7 y8 y9 y13 y20 y22 y23 y24 y25 y42 y46 y47 y48 y49 y66 z0 => rfl
        refine R_nil (tr _ _ _ _ _ _ _ _ _ _ _ _ _ _ _ _ _ _ _ _ _ _) ?_; clear tr
        refine then_n ?_
        refine at_seq rfl ?_
        refine cdd (fun h6 => ?_) (fun h6 => ?_)
        · try simp only [decide_eq_true_eq, decide_eq_false_iff_not, Bool.not_eq_true', Bool.not_eq_false', beq_iff_eq, beq_eq_false_iff_ne, ne_eq] at h6
          refine at_skip rfl ?_
          refine then_n ?_
          refine at_seq rfl ?_
          refine at_block rfl ?_
          refine at_seq rfl ?_
          refine rg rfl ?_
          refine Rq ?_
          refine Rq ?_
          refine Rq ?_
          refine Rq ?_
          refine Rq ?_
          have tr : ∀ y0 y1 y2 y4 y5 y6 y7 y8 y9 y13 y20 y22 y23 y24 y25 y42 y46 y47 y48 y49 y66 z0 z1 z2 z3 z4 : AV, trim [(9, z4), (8, z3), (52, z2), (51, z1), (50, z0), (0, y0), (1, y1), (2, y2), (4, y4), (5, y5), (6, y6), (7, y7), (8, y8), (9, y9), (13, y13), (20, y20), (22, y22), (23, y23), (24, y24), (25, y25), (42, y42), (46, y46), (47, y47), (48, y48), (49, y49), (66, y66)] [(0, y0), (1, y1), (2, y2), (4, y4), (5, y5), (6, y6), (7, y7), (8, y8), (9, y9), (13, y13), (20, y20), (22, y22), (23, y23), (24, y24), (25, y25), (42, y42), (46, y46), (47, y47), (48, y48), (49, y49), (66, y66)] = [(0, y0), (1, y1), (2, y2), (4, y4), (5, y5), (6, y6), (7, y7), (8, z3), (9, z4), (13, y13), (20, y20), (22, y22), (23, y23), (24, y24), (25, y25), (42, y42), (46, y46), (47, y47), (48, y48), (49, y49), (66, y66)] := fun y0 y1 y2 y4 y5 y6 y7 y8 y9 y13 y20 y22 y23 y24 y25 y42 y46 y47 y48 y49 y66 z0 z1 z2 z3 z4 => rfl
          refine R_nil (tr _ _ _ _ _ _ _ _ _ _ _ _ _ _ _ _ _ _ _ _ _ _ _ _ _ _) ?_; clear tr
          refine then_n ?_
          refine at_seq rfl ?_
          refine rg rfl ?_
          refine Rq ?_
          refine Rq ?_
          refine Rq ?_
          refine Rp_split (fun h7 => ?_) (fun h7 => ?_)
          · try simp only [decide_eq_true_eq, decide_eq_false_iff_not, Bool.not_eq_true', Bool.not_eq_false', beq_iff_eq, beq_eq_false_iff_ne, ne_eq] at h7
            refine Ry ?_
            refine Rq ?_
            refine Ry ?_
            refine Rq ?_
            refine Ry ?_
            refine Rq ?_
            refine Ry ?_
            refine Rq ?_
            refine Rq ?_
            refine Rq ?_
            refine Rp_split (fun h8 => ?_) (fun h8 => ?_)
            · try simp only [decide_eq_true_eq, decide_eq_false_iff_not, Bool.not_eq_true', Bool.not_eq_false', beq_iff_eq, beq_eq_false_iff_ne, ne_eq] at h8
              refine Ry ?_
              refine Rq ?_
              refine Ry ?_
              refine Rq ?_
              refine Ry ?_
              refine Rq ?_
              refine Ry ?_
              refine Rq ?_
              refine Rq ?_
              have tr : ∀ y0 y1 y2 y4 y5 y6 y7 y8 y9 y13 y20 y22 y23 y24 y25 y42 y46 y47 y48 y49 y66 z0 z1 z2 z3 z4 z5 z6 z7 z8 z9 z10 z11 z12 z13 : AV, trim [(66, z13), (65, z12), (64, z11), (63, z10), (62, z9), (61, z8), (60, z7), (59, z6), (58, z5), (57, z4), (56, z3), (55, z2), (54, z1), (53, z0), (0, y0), (1, y1), (2, y2), (4, y4), (5, y5), (6, y6), (7, y7), (8, y8), (9, y9), (13, y13), (20, y20), (22, y22), (23, y23), (24, y24), (25, y25), (42, y42), (46, y46), (47, y47), (48, y48), (49, y49), (66, y66)] [(0, y0), (1, y1), (2, y2), (4, y4), (5, y5), (6, y6), (7, y7), (8, y8), (9, y9), (13, y13), (20, y20), (22, y22), (23, y23), (24, y24), (25, y25), (42, y42), (46, y46), (47, y47), (48, y48), (49, y49), (66, y66)] = [(0, y0), (1, y1), (2, y2), (4, y4), (5, y5), (6, y6), (7, y7), (8, y8), (9, y9), (13, y13), (20, y20), (22, y22), (23, y23), (24, y24), (25, y25), (42, y42), (46, y46), (47, y47), (48, y48), (49, y49), (66, z13)] := fun y0 y1 y2 y4 y5 y6 y7 y8 y9 y13 y20 y22 y23 y24 y25 y42 y46 y47 y48 y49 y66 z0 z1 z2 z3 z4 z5 z6 z7 z8 z9 z10 z11 z12 z13 => rfl
              refine R_nil (tr _ _ _ _ _ _ _ _ _ _ _ _ _ _ _ _ _ _ _ _ _ _ _ _ _ _ _ _ _ _ _ _ _ _ _) ?_; clear tr
              refine then_n ?_
              refine cdd (fun h9 => ?_) (fun h9 => ?_)
              · try simp only [decide_eq_true_eq, decide_eq_false_iff_not, Bool.not_eq_true', Bool.not_eq_false', beq_iff_eq, beq_eq_false_iff_ne, ne_eq] at h9
                refine at_seq rfl ?_
                refine rg rfl ?_
                refine Rq ?_
                have tr : ∀ y0 y1 y2 y4 y5 y6 y7 y8 y9 y13 y20 y22 y23 y24 y25 y42 y46 y47 y48 y49 y66 z0 : AV, trim [(4, z0), (0, y0), (1, y1), (2, y2), (4, y4), (5, y5), (6, y6), (7, y7), (8, y8), (9, y9), (13, y13), (20, y20), (22, y22), (23, y23), (24, y24), (25, y25), (42, y42), (46, y46), (47, y47), (48, y48), (49, y49), (66, y66)] [(0, y0), (1, y1), (2, y2), (4, y4), (5, y5), (6, y6), (7, y7), (8, y8), (9, y9), (13, y13), (20, y20), (22, y22), (23, y23), (24, y24), (25, y25), (42, y42), (46, y46), (47, y47), (48, y48), (49, y49), (66, y66)] = [(0, y0), (1, y1), (2, y2), (4, z0), (5, y5), (6, y6), (7, y7), (8, y8), (9, y9), (13, y13), (20, y20), (22, y22), (23, y23), (24, y24), (25, y25), (42, y42), (46, y46), (47, y47), (48, y48), (49, y49), (66, y66)] := fun y0 y1 y2 y4 y5 y6 y7 y8 y9 y13 y20 y22 y23 y24 y25 y42 y46 y47 y48 y49 y66 z0 => rfl
                refine R_nil (tr _ _ _ _ _ _ _ _ _ _ _ _ _ _ _ _ _ _ _ _ _ _) ?_; clear tr
                refine then_n ?_
                refine at_ret rfl ?_
                refine blk_r ?_
                refine then_r ?_
                refine then_r ?_
                refine blk_r ?_
                refine then_r ?_
                refine fpure ?_
                refine ⟨?_, rfl⟩
                rw [feasS, if_neg (fun hh => hh (by assumption)), if_neg (by omega), if_neg (fun hh => hh hrr), if_pos ⟨w, by omega, by omega, by omega, by omega⟩]
              · try simp only [decide_eq_true_eq, decide_eq_false_iff_not, Bool.not_eq_true', Bool.not_eq_false', beq_iff_eq, beq_eq_false_iff_ne, ne_eq] at h9
                refine at_skip rfl ?_
                refine blk_n ?_
                refine then_n ?_
                refine rg rfl ?_
                refine Rq ?_
                refine Rq ?_
                have tr : ∀ y0 y1 y2 y4 y5 y6 y7 y8 y9 y13 y20 y22 y23 y24 y25 y42 y46 y47 y48 y49 y66 z0 z1 : AV, trim [(48, z1), (67, z0), (0, y0), (1, y1), (2, y2), (4, y4), (5, y5), (6, y6), (7, y7), (8, y8), (9, y9), (13, y13), (20, y20), (22, y22), (23, y23), (24, y24), (25, y25), (42, y42), (46, y46), (47, y47), (48, y48), (49, y49), (66, y66)] [(0, y0), (1, y1), (2, y2), (4, y4), (5, y5), (6, y6), (7, y7), (8, y8), (9, y9), (13, y13), (20, y20), (22, y22), (23, y23), (24, y24), (25, y25), (42, y42), (46, y46), (47, y47), (48, y48), (49, y49), (66, y66)] = [(0, y0), (1, y1), (2, y2), (4, y4), (5, y5), (6, y6), (7, y7), (8, y8), (9, y9), (13, y13), (20, y20), (22, y22), (23, y23), (24, y24), (25, y25), (42, y42), (46, y46), (47, y47), (48, z1), (49, y49), (66, y66)] := fun y0 y1 y2 y4 y5 y6 y7 y8 y9 y13 y20 y22 y23 y24 y25 y42 y46 y47 y48 y49 y66 z0 z1 => rfl
                refine R_nil (tr _ _ _ _ _ _ _ _ _ _ _ _ _ _ _ _ _ _ _ _ _ _ _) ?_; clear tr
                refine then_n ?_
                exact ⟨_, _, ⟨w + 1, _, _, _, _, _, rfl, rfl, rfl, by omega, by exact all_step hz (by omega)⟩, by rfl, by omega⟩
            · try simp only [decide_eq_true_eq, decide_eq_false_iff_not, Bool.not_eq_true', Bool.not_eq_false', beq_iff_eq, beq_eq_false_iff_ne, ne_eq] at h8
              refine Rn ?_
              refine Rn ?_
              refine Rn ?_
              refine Rn ?_
              refine Rq ?_
              have tr : ∀ y0 y1 y2 y4 y5 y6 y7 y8 y9 y13 y20 y22 y23 y24 y25 y42 y46 y47 y48 y49 y66 z0 z1 z2 z3 z4 z5 z6 z7 z8 z9 z10 z11 z12 z13 : AV, trim [(66, z13), (65, z12), (64, z11), (63, z10), (62, z9), (61, z8), (60, z7), (59, z6), (58, z5), (57, z4), (56, z3), (55, z2), (54, z1), (53, z0), (0, y0), (1, y1), (2, y2), (4, y4), (5, y5), (6, y6), (7, y7), (8, y8), (9, y9), (13, y13), (20, y20), (22, y22), (23, y23), (24, y24), (25, y25), (42, y42), (46, y46), (47, y47), (48, y48), (49, y49), (66, y66)] [(0, y0), (1, y1), (2, y2), (4, y4), (5, y5), (6, y6), (7, y7), (8, y8), (9, y9), (13, y13), (20, y20), (22, y22), (23, y23), (24, y24), (25, y25), (42, y42), (46, y46), (47, y47), (48, y48), (49, y49), (66, y66)] = [(0, y0), (1, y1), (2, y2), (4, y4), (5, y5), (6, y6), (7, y7), (8, y8), (9, y9), (13, y13), (20, y20), (22, y22), (23, y23), (24, y24), (25, y25), (42, y42), (46, y46), (47, y47), (48, y48), (49, y49), (66, z13)] := fun y0 y1 y2 y4 y5 y6 y7 y8 y9 y13 y20 y22 y23 y24 y25 y42 y46 y47 y48 y49 y66 z0 z1 z2 z3 z4 z5 z6 z7 z8 z9 z10 z11 z12 z13 => rfl
              refine R_nil (tr _ _ _ _ _ _ _ _ _ _ _ _ _ _ _ _ _ _ _ _ _ _ _ _ _ _ _ _ _ _ _ _ _ _ _) ?_; clear tr
              refine then_n ?_
              refine cdf ?_
              refine at_skip rfl ?_
              refine blk_n ?_
              refine then_n ?_
              refine rg rfl ?_
              refine Rq ?_
              refine Rq ?_
              have tr : ∀ y0 y1 y2 y4 y5 y6 y7 y8 y9 y13 y20 y22 y23 y24 y25 y42 y46 y47 y48 y49 y66 z0 z1 : AV, trim [(48, z1), (67, z0), (0, y0), (1, y1), (2, y2), (4, y4), (5, y5), (6, y6), (7, y7), (8, y8), (9, y9), (13, y13), (20, y20), (22, y22), (23, y23), (24, y24), (25, y25), (42, y42), (46, y46), (47, y47), (48, y48), (49, y49), (66, y66)] [(0, y0), (1, y1), (2, y2), (4, y4), (5, y5), (6, y6), (7, y7), (8, y8), (9, y9), (13, y13), (20, y20), (22, y22), (23, y23), (24, y24), (25, y25), (42, y42), (46, y46), (47, y47), (48, y48), (49, y49), (66, y66)] = [(0, y0), (1, y1), (2, y2), (4, y4), (5, y5), (6, y6), (7, y7), (8, y8), (9, y9), (13, y13), (20, y20), (22, y22), (23, y23), (24, y24), (25, y25), (42, y42), (46, y46), (47, y47), (48, z1), (49, y49), (66, y66)] := fun y0 y1 y2 y4 y5 y6 y7 y8 y9 y13 y20 y22 y23 y24 y25 y42 y46 y47 y48 y49 y66 z0 z1 => rfl
              refine R_nil (tr _ _ _ _ _ _ _ _ _ _ _ _ _ _ _ _ _ _ _ _ _ _ _) ?_; clear tr
              refine then_n ?_
              exact ⟨_, _, ⟨w + 1, _, _, _, _, _, rfl, rfl, rfl, by omega, by exact all_step hz (by omega)⟩, by rfl, by omega⟩
          · try simp only [decide_eq_true_eq, decide_eq_false_iff_not, Bool.not_eq_true', Bool.not_eq_false', beq_iff_eq, beq_eq_false_iff_ne, ne_eq] at h7
            refine Rn ?_
            refine Rn ?_
            refine Rn ?_
            refine Rn ?_
            refine Rq ?_
            refine Rq ?_
            refine Rn ?_
            refine Rn ?_
            refine Rn ?_
            refine Rn ?_
            refine Rq ?_
            have tr : ∀ y0 y1 y2 y4 y5 y6 y7 y8 y9 y13 y20 y22 y23 y24 y25 y42 y46 y47 y48 y49 y66 z0 z1 z2 z3 z4 z5 z6 z7 z8 z9 z10 z11 z12 z13 : AV, trim [(66, z13), (65, z12), (64, z11), (63, z10), (62, z9), (61, z8), (60, z7), (59, z6), (58, z5), (57, z4), (56, z3), (55, z2), (54, z1), (53, z0), (0, y0), (1, y1), (2, y2), (4, y4), (5, y5), (6, y6), (7, y7), (8, y8), (9, y9), (13, y13), (20, y20), (22, y22), (23, y23), (24, y24), (25, y25), (42, y42), (46, y46), (47, y47), (48, y48), (49, y49), (66, y66)] [(0, y0), (1, y1), (2, y2), (4, y4), (5, y5), (6, y6), (7, y7), (8, y8), (9, y9), (13, y13), (20, y20), (22, y22), (23, y23), (24, y24), (25, y25), (42, y42), (46, y46), (47, y47), (48, y48), (49, y49), (66, y66)] = [(0, y0), (1, y1), (2, y2), (4, y4), (5, y5), (6, y6), (7, y7), (8, y8), (9, y9), (13, y13), (20, y20), (22, y22), (23, y23), (24, y24), (25, y25), (42, y42), (46, y46), (47, y47), (48, y48), (49, y49), (66, z13)] := fun y0 y1 y2 y4 y5 y6 y7 y8 y9 y13 y20 y22 y23 y24 y25 y42 y46 y47 y48 y49 y66 z0 z1 z2 z3 z4 z5 z6 z7 z8 z9 z10 z11 z12 z13 => rfl
            refine R_nil (tr _ _ _ _ _ _ _ _ _ _ _ _ _ _ _ _ _ _ _ _ _ _ _ _ _ _ _ _ _ _ _ _ _ _ _) ?_; clear tr
            refine then_n ?_
            refine cdf ?_
            refine at_skip rfl ?_
            refine blk_n ?_
            refine then_n ?_
            refine rg rfl ?_
            refine Rq ?_
            refine Rq ?_
            have tr : ∀ y0 y1 y2 y4 y5 y6 y7 y8 y9 y13 y20 y22 y23 y24 y25 y42 y46 y47 y48 y49 y66 z0 z1 : AV, trim [(48, z1), (67, z0), (0, y0), (1, y1), (2, y2), (4, y4), (5, y5), (6, y6), (7, y7), (8, y8), (9, y9), (13, y13), (20, y20), (22, y22), (23, y23), (24, y24), (25, y25), (42, y42), (46, y46), (47, y47), (48, y48), (49, y49), (66, y66)] [(0, y0), (1, y1), (2, y2), (4, y4), (5, y5), (6, y6), (7, y7), (8, y8), (9, y9), (13, y13), (20, y20), (22, y22), (23, y23), (24, y24), (25, y25), (42, y42), (46, y46), (47, y47), (48, y48), (49, y49), (66, y66)] = [(0, y0), (1, y1), (2, y2), (4, y4), (5, y5), (6, y6), (7, y7), (8, y8), (9, y9), (13, y13), (20, y20), (22, y22), (23, y23), (24, y24), (25, y25), (42, y42), (46, y46), (47, y47), (48, z1), (49, y49), (66, y66)] := fun y0 y1 y2 y4 y5 y6 y7 y8 y9 y13 y20 y22 y23 y24 y25 y42 y46 y47 y48 y49 y66 z0 z1 => rfl
            refine R_nil (tr _ _ _ _ _ _ _ _ _ _ _ _ _ _ _ _ _ _ _ _ _ _ _) ?_; clear tr
            refine then_n ?_
            exact ⟨_, _, ⟨w + 1, _, _, _, _, _, rfl, rfl, rfl, by omega, by exact all_step hz (by omega)⟩, by rfl, by omega⟩
        · try simp only [decide_eq_true_eq, decide_eq_false_iff_not, Bool.not_eq_true', Bool.not_eq_false', beq_iff_eq, beq_eq_false_iff_ne, ne_eq] at h6
          refine at_exit rfl ?_
          refine then_x ?_
          refine then_x ?_
          refine blk_x ?_
          refine then_n ?_
          refine at_seq rfl ?_
          refine rg rfl ?_
          refine Rq ?_
          have tr : ∀ y0 y1 y2 y4 y5 y6 y7 y8 y9 y13 y20 y22 y23 y24 y25 y42 y46 y47 y48 y49 y66 z0 : AV, trim [(4, z0), (0, y0), (1, y1), (2, y2), (4, y4), (5, y5), (6, y6), (7, y7), (8, y8), (9, y9), (13, y13), (20, y20), (22, y22), (23, y23), (24, y24), (25, y25), (42, y42), (46, y46), (47, y47), (48, y48), (49, y49), (66, y66)] [(0, y0), (1, y1), (2, y2), (4, y4), (5, y5), (6, y6), (7, y7), (8, y8), (9, y9), (13, y13), (20, y20), (22, y22), (23, y23), (24, y24), (25, y25), (42, y42), (46, y46), (47, y47), (48, y48), (49, y49), (66, y66)] = [(0, y0), (1, y1), (2, y2), (4, z0), (5, y5), (6, y6), (7, y7), (8, y8), (9, y9), (13, y13), (20, y20), (22, y22), (23, y23), (24, y24), (25, y25), (42, y42), (46, y46), (47, y47), (48, y48), (49, y49), (66, y66)] := fun y0 y1 y2 y4 y5 y6 y7 y8 y9 y13 y20 y22 y23 y24 y25 y42 y46 y47 y48 y49 y66 z0 => rfl
          refine R_nil (tr _ _ _ _ _ _ _ _ _ _ _ _ _ _ _ _ _ _ _ _ _ _) ?_; clear tr
          refine then_n ?_
          refine at_ret rfl ?_
          refine fpure ?_
          refine ⟨?_, rfl⟩
          rw [feasS, if_neg (fun hh => hh (by assumption)), if_neg (by omega), if_neg (fun hh => hh hrr), if_neg (fun ⟨j, hj, h1, h2, h3⟩ => hz j (by omega) ⟨h1, h2, h3⟩)]

theorem value_ok (lim : Nat) (H : Heap) (n s t : Int) (E : List Ed) (f : List Int) :
    ACall sig lim 17 [.agg (graphC n s t E), intsAV f] H fun r H' => r = .tup [AV.i (valueS n s t E f).1, AV.i (valueS n s t E f).2] ∧ H' = H := by
  refine ACall_pure (fa := fa17) rfl rfl rfl rfl ?_
  have tr : ∀ a0 a1 : AV, env0 fa17.keep [a0, a1] = [(0, a0), (1, a1), (2, .any), (4, .any), (5, .any), (6, .any), (11, .any)] := fun a0 a1 => rfl
  refine W_to (tr _ _) ?_; clear tr
  refine at_seq rfl ?_
  refine rg rfl ?_
  refine R_box rfl (by simp (disch := first | omega | (simp only [List.length_map, List.length_append, List.length_set, List.length_cons, List.length_nil, List.length_take, List.length_drop]; omega)) only [go_sem, ↓reduceIte, Nat.reduceEqDiff, reduceCtorEq]; rfl) rfl rfl ?_
  refine Rq ?_
  refine Rq ?_
  have tr : ∀ y0 y1 y2 y4 y5 y6 y11 z0 z1 z2 : AV, trim [(5, z2), (4, z1), (2, z0), (0, y0), (1, y1), (2, y2), (4, y4), (5, y5), (6, y6), (11, y11)] [(0, y0), (1, y1), (2, y2), (4, y4), (5, y5), (6, y6), (11, y11)] = [(0, y0), (1, y1), (2, z0), (4, z1), (5, z2), (6, y6), (11, y11)] := fun y0 y1 y2 y4 y5 y6 y11 z0 z1 z2 => rfl
  refine R_nil (tr _ _ _ _ _ _ _ _ _ _) ?_; clear tr
  refine then_n ?_
  refine at_seq rfl ?_
  refine at_seq rfl ?_
  refine rg rfl ?_
  refine Rq ?_
  refine Rq ?_
  refine Rcall ?_
  refine ACall_eq (feas_ok _ _ n s t E f) ?_
  refine Rq ?_
  have tr : ∀ y0 y1 y2 y4 y5 y6 y11 z0 z1 z2 z3 : AV, trim [(6, z3), (9, z2), (8, z1), (7, z0), (0, y0), (1, y1), (2, y2), (4, y4), (5, y5), (6, y6), (11, y11)] [(0, y0), (1, y1), (2, y2), (4, y4), (5, y5), (6, y6), (11, y11)] = [(0, y0), (1, y1), (2, y2), (4, y4), (5, y5), (6, z3), (11, y11)] := fun y0 y1 y2 y4 y5 y6 y11 z0 z1 z2 z3 => rfl
  refine R_nil (tr _ _ _ _ _ _ _ _ _ _ _) ?_; clear tr
  refine then_n ?_
  refine at_seq rfl ?_
  refine rg rfl ?_
  refine Rq ?_
  refine Rq ?_
  have tr : ∀ y0 y1 y2 y4 y5 y6 y11 z0 z1 : AV, trim [(11, z1), (10, z0), (0, y0), (1, y1), (2, y2), (4, y4), (5, y5), (6, y6), (11, y11)] [(0, y0), (1, y1), (2, y2), (4, y4), (5, y5), (6, y6), (11, y11)] = [(0, y0), (1, y1), (2, y2), (4, y4), (5, y5), (6, y6), (11, z1)] := fun y0 y1 y2 y4 y5 y6 y11 z0 z1 => rfl
  refine R_nil (tr _ _ _ _ _ _ _ _ _) ?_; clear tr
  refine then_n ?_
  refine cdd (fun h1 => ?_) (fun h1 => ?_)
  · try simp only [decide_eq_true_eq, decide_eq_false_iff_not, Bool.not_eq_true', Bool.not_eq_false', beq_iff_eq, beq_eq_false_iff_ne, ne_eq] at h1
    refine at_seq rfl ?_
    refine rg rfl ?_
    refine Rq ?_
    refine Rq ?_
    refine Rq ?_
    have tr : ∀ y0 y1 y2 y4 y5 y6 y11 z0 z1 z2 : AV, trim [(5, z2), (4, z1), (12, z0), (0, y0), (1, y1), (2, y2), (4, y4), (5, y5), (6, y6), (11, y11)] [(0, y0), (1, y1), (2, y2), (4, y4), (5, y5), (6, y6), (11, y11)] = [(0, y0), (1, y1), (2, y2), (4, z1), (5, z2), (6, y6), (11, y11)] := fun y0 y1 y2 y4 y5 y6 y11 z0 z1 z2 => rfl
    refine R_nil (tr _ _ _ _ _ _ _ _ _ _) ?_; clear tr
    refine then_n ?_
    refine at_ret rfl ?_
    refine then_r ?_
    refine fpure ?_
    refine ⟨?_, rfl⟩
    rw [valueS, if_pos (by assumption)]
  · try simp only [decide_eq_true_eq, decide_eq_false_iff_not, Bool.not_eq_true', Bool.not_eq_false', beq_iff_eq, beq_eq_false_iff_ne, ne_eq] at h1
    refine at_skip rfl ?_
    refine then_n ?_
    refine at_seq rfl ?_
    refine rl rfl rfl ?_
    obtain ⟨g, hfl, hrr, hsb⟩ := feas_of (by assumption : feasS n s t E f = 0)
    have g1 := g.n2
    have g3 := g.s0
    have g4 := g.s1
    have hsl : (surpS n E f).length = n.toNat := surp_len n.toNat E f E.length
    refine Lq ?_
    refine Lq ?_
    refine Lq ?_
    refine Lq ?_
    refine L_nil ?_
    refine Ms ?_
    refine Rcall ?_
    refine ACall_eq (surplus_ok _ _ n s t E f g hfl (fRng_cap g hrr)) ?_
    refine R_end ?_
    refine M_nil ?_
    refine Rq ?_
    refine Rq ?_
    refine Rq ?_
    refine Rq ?_
    have tr : ∀ y0 y1 y2 y4 y5 y6 y11 z0 z1 z2 z3 z4 z5 z6 z7 z8 : AV, trim [(5, z8), (4, z7), (19, z6), (18, z5), (15, z4), (17, z3), (16, z2), (14, z1), (13, z0), (0, y0), (1, y1), (2, y2), (4, y4), (5, y5), (6, y6), (11, y11)] [(0, y0), (1, y1), (2, y2), (4, y4), (5, y5), (6, y6), (11, y11)] = [(0, y0), (1, y1), (2, y2), (4, z7), (5, z8), (6, y6), (11, y11)] := fun y0 y1 y2 y4 y5 y6 y11 z0 z1 z2 z3 z4 z5 z6 z7 z8 => rfl
    refine R_nil (tr _ _ _ _ _ _ _ _ _ _ _ _ _ _ _ _) ?_; clear tr
    refine then_n ?_
    refine at_ret rfl ?_
    refine fpure ?_
    refine ⟨?_, rfl⟩
    rw [valueS, if_neg (fun hh => hh (by assumption))]

theorem rvalue_ok (lim : Nat) (H : Heap) (n s t : Int) (E : List Ed) (f : List Int) :
    ACall sig lim 18 [.agg (graphC n s t E), intsAV f] H fun r H' => r = .tup [AV.i (valueS n s t E f).1, AV.i (valueS n s t E f).2] ∧ H' = H := by
  refine ACall_pure (fa := fa18) rfl rfl rfl rfl ?_
  have tr : ∀ a0 a1 : AV, env0 fa18.keep [a0, a1] = [(0, a0), (1, a1), (2, .any), (4, .any), (5, .any), (6, .any), (11, .any)] := fun a0 a1 => rfl
  refine W_to (tr _ _) ?_; clear tr
  refine at_seq rfl ?_
  refine rg rfl ?_
  refine R_box rfl (by simp (disch := first | omega | (simp only [List.length_map, List.length_append, List.length_set, List.length_cons, List.length_nil, List.length_take, List.length_drop]; omega)) only [go_sem, ↓reduceIte, Nat.reduceEqDiff, reduceCtorEq]; rfl) rfl rfl ?_
  refine Rq ?_
  refine Rq ?_
  have tr : ∀ y0 y1 y2 y4 y5 y6 y11 z0 z1 z2 : AV, trim [(5, z2), (4, z1), (2, z0), (0, y0), (1, y1), (2, y2), (4, y4), (5, y5), (6, y6), (11, y11)] [(0, y0), (1, y1), (2, y2), (4, y4), (5, y5), (6, y6), (11, y11)] = [(0, y0), (1, y1), (2, z0), (4, z1), (5, z2), (6, y6), (11, y11)] := fun y0 y1 y2 y4 y5 y6 y11 z0 z1 z2 => rfl
  refine R_nil (tr _ _ _ _ _ _ _ _ _ _) ?_; clear tr
  refine then_n ?_
  refine at_seq rfl ?_
  refine at_seq rfl ?_
  refine rg rfl ?_
  refine Rq ?_
  refine Rq ?_
  refine Rcall ?_
  refine ACall_eq (rfeas_ok _ _ n s t E f) ?_
  refine Rq ?_
  have tr : ∀ y0 y1 y2 y4 y5 y6 y11 z0 z1 z2 z3 : AV, trim [(6, z3), (9, z2), (8, z1), (7, z0), (0, y0), (1, y1), (2, y2), (4, y4), (5, y5), (6, y6), (11, y11)] [(0, y0), (1, y1), (2, y2), (4, y4), (5, y5), (6, y6), (11, y11)] = [(0, y0), (1, y1), (2, y2), (4, y4), (5, y5), (6, z3), (11, y11)] := fun y0 y1 y2 y4 y5 y6 y11 z0 z1 z2 z3 => rfl
  refine R_nil (tr _ _ _ _ _ _ _ _ _ _ _) ?_; clear tr
  refine then_n ?_
  refine at_seq rfl ?_
  refine rg rfl ?_
  refine Rq ?_
  refine Rq ?_
  have tr : ∀ y0 y1 y2 y4 y5 y6 y11 z0 z1 : AV, trim [(11, z1), (10, z0), (0, y0), (1, y1), (2, y2), (4, y4), (5, y5), (6, y6), (11, y11)] [(0, y0), (1, y1), (2, y2), (4, y4), (5, y5), (6, y6), (11, y11)] = [(0, y0), (1, y1), (2, y2), (4, y4), (5, y5), (6, y6), (11, z1)] := fun y0 y1 y2 y4 y5 y6 y11 z0 z1 => rfl
  refine R_nil (tr _ _ _ _ _ _ _ _ _) ?_; clear tr
  refine then_n ?_
  refine cdd (fun h1 => ?_) (fun h1 => ?_)
  · try simp only [decide_eq_true_eq, decide_eq_false_iff_not, Bool.not_eq_true', Bool.not_eq_false', beq_iff_eq, beq_eq_false_iff_ne, ne_eq] at h1
    refine at_seq rfl ?_
    refine rg rfl ?_
    refine Rq ?_
    refine Rq ?_
    refine Rq ?_
    have tr : ∀ y0 y1 y2 y4 y5 y6 y11 z0 z1 z2 : AV, trim [(5, z2), (4, z1), (12, z0), (0, y0), (1, y1), (2, y2), (4, y4), (5, y5), (6, y6), (11, y11)] [(0, y0), (1, y1), (2, y2), (4, y4), (5, y5), (6, y6), (11, y11)] = [(0, y0), (1, y1), (2, y2), (4, z1), (5, z2), (6, y6), (11, y11)] := fun y0 y1 y2 y4 y5 y6 y11 z0 z1 z2 => rfl
    refine R_nil (tr _ _ _ _ _ _ _ _ _ _) ?_; clear tr
    refine then_n ?_
    refine at_ret rfl ?_
    refine then_r ?_
    refine fpure ?_
    refine ⟨?_, rfl⟩
    rw [valueS, if_pos (by assumption)]
  · try simp only [decide_eq_true_eq, decide_eq_false_iff_not, Bool.not_eq_true', Bool.not_eq_false', beq_iff_eq, beq_eq_false_iff_ne, ne_eq] at h1
    refine at_skip rfl ?_
    refine then_n ?_
    refine at_seq rfl ?_
    refine rl rfl rfl ?_
    obtain ⟨g, hfl, hrr, hsb⟩ := feas_of (by assumption : feasS n s t E f = 0)
    have g1 := g.n2
    have g3 := g.s0
    have g4 := g.s1
    have hsl : (surpS n E f).length = n.toNat := surp_len n.toNat E f E.length
    refine Lq ?_
    refine Lq ?_
    refine Lq ?_
    refine Lq ?_
    refine L_nil ?_
    refine Ms ?_
    refine Rcall ?_
    refine ACall_eq (excess_ok _ _ n s t E f g hfl (fRng_cap g hrr)) ?_
    refine R_end ?_
    refine M_nil ?_
    refine Rq ?_
    refine Rq ?_
    refine Rq ?_
    refine Rq ?_
    have tr : ∀ y0 y1 y2 y4 y5 y6 y11 z0 z1 z2 z3 z4 z5 z6 z7 z8 : AV, trim [(5, z8), (4, z7), (19, z6), (18, z5), (15, z4), (17, z3), (16, z2), (14, z1), (13, z0), (0, y0), (1, y1), (2, y2), (4, y4), (5, y5), (6, y6), (11, y11)] [(0, y0), (1, y1), (2, y2), (4, y4), (5, y5), (6, y6), (11, y11)] = [(0, y0), (1, y1), (2, y2), (4, z7), (5, z8), (6, y6), (11, y11)] := fun y0 y1 y2 y4 y5 y6 y11 z0 z1 z2 z3 z4 z5 z6 z7 z8 => rfl
    refine R_nil (tr _ _ _ _ _ _ _ _ _ _ _ _ _ _ _ _) ?_; clear tr
    refine then_n ?_
    refine at_ret rfl ?_
    refine fpure ?_
    refine ⟨?_, rfl⟩
    rw [valueS, if_neg (fun hh => hh (by assumption))]

end Go.Proofs.Ytdicnojnkbmdlaa
