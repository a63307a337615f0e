/-
  Walks of chapters 52 and 53. The steps are written by program (walk.py).
-/
import Derived.Test.YtdicnojnkbmdlaaS
set_option linter.unusedSimpArgs false
set_option linter.unusedVariables false
set_option maxHeartbeats 40000000
set_option maxRecDepth 4000
namespace Go.Proofs.Ytdicnojnkbmdlaa
open Go Go.Am

theorem pair_ok (lim : Nat) (H : Heap) (p : Pr) :
    ACall sig lim 69 [.agg (prC p)] H fun r H' => r = .agg (prC (norm p)) ∧ H' = H := by
  refine ACall_pure (fa := fa69) rfl rfl rfl rfl ?_
  have tr : ∀ a0 : AV, env0 fa69.keep [a0] = [(0, a0), (1, .any), (2, .any)] := fun a0 => rfl
  refine W_to (tr _) ?_; clear tr
  refine at_seq rfl ?_
  refine rg rfl ?_
  refine R_box rfl (by simp (disch := first | omega | (simp only [List.length_map, List.length_append, List.length_set, List.length_cons, List.length_nil, List.length_take, List.length_drop]; omega)) only [go_sem, ↓reduceIte, Nat.reduceEqDiff, reduceCtorEq]; rfl) rfl rfl ?_
  refine R_alloc (by simp (disch := first | omega | (simp only [List.length_map, List.length_append, List.length_set, List.length_cons, List.length_nil, List.length_take, List.length_drop]; omega)) only [go_sem, ↓reduceIte, Nat.reduceEqDiff, reduceCtorEq]; rfl) rfl (by simp only [List.map_cons, List.map_nil]; rfl) ?_
  have tr : ∀ y0 y1 y2 z0 z1 : AV, trim [(2, z1), (1, z0), (0, y0), (1, y1), (2, y2)] [(0, y0), (1, y1), (2, y2)] = [(0, y0), (1, z0), (2, z1)] := fun y0 y1 y2 z0 z1 => rfl
  refine R_nil (tr _ _ _ _ _) ?_; clear tr
  refine then_n ?_
  refine at_seq rfl ?_
  refine rg rfl ?_
  refine Rq ?_
  refine Rq ?_
  refine Rq ?_
  refine Rq ?_
  refine Rq ?_
  refine Rq ?_
  refine Rq ?_
  refine Rq ?_
  refine Rq ?_
  refine Rq ?_
  refine Rq ?_
  refine R_store ty58 (by simp (disch := first | omega | (simp only [List.length_map, List.length_append, List.length_set, List.length_cons, List.length_nil, List.length_take, List.length_drop]; omega)) only [go_sem, ↓reduceIte, Nat.reduceEqDiff, reduceCtorEq]; rfl) (by simp (disch := first | omega | (simp only [List.length_map, List.length_append, List.length_set, List.length_cons, List.length_nil, List.length_take, List.length_drop]; omega)) only [go_sem, ↓reduceIte, Nat.reduceEqDiff, reduceCtorEq]; rfl) (by simp (disch := first | omega | (simp only [List.length_map, List.length_append, List.length_set, List.length_cons, List.length_nil, List.length_take, List.length_drop]; omega)) only [go_sem, ↓reduceIte, Nat.reduceEqDiff, reduceCtorEq]; rfl) (by simp) (by rfl) (by simp (disch := first | omega | (simp only [List.length_map, List.length_append, List.length_set, List.length_cons, List.length_nil, List.length_take, List.length_drop]; omega)) only [go_sem, ↓reduceIte, Nat.reduceEqDiff, reduceCtorEq]; rfl) ?_
  have tr : ∀ y0 y1 y2 z0 z1 z2 z3 z4 z5 z6 z7 z8 z9 z10 : AV, trim [(13, z10), (12, z9), (11, z8), (10, z7), (9, z6), (8, z5), (7, z4), (6, z3), (5, z2), (4, z1), (3, z0), (0, y0), (1, y1), (2, y2)] [(0, y0), (1, y1), (2, y2)] = [(0, y0), (1, y1), (2, y2)] := fun y0 y1 y2 z0 z1 z2 z3 z4 z5 z6 z7 z8 z9 z10 => rfl
  refine R_nil (tr _ _ _ _ _ _ _ _ _ _ _ _ _ _) ?_; clear tr
  refine then_n ?_
  refine at_ret rfl ?_
  refine fin_pure (rs := [.cell 2 58]) rfl (by simp only [go_sem, ↓reduceIte, Nat.reduceEqDiff]; rfl) (by simp only [go_sem, ↓reduceIte, Nat.reduceEqDiff]; rfl) ?_
  exact ⟨rfl, rfl⟩

theorem same_ok (lim : Nat) (H : Heap) (p q : Pr) :
    ACall sig lim 74 [.agg (prC p), .agg (prC q)] H fun r H' => r = .v (.bool (decide (norm p = norm q))) ∧ H' = H := by
  refine ACall_pure (fa := fa74) rfl rfl rfl rfl ?_
  have tr : ∀ a0 a1 : AV, env0 fa74.keep [a0, a1] = [(0, a0), (1, a1), (2, .any), (3, .any), (4, .any)] := fun a0 a1 => rfl
  refine W_to (tr _ _) ?_; clear tr
  refine at_seq rfl ?_
  refine rg rfl ?_
  refine R_box rfl (by simp (disch := first | omega | (simp only [List.length_map, List.length_append, List.length_set, List.length_cons, List.length_nil, List.length_take, List.length_drop]; omega)) only [go_sem, ↓reduceIte, Nat.reduceEqDiff, reduceCtorEq]; rfl) rfl rfl ?_
  refine R_box rfl (by simp (disch := first | omega | (simp only [List.length_map, List.length_append, List.length_set, List.length_cons, List.length_nil, List.length_take, List.length_drop]; omega)) only [go_sem, ↓reduceIte, Nat.reduceEqDiff, reduceCtorEq]; rfl) rfl rfl ?_
  refine Rq ?_
  have tr : ∀ y0 y1 y2 y3 y4 z0 z1 z2 : AV, trim [(4, z2), (3, z1), (2, z0), (0, y0), (1, y1), (2, y2), (3, y3), (4, y4)] [(0, y0), (1, y1), (2, y2), (3, y3), (4, y4)] = [(0, y0), (1, y1), (2, z0), (3, z1), (4, z2)] := fun y0 y1 y2 y3 y4 z0 z1 z2 => rfl
  refine R_nil (tr _ _ _ _ _ _ _ _) ?_; clear tr
  refine then_n ?_
  refine at_seq rfl ?_
  refine rg rfl ?_
  refine Rq ?_
  refine Rq ?_
  refine Rq ?_
  refine Rq ?_
  refine Rq ?_
  refine Rq ?_
  refine Rp_split (fun h1 => ?_) (fun h1 => ?_)
  · try simp only [decide_eq_true_eq, decide_eq_false_iff_not, Bool.not_eq_true', Bool.not_eq_false', beq_iff_eq, beq_eq_false_iff_ne, ne_eq] at h1
    refine Ry ?_
    refine Rq ?_
    refine Ry ?_
    refine Rq ?_
    refine Ry ?_
    refine Rq ?_
    refine Ry ?_
    refine Rq ?_
    refine Ry ?_
    refine Rq ?_
    refine Rq ?_
    refine Rq ?_
    refine Rp_split (fun h2 => ?_) (fun h2 => ?_)
    · try simp only [decide_eq_true_eq, decide_eq_false_iff_not, Bool.not_eq_true', Bool.not_eq_false', beq_iff_eq, beq_eq_false_iff_ne, ne_eq] at h2
      refine Rn ?_
      refine Rn ?_
      refine Rn ?_
      refine Rn ?_
      refine Rn ?_
      refine Rn ?_
      refine Ru ?_
      refine Ru ?_
      refine Ru ?_
      refine Ru ?_
      refine Ru ?_
      refine Rn ?_
      refine Rq ?_
      refine Rq ?_
      have tr : ∀ y0 y1 y2 y3 y4 z0 z1 z2 z3 z4 z5 z6 z7 z8 z9 z10 z11 z12 z13 z14 z15 z16 z17 z18 z19 z20 z21 z22 z23 z24 z25 z26 : AV, trim [(4, z26), (30, z25), (29, z24), (28, z23), (27, z22), (26, z21), (25, z20), (24, z19), (23, z18), (22, z17), (21, z16), (20, z15), (19, z14), (18, z13), (17, z12), (16, z11), (15, z10), (14, z9), (13, z8), (12, z7), (11, z6), (10, z5), (9, z4), (8, z3), (7, z2), (6, z1), (5, z0), (0, y0), (1, y1), (2, y2), (3, y3), (4, y4)] [(0, y0), (1, y1), (2, y2), (3, y3), (4, y4)] = [(0, y0), (1, y1), (2, y2), (3, y3), (4, z26)] := fun y0 y1 y2 y3 y4 z0 z1 z2 z3 z4 z5 z6 z7 z8 z9 z10 z11 z12 z13 z14 z15 z16 z17 z18 z19 z20 z21 z22 z23 z24 z25 z26 => rfl
      refine R_nil (tr _ _ _ _ _ _ _ _ _ _ _ _ _ _ _ _ _ _ _ _ _ _ _ _ _ _ _ _ _ _ _ _) ?_; clear tr
      refine then_n ?_
      refine at_ret rfl ?_
      refine fpure ?_
      refine ⟨?_, rfl⟩
      have hn := norm_iff p q
      first | (rw [decide_eq_true (hn.1 (by omega))]; done) | (rw [decide_eq_false (fun hh => by have := hn.2 hh; omega)]; done) | (congr 2; rw [Bool.eq_iff_iff]; simp only [beq_iff_eq, decide_eq_true_eq, ← hn]; omega)
    · try simp only [decide_eq_true_eq, decide_eq_false_iff_not, Bool.not_eq_true', Bool.not_eq_false', beq_iff_eq, beq_eq_false_iff_ne, ne_eq] at h2
      refine Ry ?_
      refine Rq ?_
      refine Ry ?_
      refine Rq ?_
      refine Ry ?_
      refine Rq ?_
      refine Ry ?_
      refine Rq ?_
      refine Ry ?_
      refine Rq ?_
      refine Ry ?_
      refine Rq ?_
      refine Rp_split (fun h3 => ?_) (fun h3 => ?_)
      · try simp only [decide_eq_true_eq, decide_eq_false_iff_not, Bool.not_eq_true', Bool.not_eq_false', beq_iff_eq, beq_eq_false_iff_ne, ne_eq] at h3
        refine Ry ?_
        refine Rq ?_
        refine Ry ?_
        refine Rq ?_
        refine Ry ?_
        refine Rq ?_
        refine Ry ?_
        refine Rq ?_
        refine Ry ?_
        refine Rq ?_
        refine Ry ?_
        refine Rq ?_
        refine Rq ?_
        refine Rq ?_
        have tr : ∀ y0 y1 y2 y3 y4 z0 z1 z2 z3 z4 z5 z6 z7 z8 z9 z10 z11 z12 z13 z14 z15 z16 z17 z18 z19 z20 z21 z22 z23 z24 z25 z26 : AV, trim [(4, z26), (30, z25), (29, z24), (28, z23), (27, z22), (26, z21), (25, z20), (24, z19), (23, z18), (22, z17), (21, z16), (20, z15), (19, z14), (18, z13), (17, z12), (16, z11), (15, z10), (14, z9), (13, z8), (12, z7), (11, z6), (10, z5), (9, z4), (8, z3), (7, z2), (6, z1), (5, z0), (0, y0), (1, y1), (2, y2), (3, y3), (4, y4)] [(0, y0), (1, y1), (2, y2), (3, y3), (4, y4)] = [(0, y0), (1, y1), (2, y2), (3, y3), (4, z26)] := fun y0 y1 y2 y3 y4 z0 z1 z2 z3 z4 z5 z6 z7 z8 z9 z10 z11 z12 z13 z14 z15 z16 z17 z18 z19 z20 z21 z22 z23 z24 z25 z26 => rfl
        refine R_nil (tr _ _ _ _ _ _ _ _ _ _ _ _ _ _ _ _ _ _ _ _ _ _ _ _ _ _ _ _ _ _ _ _) ?_; clear tr
        refine then_n ?_
        refine at_ret rfl ?_
        refine fpure ?_
        refine ⟨?_, rfl⟩
        have hn := norm_iff p q
        first | (rw [decide_eq_true (hn.1 (by omega))]; done) | (rw [decide_eq_false (fun hh => by have := hn.2 hh; omega)]; done) | (congr 2; rw [Bool.eq_iff_iff]; simp only [beq_iff_eq, decide_eq_true_eq, ← hn]; omega)
      · try simp only [decide_eq_true_eq, decide_eq_false_iff_not, Bool.not_eq_true', Bool.not_eq_false', beq_iff_eq, beq_eq_false_iff_ne, ne_eq] at h3
        refine Rn ?_
        refine Rn ?_
        refine Rn ?_
        refine Rn ?_
        refine Rn ?_
        refine Ry ?_
        refine Rq ?_
        refine Rq ?_
        refine Rq ?_
        have tr : ∀ y0 y1 y2 y3 y4 z0 z1 z2 z3 z4 z5 z6 z7 z8 z9 z10 z11 z12 z13 z14 z15 z16 z17 z18 z19 z20 z21 z22 z23 z24 z25 z26 : AV, trim [(4, z26), (30, z25), (29, z24), (28, z23), (27, z22), (26, z21), (25, z20), (24, z19), (23, z18), (22, z17), (21, z16), (20, z15), (19, z14), (18, z13), (17, z12), (16, z11), (15, z10), (14, z9), (13, z8), (12, z7), (11, z6), (10, z5), (9, z4), (8, z3), (7, z2), (6, z1), (5, z0), (0, y0), (1, y1), (2, y2), (3, y3), (4, y4)] [(0, y0), (1, y1), (2, y2), (3, y3), (4, y4)] = [(0, y0), (1, y1), (2, y2), (3, y3), (4, z26)] := fun y0 y1 y2 y3 y4 z0 z1 z2 z3 z4 z5 z6 z7 z8 z9 z10 z11 z12 z13 z14 z15 z16 z17 z18 z19 z20 z21 z22 z23 z24 z25 z26 => rfl
        refine R_nil (tr _ _ _ _ _ _ _ _ _ _ _ _ _ _ _ _ _ _ _ _ _ _ _ _ _ _ _ _ _ _ _ _) ?_; clear tr
        refine then_n ?_
        refine at_ret rfl ?_
        refine fpure ?_
        refine ⟨?_, rfl⟩
        have hn := norm_iff p q
        first | (rw [decide_eq_true (hn.1 (by omega))]; done) | (rw [decide_eq_false (fun hh => by have := hn.2 hh; omega)]; done) | (congr 2; rw [Bool.eq_iff_iff]; simp only [beq_iff_eq, decide_eq_true_eq, ← hn]; omega)
  · try simp only [decide_eq_true_eq, decide_eq_false_iff_not, Bool.not_eq_true', Bool.not_eq_false', beq_iff_eq, beq_eq_false_iff_ne, ne_eq] at h1
    refine Rn ?_
    refine Rn ?_
    refine Rn ?_
    refine Rn ?_
    refine Rn ?_
    refine Rq ?_
    refine Rq ?_
    refine Ry ?_
    refine Rq ?_
    refine Ry ?_
    refine Rq ?_
    refine Ry ?_
    refine Rq ?_
    refine Ry ?_
    refine Rq ?_
    refine Ry ?_
    refine Rq ?_
    refine Ry ?_
    refine Rq ?_
    refine Rp_split (fun h4 => ?_) (fun h4 => ?_)
    · try simp only [decide_eq_true_eq, decide_eq_false_iff_not, Bool.not_eq_true', Bool.not_eq_false', beq_iff_eq, beq_eq_false_iff_ne, ne_eq] at h4
      refine Ry ?_
      refine Rq ?_
      refine Ry ?_
      refine Rq ?_
      refine Ry ?_
      refine Rq ?_
      refine Ry ?_
      refine Rq ?_
      refine Ry ?_
      refine Rq ?_
      refine Ry ?_
      refine Rq ?_
      refine Rq ?_
      refine Rq ?_
      have tr : ∀ y0 y1 y2 y3 y4 z0 z1 z2 z3 z4 z5 z6 z7 z8 z9 z10 z11 z12 z13 z14 z15 z16 z17 z18 z19 z20 z21 z22 z23 z24 z25 z26 : AV, trim [(4, z26), (30, z25), (29, z24), (28, z23), (27, z22), (26, z21), (25, z20), (24, z19), (23, z18), (22, z17), (21, z16), (20, z15), (19, z14), (18, z13), (17, z12), (16, z11), (15, z10), (14, z9), (13, z8), (12, z7), (11, z6), (10, z5), (9, z4), (8, z3), (7, z2), (6, z1), (5, z0), (0, y0), (1, y1), (2, y2), (3, y3), (4, y4)] [(0, y0), (1, y1), (2, y2), (3, y3), (4, y4)] = [(0, y0), (1, y1), (2, y2), (3, y3), (4, z26)] := fun y0 y1 y2 y3 y4 z0 z1 z2 z3 z4 z5 z6 z7 z8 z9 z10 z11 z12 z13 z14 z15 z16 z17 z18 z19 z20 z21 z22 z23 z24 z25 z26 => rfl
      refine R_nil (tr _ _ _ _ _ _ _ _ _ _ _ _ _ _ _ _ _ _ _ _ _ _ _ _ _ _ _ _ _ _ _ _) ?_; clear tr
      refine then_n ?_
      refine at_ret rfl ?_
      refine fpure ?_
      refine ⟨?_, rfl⟩
      have hn := norm_iff p q
      first | (rw [decide_eq_true (hn.1 (by omega))]; done) | (rw [decide_eq_false (fun hh => by have := hn.2 hh; omega)]; done) | (congr 2; rw [Bool.eq_iff_iff]; simp only [beq_iff_eq, decide_eq_true_eq, ← hn]; omega)
    · try simp only [decide_eq_true_eq, decide_eq_false_iff_not, Bool.not_eq_true', Bool.not_eq_false', beq_iff_eq, beq_eq_false_iff_ne, ne_eq] at h4
      refine Rn ?_
      refine Rn ?_
      refine Rn ?_
      refine Rn ?_
      refine Rn ?_
      refine Ry ?_
      refine Rq ?_
      refine Rq ?_
      refine Rq ?_
      have tr : ∀ y0 y1 y2 y3 y4 z0 z1 z2 z3 z4 z5 z6 z7 z8 z9 z10 z11 z12 z13 z14 z15 z16 z17 z18 z19 z20 z21 z22 z23 z24 z25 z26 : AV, trim [(4, z26), (30, z25), (29, z24), (28, z23), (27, z22), (26, z21), (25, z20), (24, z19), (23, z18), (22, z17), (21, z16), (20, z15), (19, z14), (18, z13), (17, z12), (16, z11), (15, z10), (14, z9), (13, z8), (12, z7), (11, z6), (10, z5), (9, z4), (8, z3), (7, z2), (6, z1), (5, z0), (0, y0), (1, y1), (2, y2), (3, y3), (4, y4)] [(0, y0), (1, y1), (2, y2), (3, y3), (4, y4)] = [(0, y0), (1, y1), (2, y2), (3, y3), (4, z26)] := fun y0 y1 y2 y3 y4 z0 z1 z2 z3 z4 z5 z6 z7 z8 z9 z10 z11 z12 z13 z14 z15 z16 z17 z18 z19 z20 z21 z22 z23 z24 z25 z26 => rfl
      refine R_nil (tr _ _ _ _ _ _ _ _ _ _ _ _ _ _ _ _ _ _ _ _ _ _ _ _ _ _ _ _ _ _ _ _) ?_; clear tr
      refine then_n ?_
      refine at_ret rfl ?_
      refine fpure ?_
      refine ⟨?_, rfl⟩
      have hn := norm_iff p q
      first | (rw [decide_eq_true (hn.1 (by omega))]; done) | (rw [decide_eq_false (fun hh => by have := hn.2 hh; omega)]; done) | (congr 2; rw [Bool.eq_iff_iff]; simp only [beq_iff_eq, decide_eq_true_eq, ← hn]; omega)

theorem index_ok (lim : Nat) (H : Heap) (b : Nat) (m : List Pr) (p : Pr) (qb : hget H b = some (flatP m)) (hm : m.length ≤ 1000) :
    ACall sig lim 71 [.own 2 b 0 m.length, .agg (prC p)] H fun r H' => (∃ k : Int, r = AV.i k ∧ ((0 ≤ k ∧ k < m.length ∧ gt m k.toNat = p) ∨ (k = -1 ∧ p ∉ m))) ∧ H' = H := by
  have lb := hget_lt qb
  refine ACall_pure (fa := fa71) rfl rfl rfl rfl ?_
  have tr : ∀ a0 a1 : AV, env0 fa71.keep [a0, a1] = [(0, a0), (1, a1), (3, .any), (4, .any), (5, .any), (7, .any), (8, .any), (9, .any), (16, .any)] := fun a0 a1 => rfl
  refine W_to (tr _ _) ?_; clear tr
  refine at_seq rfl ?_
  refine rg rfl ?_
  refine R_box rfl (by simp (disch := first | omega | (simp only [List.length_map, List.length_append, List.length_set, List.length_cons, List.length_nil, List.length_take, List.length_drop]; omega)) only [go_sem, ↓reduceIte, Nat.reduceEqDiff, reduceCtorEq, qb]; rfl) rfl rfl ?_
  refine Rq ?_
  have tr : ∀ y0 y1 y3 y4 y5 y7 y8 y9 y16 z0 z1 : AV, trim [(4, z1), (3, z0), (0, y0), (1, y1), (3, y3), (4, y4), (5, y5), (7, y7), (8, y8), (9, y9), (16, y16)] [(0, y0), (1, y1), (3, y3), (4, y4), (5, y5), (7, y7), (8, y8), (9, y9), (16, y16)] = [(0, y0), (1, y1), (3, z0), (4, z1), (5, y5), (7, y7), (8, y8), (9, y9), (16, y16)] := fun y0 y1 y3 y4 y5 y7 y8 y9 y16 z0 z1 => rfl
  refine R_nil (tr _ _ _ _ _ _ _ _ _ _ _) ?_; clear tr
  refine then_n ?_
  refine at_seq rfl ?_
  refine at_seq rfl ?_
  refine rg rfl ?_
  refine Rq ?_
  refine Rq ?_
  refine Rq ?_
  have tr : ∀ y0 y1 y3 y4 y5 y7 y8 y9 y16 z0 z1 z2 : AV, trim [(8, z2), (7, z1), (6, z0), (0, y0), (1, y1), (3, y3), (4, y4), (5, y5), (7, y7), (8, y8), (9, y9), (16, y16)] [(0, y0), (1, y1), (3, y3), (4, y4), (5, y5), (7, y7), (8, y8), (9, y9), (16, y16)] = [(0, y0), (1, y1), (3, y3), (4, y4), (5, y5), (7, z1), (8, z2), (9, y9), (16, y16)] := fun y0 y1 y3 y4 y5 y7 y8 y9 y16 z0 z1 z2 => rfl
  refine R_nil (tr _ _ _ _ _ _ _ _ _ _ _ _) ?_; clear tr
  refine then_n ?_
  refine at_block rfl ?_
  refine loop_n rfl (fun mm kv H' => ∃ u : Nat, ∃ x4 x5 x9 x16 : AV, (kv = [(4, x4), (5, x5), (8, AV.i u), (9, x9), (16, x16)]) ∧ (mm = m.length - u) ∧ (H' = H ++ [some (prC p)]) ∧ (u ≤ m.length) ∧ (∀ i, i < u → gt m i ≠ p)) ⟨0, _, _, _, _, rfl, rfl, rfl, by omega, by intro i hi; omega⟩ (by rfl) ?_
  rintro mm kv H' ⟨u, x4, x5, x9, x16, rfl, rfl, rfl, hu, hq⟩
  have tr : ∀ y0 y1 y3 y4 y5 y7 y8 y9 y16 z4 z5 z8 z9 z16 : AV, upd [(0, y0), (1, y1), (3, y3), (4, y4), (5, y5), (7, y7), (8, y8), (9, y9), (16, y16)] [(4, z4), (5, z5), (8, z8), (9, z9), (16, z16)] = [(0, y0), (1, y1), (3, y3), (4, z4), (5, z5), (7, y7), (8, z8), (9, z9), (16, z16)] := fun y0 y1 y3 y4 y5 y7 y8 y9 y16 z4 z5 z8 z9 z16 => rfl
  refine W_to (tr _ _ _ _ _ _ _ _ _ _ _ _ _ _) ?_; clear tr
  refine at_seq rfl ?_
  refine rg rfl ?_
  refine Rq ?_
  have tr : ∀ y0 y1 y3 y4 y5 y7 y8 y9 y16 z0 : AV, trim [(9, z0), (0, y0), (1, y1), (3, y3), (4, y4), (5, y5), (7, y7), (8, y8), (9, y9), (16, y16)] [(0, y0), (1, y1), (3, y3), (4, y4), (5, y5), (7, y7), (8, y8), (9, y9), (16, y16)] = [(0, y0), (1, y1), (3, y3), (4, y4), (5, y5), (7, y7), (8, y8), (9, z0), (16, y16)] := fun y0 y1 y3 y4 y5 y7 y8 y9 y16 z0 => rfl
  refine R_nil (tr _ _ _ _ _ _ _ _ _ _) ?_; clear tr
  refine then_n ?_
  refine at_seq rfl ?_
  refine cdd (fun h1 => ?_) (fun h1 => ?_)
  · try simp only [decide_eq_true_eq, decide_eq_false_iff_not, Bool.not_eq_true', Bool.not_eq_false', beq_iff_eq, beq_eq_false_iff_ne, ne_eq] at h1
    refine at_skip rfl ?_
    refine then_n ?_
    refine at_seq rfl ?_
    refine at_block rfl ?_
    refine at_seq rfl ?_
    refine rg rfl ?_
    refine Rq ?_
    refine Rq ?_
    have tr : ∀ y0 y1 y3 y4 y5 y7 y8 y9 y16 z0 z1 : AV, trim [(5, z1), (10, z0), (0, y0), (1, y1), (3, y3), (4, y4), (5, y5), (7, y7), (8, y8), (9, y9), (16, y16)] [(0, y0), (1, y1), (3, y3), (4, y4), (5, y5), (7, y7), (8, y8), (9, y9), (16, y16)] = [(0, y0), (1, y1), (3, y3), (4, y4), (5, z1), (7, y7), (8, y8), (9, y9), (16, y16)] := fun y0 y1 y3 y4 y5 y7 y8 y9 y16 z0 z1 => rfl
    refine R_nil (tr _ _ _ _ _ _ _ _ _ _ _) ?_; clear tr
    refine then_n ?_
    refine at_seq rfl ?_
    refine rd rfl rfl ?_
    refine Q_q rfl (by simp (disch := first | omega | (simp only [List.length_map, List.length_append, List.length_set, List.length_cons, List.length_nil, List.length_take, List.length_drop]; omega)) only [go_sem, ↓reduceIte, Nat.reduceEqDiff, reduceCtorEq, qb]; rfl) ?_
    refine Qq ?_
    refine Qq ?_
    refine Qq ?_
    refine Q_q rfl (by simp (disch := first | omega | (simp only [List.length_map, List.length_append, List.length_set, List.length_cons, List.length_nil, List.length_take, List.length_drop]; omega)) only [go_sem, ↓reduceIte, Nat.reduceEqDiff, reduceCtorEq, qb]; rfl) ?_
    refine Qq ?_
    refine Q_nil ?_
    have tr : ∀ y0 y1 y3 y4 y5 y7 y8 y9 y16 z0 z1 z2 z3 z4 z5 : AV, trim [(16, z5), (15, z4), (14, z3), (13, z2), (12, z1), (11, z0), (0, y0), (1, y1), (3, y3), (4, y4), (5, y5), (7, y7), (8, y8), (9, y9), (16, y16)] [(0, y0), (1, y1), (3, y3), (4, y4), (5, y5), (7, y7), (8, y8), (9, y9), (16, y16)] = [(0, y0), (1, y1), (3, y3), (4, y4), (5, y5), (7, y7), (8, y8), (9, y9), (16, z5)] := fun y0 y1 y3 y4 y5 y7 y8 y9 y16 z0 z1 z2 z3 z4 z5 => rfl
    refine R_nil (tr _ _ _ _ _ _ _ _ _ _ _ _ _ _ _) ?_; clear tr
    refine then_n ?_
    refine cdd (fun h2 => ?_) (fun h2 => ?_)
    · try simp only [decide_eq_true_eq, decide_eq_false_iff_not, Bool.not_eq_true', Bool.not_eq_false', beq_iff_eq, beq_eq_false_iff_ne, ne_eq] at h2
      refine at_seq rfl ?_
      refine rg rfl ?_
      refine Rq ?_
      refine Rq ?_
      have tr : ∀ y0 y1 y3 y4 y5 y7 y8 y9 y16 z0 z1 : AV, trim [(4, z1), (17, z0), (0, y0), (1, y1), (3, y3), (4, y4), (5, y5), (7, y7), (8, y8), (9, y9), (16, y16)] [(0, y0), (1, y1), (3, y3), (4, y4), (5, y5), (7, y7), (8, y8), (9, y9), (16, y16)] = [(0, y0), (1, y1), (3, y3), (4, z1), (5, y5), (7, y7), (8, y8), (9, y9), (16, y16)] := fun y0 y1 y3 y4 y5 y7 y8 y9 y16 z0 z1 => rfl
      refine R_nil (tr _ _ _ _ _ _ _ _ _ _ _) ?_; clear tr
      refine then_n ?_
      refine at_ret rfl ?_
      refine blk_r ?_
      refine then_r ?_
      refine then_r ?_
      refine blk_r ?_
      refine then_r ?_
      refine fpure ?_
      refine ⟨⟨_, rfl, .inl ⟨by omega, by omega, ?_⟩⟩, rfl⟩
      rw [Int.toNat_natCast]
      simp_all
    · try simp only [decide_eq_true_eq, decide_eq_false_iff_not, Bool.not_eq_true', Bool.not_eq_false', beq_iff_eq, beq_eq_false_iff_ne, ne_eq] at h2
      refine at_skip rfl ?_
      refine blk_n ?_
      refine then_n ?_
      refine rg rfl ?_
      refine Rq ?_
      refine Rq ?_
      have tr : ∀ y0 y1 y3 y4 y5 y7 y8 y9 y16 z0 z1 : AV, trim [(8, z1), (18, z0), (0, y0), (1, y1), (3, y3), (4, y4), (5, y5), (7, y7), (8, y8), (9, y9), (16, y16)] [(0, y0), (1, y1), (3, y3), (4, y4), (5, y5), (7, y7), (8, y8), (9, y9), (16, y16)] = [(0, y0), (1, y1), (3, y3), (4, y4), (5, y5), (7, y7), (8, z1), (9, y9), (16, y16)] := fun y0 y1 y3 y4 y5 y7 y8 y9 y16 z0 z1 => rfl
      refine R_nil (tr _ _ _ _ _ _ _ _ _ _ _) ?_; clear tr
      refine then_n ?_
      exact ⟨_, _, ⟨u + 1, _, _, _, _, rfl, rfl, rfl, by omega, by exact all_step hq (fun hh => by simp_all)⟩, by rfl, by omega⟩
  · try simp only [decide_eq_true_eq, decide_eq_false_iff_not, Bool.not_eq_true', Bool.not_eq_false', beq_iff_eq, beq_eq_false_iff_ne, ne_eq] at h1
    refine at_exit rfl ?_
    refine then_x ?_
    refine then_x ?_
    refine blk_x ?_
    refine then_n ?_
    refine at_seq rfl ?_
    refine rg rfl ?_
    refine Rq ?_
    have tr : ∀ y0 y1 y3 y4 y5 y7 y8 y9 y16 z0 : AV, trim [(4, z0), (0, y0), (1, y1), (3, y3), (4, y4), (5, y5), (7, y7), (8, y8), (9, y9), (16, y16)] [(0, y0), (1, y1), (3, y3), (4, y4), (5, y5), (7, y7), (8, y8), (9, y9), (16, y16)] = [(0, y0), (1, y1), (3, y3), (4, z0), (5, y5), (7, y7), (8, y8), (9, y9), (16, y16)] := fun y0 y1 y3 y4 y5 y7 y8 y9 y16 z0 => rfl
    refine R_nil (tr _ _ _ _ _ _ _ _ _ _) ?_; clear tr
    refine then_n ?_
    refine at_ret rfl ?_
    refine fpure ?_
    refine ⟨⟨_, rfl, .inr ⟨rfl, fun hh => ?_⟩⟩, rfl⟩
    obtain ⟨i, hi, he⟩ := List.mem_iff_getElem.1 hh
    exact hq i (by omega) (by rw [gt_eq _ _ hi]; exact he)

theorem index_nil (lim : Nat) (H : Heap) (p : Pr) :
    ACall sig lim 71 [nilP, .agg (prC p)] H fun r H' => (∃ k : Int, r = AV.i k ∧ k = -1) ∧ H' = H := by
  refine ACall_pure (fa := fa71) rfl rfl rfl rfl ?_
  have tr : ∀ a0 a1 : AV, env0 fa71.keep [a0, a1] = [(0, a0), (1, a1), (3, .any), (4, .any), (5, .any), (7, .any), (8, .any), (9, .any), (16, .any)] := fun a0 a1 => rfl
  refine W_to (tr _ _) ?_; clear tr
  refine at_seq rfl ?_
  refine rg rfl ?_
  refine R_box rfl (by simp (disch := first | omega | (simp only [List.length_map, List.length_append, List.length_set, List.length_cons, List.length_nil, List.length_take, List.length_drop]; omega)) only [go_sem, ↓reduceIte, Nat.reduceEqDiff, reduceCtorEq]; rfl) rfl rfl ?_
  refine Rq ?_
  have tr : ∀ y0 y1 y3 y4 y5 y7 y8 y9 y16 z0 z1 : AV, trim [(4, z1), (3, z0), (0, y0), (1, y1), (3, y3), (4, y4), (5, y5), (7, y7), (8, y8), (9, y9), (16, y16)] [(0, y0), (1, y1), (3, y3), (4, y4), (5, y5), (7, y7), (8, y8), (9, y9), (16, y16)] = [(0, y0), (1, y1), (3, z0), (4, z1), (5, y5), (7, y7), (8, y8), (9, y9), (16, y16)] := fun y0 y1 y3 y4 y5 y7 y8 y9 y16 z0 z1 => rfl
  refine R_nil (tr _ _ _ _ _ _ _ _ _ _ _) ?_; clear tr
  refine then_n ?_
  refine at_seq rfl ?_
  refine at_seq rfl ?_
  refine rg rfl ?_
  refine Rq ?_
  refine Rq ?_
  refine Rq ?_
  have tr : ∀ y0 y1 y3 y4 y5 y7 y8 y9 y16 z0 z1 z2 : AV, trim [(8, z2), (7, z1), (6, z0), (0, y0), (1, y1), (3, y3), (4, y4), (5, y5), (7, y7), (8, y8), (9, y9), (16, y16)] [(0, y0), (1, y1), (3, y3), (4, y4), (5, y5), (7, y7), (8, y8), (9, y9), (16, y16)] = [(0, y0), (1, y1), (3, y3), (4, y4), (5, y5), (7, z1), (8, z2), (9, y9), (16, y16)] := fun y0 y1 y3 y4 y5 y7 y8 y9 y16 z0 z1 z2 => rfl
  refine R_nil (tr _ _ _ _ _ _ _ _ _ _ _ _) ?_; clear tr
  refine then_n ?_
  refine at_block rfl ?_
  refine loop_n rfl (fun mm kv H' => ∃ u : Nat, ∃ x4 x5 x9 x16 : AV, (kv = [(4, x4), (5, x5), (8, AV.i u), (9, x9), (16, x16)]) ∧ (mm = 0) ∧ (H' = H ++ [some (prC p)]) ∧ (u = 0)) ⟨0, _, _, _, _, rfl, rfl, rfl, by rfl⟩ (by rfl) ?_
  rintro mm kv H' ⟨u, x4, x5, x9, x16, rfl, rfl, rfl, hu⟩
  have tr : ∀ y0 y1 y3 y4 y5 y7 y8 y9 y16 z4 z5 z8 z9 z16 : AV, upd [(0, y0), (1, y1), (3, y3), (4, y4), (5, y5), (7, y7), (8, y8), (9, y9), (16, y16)] [(4, z4), (5, z5), (8, z8), (9, z9), (16, z16)] = [(0, y0), (1, y1), (3, y3), (4, z4), (5, z5), (7, y7), (8, z8), (9, z9), (16, z16)] := fun y0 y1 y3 y4 y5 y7 y8 y9 y16 z4 z5 z8 z9 z16 => rfl
  refine W_to (tr _ _ _ _ _ _ _ _ _ _ _ _ _ _) ?_; clear tr
  refine at_seq rfl ?_
  refine rg rfl ?_
  refine Rq ?_
  have tr : ∀ y0 y1 y3 y4 y5 y7 y8 y9 y16 z0 : AV, trim [(9, z0), (0, y0), (1, y1), (3, y3), (4, y4), (5, y5), (7, y7), (8, y8), (9, y9), (16, y16)] [(0, y0), (1, y1), (3, y3), (4, y4), (5, y5), (7, y7), (8, y8), (9, y9), (16, y16)] = [(0, y0), (1, y1), (3, y3), (4, y4), (5, y5), (7, y7), (8, y8), (9, z0), (16, y16)] := fun y0 y1 y3 y4 y5 y7 y8 y9 y16 z0 => rfl
  refine R_nil (tr _ _ _ _ _ _ _ _ _ _) ?_; clear tr
  refine then_n ?_
  refine at_seq rfl ?_
  refine cdd (fun h1 => ?_) (fun h1 => ?_)
  · try simp only [decide_eq_true_eq, decide_eq_false_iff_not, Bool.not_eq_true', Bool.not_eq_false', beq_iff_eq, beq_eq_false_iff_ne, ne_eq] at h1
    exfalso; omega
  · try simp only [decide_eq_true_eq, decide_eq_false_iff_not, Bool.not_eq_true', Bool.not_eq_false', beq_iff_eq, beq_eq_false_iff_ne, ne_eq] at h1
    refine at_exit rfl ?_
    refine then_x ?_
    refine then_x ?_
    refine blk_x ?_
    refine then_n ?_
    refine at_seq rfl ?_
    refine rg rfl ?_
    refine Rq ?_
    have tr : ∀ y0 y1 y3 y4 y5 y7 y8 y9 y16 z0 : AV, trim [(4, z0), (0, y0), (1, y1), (3, y3), (4, y4), (5, y5), (7, y7), (8, y8), (9, y9), (16, y16)] [(0, y0), (1, y1), (3, y3), (4, y4), (5, y5), (7, y7), (8, y8), (9, y9), (16, y16)] = [(0, y0), (1, y1), (3, y3), (4, z0), (5, y5), (7, y7), (8, y8), (9, y9), (16, y16)] := fun y0 y1 y3 y4 y5 y7 y8 y9 y16 z0 => rfl
    refine R_nil (tr _ _ _ _ _ _ _ _ _ _) ?_; clear tr
    refine then_n ?_
    refine at_ret rfl ?_
    refine fpure ?_
    exact ⟨⟨_, rfl, rfl⟩, rfl⟩

end Go.Proofs.Ytdicnojnkbmdlaa
