/-
  Walks of chapters 52 and 53. The steps are written by program (walk.py).
-/
import Derived.Test.YtdicnojnkbmdlaaS
import Derived.Test.YtdicnojnkbmdlaaTy
set_option linter.unusedSimpArgs false
set_option linter.unusedVariables false
set_option maxHeartbeats 40000000
set_option maxRecDepth 4000
namespace Go.Proofs.Ytdicnojnkbmdlaa
open Go Go.Am

theorem small53_ok (lim : Nat) (H : Heap) (P : List Int) (L : List Pr) :
    ACall sig lim 34 [.agg (raceC P L)] H fun r H' => r = .v (.bool (decide (P.length ≤ 40 ∧ L.length ≤ 100))) ∧ H' = H := by
  refine ACall_pure (fa := fa34) rfl rfl rfl rfl ?_
  have tr : ∀ a0 : AV, env0 fa34.keep [a0] = [(0, a0), (1, .any), (2, .any)] := fun a0 => rfl
  refine W_to (tr _) ?_; clear tr
  refine at_seq rfl ?_
  refine rg rfl ?_
  refine R_box rfl (by simp (disch := first | omega | (simp only [List.length_map, List.length_append, List.length_set, List.length_cons, List.length_nil, List.length_take, List.length_drop]; omega)) only [go_sem, ↓reduceIte, Nat.reduceEqDiff, reduceCtorEq]; rfl) rfl rfl ?_
  refine Rq ?_
  have tr : ∀ y0 y1 y2 z0 z1 : AV, trim [(2, z1), (1, z0), (0, y0), (1, y1), (2, y2)] [(0, y0), (1, y1), (2, y2)] = [(0, y0), (1, z0), (2, z1)] := fun y0 y1 y2 z0 z1 => rfl
  refine R_nil (tr _ _ _ _ _) ?_; clear tr
  refine then_n ?_
  refine at_seq rfl ?_
  refine rg rfl ?_
  refine Rq ?_
  refine Rq ?_
  refine Rq ?_
  refine Rq ?_
  refine Rq ?_
  refine Rp_split (fun h1 => ?_) (fun h1 => ?_)
  · try simp only [decide_eq_true_eq, decide_eq_false_iff_not, Bool.not_eq_true', Bool.not_eq_false', beq_iff_eq, beq_eq_false_iff_ne, ne_eq] at h1
    refine Ry ?_
    refine Rq ?_
    refine Ry ?_
    refine Rq ?_
    refine Ry ?_
    refine Rq ?_
    refine Ry ?_
    refine Rq ?_
    refine Rq ?_
    refine Rq ?_
    have tr : ∀ y0 y1 y2 z0 z1 z2 z3 z4 z5 z6 z7 z8 z9 z10 : AV, trim [(2, z10), (12, z9), (11, z8), (10, z7), (9, z6), (8, z5), (7, z4), (6, z3), (5, z2), (4, z1), (3, z0), (0, y0), (1, y1), (2, y2)] [(0, y0), (1, y1), (2, y2)] = [(0, y0), (1, y1), (2, z10)] := fun y0 y1 y2 z0 z1 z2 z3 z4 z5 z6 z7 z8 z9 z10 => rfl
    refine R_nil (tr _ _ _ _ _ _ _ _ _ _ _ _ _ _) ?_; clear tr
    refine then_n ?_
    refine at_ret rfl ?_
    refine fpure ?_
    refine ⟨?_, rfl⟩
    congr 2
    exact decide_eq_decide.mpr (by omega)
  · try simp only [decide_eq_true_eq, decide_eq_false_iff_not, Bool.not_eq_true', Bool.not_eq_false', beq_iff_eq, beq_eq_false_iff_ne, ne_eq] at h1
    refine Rn ?_
    refine Rn ?_
    refine Rn ?_
    refine Rn ?_
    refine Rq ?_
    refine Rq ?_
    have tr : ∀ y0 y1 y2 z0 z1 z2 z3 z4 z5 z6 z7 z8 z9 z10 : AV, trim [(2, z10), (12, z9), (11, z8), (10, z7), (9, z6), (8, z5), (7, z4), (6, z3), (5, z2), (4, z1), (3, z0), (0, y0), (1, y1), (2, y2)] [(0, y0), (1, y1), (2, y2)] = [(0, y0), (1, y1), (2, z10)] := fun y0 y1 y2 z0 z1 z2 z3 z4 z5 z6 z7 z8 z9 z10 => rfl
    refine R_nil (tr _ _ _ _ _ _ _ _ _ _ _ _ _ _) ?_; clear tr
    refine then_n ?_
    refine at_ret rfl ?_
    refine fpure ?_
    refine ⟨?_, rfl⟩
    rw [decide_eq_false (by omega)]

theorem most_ok (lim : Nat) (H : Heap) (P : List Int) (L : List Pr) (t : Int) (g : ROK P L) (ht0 : 0 ≤ t) (ht1 : t < P.length) :
    ACall sig lim 56 [.agg (raceC P L), AV.i t] H fun r H' => r = AV.i (mostN P L t L.length) ∧ H' = H := by
  have hp := g.pt t.toNat (by omega)
  have hel := g.el
  refine ACall_pure (fa := fa56) rfl rfl rfl rfl ?_
  have tr : ∀ a0 a1 : AV, env0 fa56.keep [a0, a1] = [(0, a0), (1, a1), (2, .any), (4, .any), (5, .any), (7, .any), (14, .any), (15, .any), (16, .any), (17, .any), (29, .any)] := fun a0 a1 => rfl
  refine W_to (tr _ _) ?_; clear tr
  refine at_seq rfl ?_
  refine rg rfl ?_
  refine R_box rfl (by simp (disch := first | omega | (simp only [List.length_map, List.length_append, List.length_set, List.length_cons, List.length_nil, List.length_take, List.length_drop]; omega)) only [go_sem, ↓reduceIte, Nat.reduceEqDiff, reduceCtorEq]; rfl) rfl rfl ?_
  refine Rq ?_
  have tr : ∀ y0 y1 y2 y4 y5 y7 y14 y15 y16 y17 y29 z0 z1 : AV, trim [(4, z1), (2, z0), (0, y0), (1, y1), (2, y2), (4, y4), (5, y5), (7, y7), (14, y14), (15, y15), (16, y16), (17, y17), (29, y29)] [(0, y0), (1, y1), (2, y2), (4, y4), (5, y5), (7, y7), (14, y14), (15, y15), (16, y16), (17, y17), (29, y29)] = [(0, y0), (1, y1), (2, z0), (4, z1), (5, y5), (7, y7), (14, y14), (15, y15), (16, y16), (17, y17), (29, y29)] := fun y0 y1 y2 y4 y5 y7 y14 y15 y16 y17 y29 z0 z1 => rfl
  refine R_nil (tr _ _ _ _ _ _ _ _ _ _ _ _ _) ?_; clear tr
  refine then_n ?_
  refine at_seq rfl ?_
  refine rg rfl ?_
  refine Rq ?_
  refine Rq ?_
  refine Rq ?_
  refine Rq ?_
  refine Rq ?_
  refine Rq ?_
  have tr : ∀ y0 y1 y2 y4 y5 y7 y14 y15 y16 y17 y29 z0 z1 z2 z3 z4 z5 : AV, trim [(5, z5), (12, z4), (11, z3), (10, z2), (9, z1), (8, z0), (0, y0), (1, y1), (2, y2), (4, y4), (5, y5), (7, y7), (14, y14), (15, y15), (16, y16), (17, y17), (29, y29)] [(0, y0), (1, y1), (2, y2), (4, y4), (5, y5), (7, y7), (14, y14), (15, y15), (16, y16), (17, y17), (29, y29)] = [(0, y0), (1, y1), (2, y2), (4, y4), (5, z5), (7, y7), (14, y14), (15, y15), (16, y16), (17, y17), (29, y29)] := fun y0 y1 y2 y4 y5 y7 y14 y15 y16 y17 y29 z0 z1 z2 z3 z4 z5 => rfl
  refine R_nil (tr _ _ _ _ _ _ _ _ _ _ _ _ _ _ _ _ _) ?_; clear tr
  refine then_n ?_
  refine at_seq rfl ?_
  refine at_seq rfl ?_
  refine rg rfl ?_
  refine Rq ?_
  refine Rq ?_
  refine Rq ?_
  refine Rq ?_
  have tr : ∀ y0 y1 y2 y4 y5 y7 y14 y15 y16 y17 y29 z0 z1 z2 z3 : AV, trim [(16, z3), (15, z2), (14, z1), (13, z0), (0, y0), (1, y1), (2, y2), (4, y4), (5, y5), (7, y7), (14, y14), (15, y15), (16, y16), (17, y17), (29, y29)] [(0, y0), (1, y1), (2, y2), (4, y4), (5, y5), (7, y7), (14, y14), (15, y15), (16, y16), (17, y17), (29, y29)] = [(0, y0), (1, y1), (2, y2), (4, y4), (5, y5), (7, y7), (14, z1), (15, z2), (16, z3), (17, y17), (29, y29)] := fun y0 y1 y2 y4 y5 y7 y14 y15 y16 y17 y29 z0 z1 z2 z3 => rfl
  refine R_nil (tr _ _ _ _ _ _ _ _ _ _ _ _ _ _ _) ?_; clear tr
  refine then_n ?_
  refine at_block rfl ?_
  refine loop_n rfl (fun mm kv H' => ∃ u : Nat, ∃ c : Int, ∃ X : Heap, ∃ x7 x17 x29 : AV, (kv = [(5, AV.i c), (7, x7), (16, AV.i u), (17, x17), (29, x29)]) ∧ (mm = L.length - u) ∧ (H' = H ++ [some (raceC P L)] ++ X) ∧ (u ≤ L.length) ∧ (c = mostN P L t u)) ⟨0, (gt P t.toNat), [], _, _, _, rfl, rfl, by simp, by omega, by rfl⟩ (by rfl) ?_
  rintro mm kv H1 ⟨u, c, X, x7, x17, x29, rfl, rfl, hX, hu, hc⟩
  have tr : ∀ y0 y1 y2 y4 y5 y7 y14 y15 y16 y17 y29 z5 z7 z16 z17 z29 : AV, upd [(0, y0), (1, y1), (2, y2), (4, y4), (5, y5), (7, y7), (14, y14), (15, y15), (16, y16), (17, y17), (29, y29)] [(5, z5), (7, z7), (16, z16), (17, z17), (29, z29)] = [(0, y0), (1, y1), (2, y2), (4, y4), (5, z5), (7, z7), (14, y14), (15, y15), (16, z16), (17, z17), (29, z29)] := fun y0 y1 y2 y4 y5 y7 y14 y15 y16 y17 y29 z5 z7 z16 z17 z29 => rfl
  refine W_to (tr _ _ _ _ _ _ _ _ _ _ _ _ _ _ _ _) ?_; clear tr
  subst hX
  have hmr := most_rng (L := L) hp.1 hp.2 u
  refine at_seq rfl ?_
  refine rg rfl ?_
  refine Rq ?_
  have tr : ∀ y0 y1 y2 y4 y5 y7 y14 y15 y16 y17 y29 z0 : AV, trim [(17, z0), (0, y0), (1, y1), (2, y2), (4, y4), (5, y5), (7, y7), (14, y14), (15, y15), (16, y16), (17, y17), (29, y29)] [(0, y0), (1, y1), (2, y2), (4, y4), (5, y5), (7, y7), (14, y14), (15, y15), (16, y16), (17, y17), (29, y29)] = [(0, y0), (1, y1), (2, y2), (4, y4), (5, y5), (7, y7), (14, y14), (15, y15), (16, y16), (17, z0), (29, y29)] := fun y0 y1 y2 y4 y5 y7 y14 y15 y16 y17 y29 z0 => rfl
  refine R_nil (tr _ _ _ _ _ _ _ _ _ _ _ _) ?_; clear tr
  refine then_n ?_
  refine at_seq rfl ?_
  refine cdd (fun h1 => ?_) (fun h1 => ?_)
  · try simp only [decide_eq_true_eq, decide_eq_false_iff_not, Bool.not_eq_true', Bool.not_eq_false', beq_iff_eq, beq_eq_false_iff_ne, ne_eq] at h1
    refine at_skip rfl ?_
    refine then_n ?_
    refine at_seq rfl ?_
    refine at_block rfl ?_
    refine at_seq rfl ?_
    refine rg rfl ?_
    refine Rq ?_
    refine Rq ?_
    refine R_alloc (by simp (disch := first | omega | (simp only [List.length_map, List.length_append, List.length_set, List.length_cons, List.length_nil, List.length_take, List.length_drop]; omega)) only [go_sem, ↓reduceIte, Nat.reduceEqDiff, reduceCtorEq]; rfl) rfl (by simp only [List.map_cons, List.map_nil]; rfl) ?_
    refine R_store ty58 (by simp (disch := first | omega | (simp only [List.length_map, List.length_append, List.length_set, List.length_cons, List.length_nil, List.length_take, List.length_drop]; omega)) only [go_sem, ↓reduceIte, Nat.reduceEqDiff, reduceCtorEq]; rfl) (by simp (disch := first | omega | (simp only [List.length_map, List.length_append, List.length_set, List.length_cons, List.length_nil, List.length_take, List.length_drop]; omega)) only [go_sem, ↓reduceIte, Nat.reduceEqDiff, reduceCtorEq]; rfl) (by simp (disch := first | omega | (simp only [List.length_map, List.length_append, List.length_set, List.length_cons, List.length_nil, List.length_take, List.length_drop]; omega)) only [go_sem, ↓reduceIte, Nat.reduceEqDiff, reduceCtorEq]; rfl) (by simp) (by rfl) (by simp (disch := first | omega | (simp only [List.length_map, List.length_append, List.length_set, List.length_cons, List.length_nil, List.length_take, List.length_drop]; omega)) only [go_sem, ↓reduceIte, Nat.reduceEqDiff, reduceCtorEq]; rfl) ?_
    have tr : ∀ y0 y1 y2 y4 y5 y7 y14 y15 y16 y17 y29 z0 z1 z2 : AV, trim [(7, z2), (19, z1), (18, z0), (0, y0), (1, y1), (2, y2), (4, y4), (5, y5), (7, y7), (14, y14), (15, y15), (16, y16), (17, y17), (29, y29)] [(0, y0), (1, y1), (2, y2), (4, y4), (5, y5), (7, y7), (14, y14), (15, y15), (16, y16), (17, y17), (29, y29)] = [(0, y0), (1, y1), (2, y2), (4, y4), (5, y5), (7, z2), (14, y14), (15, y15), (16, y16), (17, y17), (29, y29)] := fun y0 y1 y2 y4 y5 y7 y14 y15 y16 y17 y29 z0 z1 z2 => rfl
    refine R_nil (tr _ _ _ _ _ _ _ _ _ _ _ _ _ _) ?_; clear tr
    refine then_n ?_
    refine at_seq rfl ?_
    refine rg rfl ?_
    refine Rq ?_
    refine Rq ?_
    refine Rq ?_
    refine Rq ?_
    refine Rq ?_
    refine Rp_split (fun h2 => ?_) (fun h2 => ?_)
    · try simp only [decide_eq_true_eq, decide_eq_false_iff_not, Bool.not_eq_true', Bool.not_eq_false', beq_iff_eq, beq_eq_false_iff_ne, ne_eq] at h2
      refine Rn ?_
      refine Rn ?_
      refine Rn ?_
      refine Rn ?_
      refine Rq ?_
      have tr : ∀ y0 y1 y2 y4 y5 y7 y14 y15 y16 y17 y29 z0 z1 z2 z3 z4 z5 z6 z7 z8 z9 : AV, trim [(29, z9), (28, z8), (27, z7), (26, z6), (25, z5), (24, z4), (23, z3), (22, z2), (21, z1), (20, z0), (0, y0), (1, y1), (2, y2), (4, y4), (5, y5), (7, y7), (14, y14), (15, y15), (16, y16), (17, y17), (29, y29)] [(0, y0), (1, y1), (2, y2), (4, y4), (5, y5), (7, y7), (14, y14), (15, y15), (16, y16), (17, y17), (29, y29)] = [(0, y0), (1, y1), (2, y2), (4, y4), (5, y5), (7, y7), (14, y14), (15, y15), (16, y16), (17, y17), (29, z9)] := fun y0 y1 y2 y4 y5 y7 y14 y15 y16 y17 y29 z0 z1 z2 z3 z4 z5 z6 z7 z8 z9 => rfl
      refine R_nil (tr _ _ _ _ _ _ _ _ _ _ _ _ _ _ _ _ _ _ _ _ _) ?_; clear tr
      refine then_n ?_
      refine cdt ?_
      refine rg rfl ?_
      refine Rq ?_
      refine Rq ?_
      refine Rq ?_
      have tr : ∀ y0 y1 y2 y4 y5 y7 y14 y15 y16 y17 y29 z0 z1 z2 : AV, trim [(5, z2), (31, z1), (30, z0), (0, y0), (1, y1), (2, y2), (4, y4), (5, y5), (7, y7), (14, y14), (15, y15), (16, y16), (17, y17), (29, y29)] [(0, y0), (1, y1), (2, y2), (4, y4), (5, y5), (7, y7), (14, y14), (15, y15), (16, y16), (17, y17), (29, y29)] = [(0, y0), (1, y1), (2, y2), (4, y4), (5, z2), (7, y7), (14, y14), (15, y15), (16, y16), (17, y17), (29, y29)] := fun y0 y1 y2 y4 y5 y7 y14 y15 y16 y17 y29 z0 z1 z2 => rfl
      refine R_nil (tr _ _ _ _ _ _ _ _ _ _ _ _ _ _) ?_; clear tr
      refine blk_n ?_
      refine then_n ?_
      refine rg rfl ?_
      refine Rq ?_
      refine Rq ?_
      have tr : ∀ y0 y1 y2 y4 y5 y7 y14 y15 y16 y17 y29 z0 z1 : AV, trim [(16, z1), (32, z0), (0, y0), (1, y1), (2, y2), (4, y4), (5, y5), (7, y7), (14, y14), (15, y15), (16, y16), (17, y17), (29, y29)] [(0, y0), (1, y1), (2, y2), (4, y4), (5, y5), (7, y7), (14, y14), (15, y15), (16, y16), (17, y17), (29, y29)] = [(0, y0), (1, y1), (2, y2), (4, y4), (5, y5), (7, y7), (14, y14), (15, y15), (16, z1), (17, y17), (29, y29)] := fun y0 y1 y2 y4 y5 y7 y14 y15 y16 y17 y29 z0 z1 => rfl
      refine R_nil (tr _ _ _ _ _ _ _ _ _ _ _ _ _) ?_; clear tr
      refine then_n ?_
      exact ⟨_, _, ⟨u + 1, (c + 2), X ++ [some (prC (gt L u))], _, _, _, rfl, rfl, by simp; rfl, by omega, by rw [mostN, hc]; first | rw [if_pos (by omega)] | rw [if_neg (by omega)]⟩, by rfl, by omega⟩
    · try simp only [decide_eq_true_eq, decide_eq_false_iff_not, Bool.not_eq_true', Bool.not_eq_false', beq_iff_eq, beq_eq_false_iff_ne, ne_eq] at h2
      refine Ry ?_
      refine Rq ?_
      refine Ry ?_
      refine Rq ?_
      refine Ry ?_
      refine Rq ?_
      refine Ry ?_
      refine Rq ?_
      refine Rq ?_
      have tr : ∀ y0 y1 y2 y4 y5 y7 y14 y15 y16 y17 y29 z0 z1 z2 z3 z4 z5 z6 z7 z8 z9 : AV, trim [(29, z9), (28, z8), (27, z7), (26, z6), (25, z5), (24, z4), (23, z3), (22, z2), (21, z1), (20, z0), (0, y0), (1, y1), (2, y2), (4, y4), (5, y5), (7, y7), (14, y14), (15, y15), (16, y16), (17, y17), (29, y29)] [(0, y0), (1, y1), (2, y2), (4, y4), (5, y5), (7, y7), (14, y14), (15, y15), (16, y16), (17, y17), (29, y29)] = [(0, y0), (1, y1), (2, y2), (4, y4), (5, y5), (7, y7), (14, y14), (15, y15), (16, y16), (17, y17), (29, z9)] := fun y0 y1 y2 y4 y5 y7 y14 y15 y16 y17 y29 z0 z1 z2 z3 z4 z5 z6 z7 z8 z9 => rfl
      refine R_nil (tr _ _ _ _ _ _ _ _ _ _ _ _ _ _ _ _ _ _ _ _ _) ?_; clear tr
      refine then_n ?_
      refine cdd (fun h3 => ?_) (fun h3 => ?_)
      · try simp only [decide_eq_true_eq, decide_eq_false_iff_not, Bool.not_eq_true', Bool.not_eq_false', beq_iff_eq, beq_eq_false_iff_ne, ne_eq] at h3
        refine rg rfl ?_
        refine Rq ?_
        refine Rq ?_
        refine Rq ?_
        have tr : ∀ y0 y1 y2 y4 y5 y7 y14 y15 y16 y17 y29 z0 z1 z2 : AV, trim [(5, z2), (31, z1), (30, z0), (0, y0), (1, y1), (2, y2), (4, y4), (5, y5), (7, y7), (14, y14), (15, y15), (16, y16), (17, y17), (29, y29)] [(0, y0), (1, y1), (2, y2), (4, y4), (5, y5), (7, y7), (14, y14), (15, y15), (16, y16), (17, y17), (29, y29)] = [(0, y0), (1, y1), (2, y2), (4, y4), (5, z2), (7, y7), (14, y14), (15, y15), (16, y16), (17, y17), (29, y29)] := fun y0 y1 y2 y4 y5 y7 y14 y15 y16 y17 y29 z0 z1 z2 => rfl
        refine R_nil (tr _ _ _ _ _ _ _ _ _ _ _ _ _ _) ?_; clear tr
        refine blk_n ?_
        refine then_n ?_
        refine rg rfl ?_
        refine Rq ?_
        refine Rq ?_
        have tr : ∀ y0 y1 y2 y4 y5 y7 y14 y15 y16 y17 y29 z0 z1 : AV, trim [(16, z1), (32, z0), (0, y0), (1, y1), (2, y2), (4, y4), (5, y5), (7, y7), (14, y14), (15, y15), (16, y16), (17, y17), (29, y29)] [(0, y0), (1, y1), (2, y2), (4, y4), (5, y5), (7, y7), (14, y14), (15, y15), (16, y16), (17, y17), (29, y29)] = [(0, y0), (1, y1), (2, y2), (4, y4), (5, y5), (7, y7), (14, y14), (15, y15), (16, z1), (17, y17), (29, y29)] := fun y0 y1 y2 y4 y5 y7 y14 y15 y16 y17 y29 z0 z1 => rfl
        refine R_nil (tr _ _ _ _ _ _ _ _ _ _ _ _ _) ?_; clear tr
        refine then_n ?_
        exact ⟨_, _, ⟨u + 1, (c + 2), X ++ [some (prC (gt L u))], _, _, _, rfl, rfl, by simp; rfl, by omega, by rw [mostN, hc]; first | rw [if_pos (by omega)] | rw [if_neg (by omega)]⟩, by rfl, by omega⟩
      · try simp only [decide_eq_true_eq, decide_eq_false_iff_not, Bool.not_eq_true', Bool.not_eq_false', beq_iff_eq, beq_eq_false_iff_ne, ne_eq] at h3
        refine at_skip rfl ?_
        refine blk_n ?_
        refine then_n ?_
        refine rg rfl ?_
        refine Rq ?_
        refine Rq ?_
        have tr : ∀ y0 y1 y2 y4 y5 y7 y14 y15 y16 y17 y29 z0 z1 : AV, trim [(16, z1), (32, z0), (0, y0), (1, y1), (2, y2), (4, y4), (5, y5), (7, y7), (14, y14), (15, y15), (16, y16), (17, y17), (29, y29)] [(0, y0), (1, y1), (2, y2), (4, y4), (5, y5), (7, y7), (14, y14), (15, y15), (16, y16), (17, y17), (29, y29)] = [(0, y0), (1, y1), (2, y2), (4, y4), (5, y5), (7, y7), (14, y14), (15, y15), (16, z1), (17, y17), (29, y29)] := fun y0 y1 y2 y4 y5 y7 y14 y15 y16 y17 y29 z0 z1 => rfl
        refine R_nil (tr _ _ _ _ _ _ _ _ _ _ _ _ _) ?_; clear tr
        refine then_n ?_
        exact ⟨_, _, ⟨u + 1, c, X ++ [some (prC (gt L u))], _, _, _, rfl, rfl, by simp; rfl, by omega, by rw [mostN, hc]; first | rw [if_pos (by omega)] | rw [if_neg (by omega)]⟩, by rfl, by omega⟩
  · try simp only [decide_eq_true_eq, decide_eq_false_iff_not, Bool.not_eq_true', Bool.not_eq_false', beq_iff_eq, beq_eq_false_iff_ne, ne_eq] at h1
    refine at_exit rfl ?_
    refine then_x ?_
    refine then_x ?_
    refine blk_x ?_
    refine then_n ?_
    refine at_seq rfl ?_
    refine rg rfl ?_
    refine Rq ?_
    refine Rq ?_
    have tr : ∀ y0 y1 y2 y4 y5 y7 y14 y15 y16 y17 y29 z0 z1 : AV, trim [(4, z1), (33, z0), (0, y0), (1, y1), (2, y2), (4, y4), (5, y5), (7, y7), (14, y14), (15, y15), (16, y16), (17, y17), (29, y29)] [(0, y0), (1, y1), (2, y2), (4, y4), (5, y5), (7, y7), (14, y14), (15, y15), (16, y16), (17, y17), (29, y29)] = [(0, y0), (1, y1), (2, y2), (4, z1), (5, y5), (7, y7), (14, y14), (15, y15), (16, y16), (17, y17), (29, y29)] := fun y0 y1 y2 y4 y5 y7 y14 y15 y16 y17 y29 z0 z1 => rfl
    refine R_nil (tr _ _ _ _ _ _ _ _ _ _ _ _ _) ?_; clear tr
    refine then_n ?_
    refine at_ret rfl ?_
    refine fpure ?_
    refine ⟨?_, rfl⟩
    rw [hc, show L.length = u by omega]

theorem rmost_ok (lim : Nat) (H : Heap) (P : List Int) (L : List Pr) (t : Int) (g : ROK P L) (ht0 : 0 ≤ t) (ht1 : t < P.length) :
    ACall sig lim 62 [.agg (raceC P L), AV.i t] H fun r H' => r = AV.i (mostN P L t L.length) ∧ H' = H := by
  have hp := g.pt t.toNat (by omega)
  have hel := g.el
  refine ACall_pure (fa := fa62) rfl rfl rfl rfl ?_
  have tr : ∀ a0 a1 : AV, env0 fa62.keep [a0, a1] = [(0, a0), (1, a1), (2, .any), (4, .any), (5, .any), (7, .any), (14, .any), (15, .any), (16, .any), (17, .any), (29, .any)] := fun a0 a1 => rfl
  refine W_to (tr _ _) ?_; clear tr
  refine at_seq rfl ?_
  refine rg rfl ?_
  refine R_box rfl (by simp (disch := first | omega | (simp only [List.length_map, List.length_append, List.length_set, List.length_cons, List.length_nil, List.length_take, List.length_drop]; omega)) only [go_sem, ↓reduceIte, Nat.reduceEqDiff, reduceCtorEq]; rfl) rfl rfl ?_
  refine Rq ?_
  have tr : ∀ y0 y1 y2 y4 y5 y7 y14 y15 y16 y17 y29 z0 z1 : AV, trim [(4, z1), (2, z0), (0, y0), (1, y1), (2, y2), (4, y4), (5, y5), (7, y7), (14, y14), (15, y15), (16, y16), (17, y17), (29, y29)] [(0, y0), (1, y1), (2, y2), (4, y4), (5, y5), (7, y7), (14, y14), (15, y15), (16, y16), (17, y17), (29, y29)] = [(0, y0), (1, y1), (2, z0), (4, z1), (5, y5), (7, y7), (14, y14), (15, y15), (16, y16), (17, y17), (29, y29)] := fun y0 y1 y2 y4 y5 y7 y14 y15 y16 y17 y29 z0 z1 => rfl
  refine R_nil (tr _ _ _ _ _ _ _ _ _ _ _ _ _) ?_; clear tr
  refine then_n ?_
  refine at_seq rfl ?_
  refine rg rfl ?_
  refine Rq ?_
  refine Rq ?_
  refine Rq ?_
  refine Rq ?_
  refine Rq ?_
  refine Rq ?_
  have tr : ∀ y0 y1 y2 y4 y5 y7 y14 y15 y16 y17 y29 z0 z1 z2 z3 z4 z5 : AV, trim [(5, z5), (12, z4), (11, z3), (10, z2), (9, z1), (8, z0), (0, y0), (1, y1), (2, y2), (4, y4), (5, y5), (7, y7), (14, y14), (15, y15), (16, y16), (17, y17), (29, y29)] [(0, y0), (1, y1), (2, y2), (4, y4), (5, y5), (7, y7), (14, y14), (15, y15), (16, y16), (17, y17), (29, y29)] = [(0, y0), (1, y1), (2, y2), (4, y4), (5, z5), (7, y7), (14, y14), (15, y15), (16, y16), (17, y17), (29, y29)] := fun y0 y1 y2 y4 y5 y7 y14 y15 y16 y17 y29 z0 z1 z2 z3 z4 z5 => rfl
  refine R_nil (tr _ _ _ _ _ _ _ _ _ _ _ _ _ _ _ _ _) ?_; clear tr
  refine then_n ?_
  refine at_seq rfl ?_
  refine at_seq rfl ?_
  refine rg rfl ?_
  refine Rq ?_
  refine Rq ?_
  refine Rq ?_
  refine Rq ?_
  have tr : ∀ y0 y1 y2 y4 y5 y7 y14 y15 y16 y17 y29 z0 z1 z2 z3 : AV, trim [(16, z3), (15, z2), (14, z1), (13, z0), (0, y0), (1, y1), (2, y2), (4, y4), (5, y5), (7, y7), (14, y14), (15, y15), (16, y16), (17, y17), (29, y29)] [(0, y0), (1, y1), (2, y2), (4, y4), (5, y5), (7, y7), (14, y14), (15, y15), (16, y16), (17, y17), (29, y29)] = [(0, y0), (1, y1), (2, y2), (4, y4), (5, y5), (7, y7), (14, z1), (15, z2), (16, z3), (17, y17), (29, y29)] := fun y0 y1 y2 y4 y5 y7 y14 y15 y16 y17 y29 z0 z1 z2 z3 => rfl
  refine R_nil (tr _ _ _ _ _ _ _ _ _ _ _ _ _ _ _) ?_; clear tr
  refine then_n ?_
  refine at_block rfl ?_
  refine loop_n rfl (fun mm kv H' => ∃ u : Nat, ∃ c : Int, ∃ X : Heap, ∃ x7 x17 x29 : AV, (kv = [(5, AV.i c), (7, x7), (16, AV.i u), (17, x17), (29, x29)]) ∧ (mm = L.length - u) ∧ (H' = H ++ [some (raceC P L)] ++ X) ∧ (u ≤ L.length) ∧ (c = mostN P L t u)) ⟨0, (gt P t.toNat), [], _, _, _, rfl, rfl, by simp, by omega, by rfl⟩ (by rfl) ?_
  rintro mm kv H1 ⟨u, c, X, x7, x17, x29, rfl, rfl, hX, hu, hc⟩
  have tr : ∀ y0 y1 y2 y4 y5 y7 y14 y15 y16 y17 y29 z5 z7 z16 z17 z29 : AV, upd [(0, y0), (1, y1), (2, y2), (4, y4), (5, y5), (7, y7), (14, y14), (15, y15), (16, y16), (17, y17), (29, y29)] [(5, z5), (7, z7), (16, z16), (17, z17), (29, z29)] = [(0, y0), (1, y1), (2, y2), (4, y4), (5, z5), (7, z7), (14, y14), (15, y15), (16, z16), (17, z17), (29, z29)] := fun y0 y1 y2 y4 y5 y7 y14 y15 y16 y17 y29 z5 z7 z16 z17 z29 => rfl
  refine W_to (tr _ _ _ _ _ _ _ _ _ _ _ _ _ _ _ _) ?_; clear tr
  subst hX
  have hmr := most_rng (L := L) hp.1 hp.2 u
  refine at_seq rfl ?_
  refine rg rfl ?_
  refine Rq ?_
  have tr : ∀ y0 y1 y2 y4 y5 y7 y14 y15 y16 y17 y29 z0 : AV, trim [(17, z0), (0, y0), (1, y1), (2, y2), (4, y4), (5, y5), (7, y7), (14, y14), (15, y15), (16, y16), (17, y17), (29, y29)] [(0, y0), (1, y1), (2, y2), (4, y4), (5, y5), (7, y7), (14, y14), (15, y15), (16, y16), (17, y17), (29, y29)] = [(0, y0), (1, y1), (2, y2), (4, y4), (5, y5), (7, y7), (14, y14), (15, y15), (16, y16), (17, z0), (29, y29)] := fun y0 y1 y2 y4 y5 y7 y14 y15 y16 y17 y29 z0 => rfl
  refine R_nil (tr _ _ _ _ _ _ _ _ _ _ _ _) ?_; clear tr
  refine then_n ?_
  refine at_seq rfl ?_
  refine cdd (fun h1 => ?_) (fun h1 => ?_)
  · try simp only [decide_eq_true_eq, decide_eq_false_iff_not, Bool.not_eq_true', Bool.not_eq_false', beq_iff_eq, beq_eq_false_iff_ne, ne_eq] at h1
    refine at_skip rfl ?_
    refine then_n ?_
    refine at_seq rfl ?_
    refine at_block rfl ?_
    refine at_seq rfl ?_
    refine rg rfl ?_
    refine Rq ?_
    refine Rq ?_
    refine R_alloc (by simp (disch := first | omega | (simp only [List.length_map, List.length_append, List.length_set, List.length_cons, List.length_nil, List.length_take, List.length_drop]; omega)) only [go_sem, ↓reduceIte, Nat.reduceEqDiff, reduceCtorEq]; rfl) rfl (by simp only [List.map_cons, List.map_nil]; rfl) ?_
    refine R_store ty58 (by simp (disch := first | omega | (simp only [List.length_map, List.length_append, List.length_set, List.length_cons, List.length_nil, List.length_take, List.length_drop]; omega)) only [go_sem, ↓reduceIte, Nat.reduceEqDiff, reduceCtorEq]; rfl) (by simp (disch := first | omega | (simp only [List.length_map, List.length_append, List.length_set, List.length_cons, List.length_nil, List.length_take, List.length_drop]; omega)) only [go_sem, ↓reduceIte, Nat.reduceEqDiff, reduceCtorEq]; rfl) (by simp (disch := first | omega | (simp only [List.length_map, List.length_append, List.length_set, List.length_cons, List.length_nil, List.length_take, List.length_drop]; omega)) only [go_sem, ↓reduceIte, Nat.reduceEqDiff, reduceCtorEq]; rfl) (by simp) (by rfl) (by simp (disch := first | omega | (simp only [List.length_map, List.length_append, List.length_set, List.length_cons, List.length_nil, List.length_take, List.length_drop]; omega)) only [go_sem, ↓reduceIte, Nat.reduceEqDiff, reduceCtorEq]; rfl) ?_
    have tr : ∀ y0 y1 y2 y4 y5 y7 y14 y15 y16 y17 y29 z0 z1 z2 : AV, trim [(7, z2), (19, z1), (18, z0), (0, y0), (1, y1), (2, y2), (4, y4), (5, y5), (7, y7), (14, y14), (15, y15), (16, y16), (17, y17), (29, y29)] [(0, y0), (1, y1), (2, y2), (4, y4), (5, y5), (7, y7), (14, y14), (15, y15), (16, y16), (17, y17), (29, y29)] = [(0, y0), (1, y1), (2, y2), (4, y4), (5, y5), (7, z2), (14, y14), (15, y15), (16, y16), (17, y17), (29, y29)] := fun y0 y1 y2 y4 y5 y7 y14 y15 y16 y17 y29 z0 z1 z2 => rfl
    refine R_nil (tr _ _ _ _ _ _ _ _ _ _ _ _ _ _) ?_; clear tr
    refine then_n ?_
    refine at_seq rfl ?_
    refine rg rfl ?_
    refine Rq ?_
    refine Rq ?_
    refine Rq ?_
    refine Rq ?_
    refine Rq ?_
    refine Rp_split (fun h2 => ?_) (fun h2 => ?_)
    · try simp only [decide_eq_true_eq, decide_eq_false_iff_not, Bool.not_eq_true', Bool.not_eq_false', beq_iff_eq, beq_eq_false_iff_ne, ne_eq] at h2
      refine Rn ?_
      refine Rn ?_
      refine Rn ?_
      refine Rn ?_
      refine Rq ?_
      have tr : ∀ y0 y1 y2 y4 y5 y7 y14 y15 y16 y17 y29 z0 z1 z2 z3 z4 z5 z6 z7 z8 z9 : AV, trim [(29, z9), (28, z8), (27, z7), (26, z6), (25, z5), (24, z4), (23, z3), (22, z2), (21, z1), (20, z0), (0, y0), (1, y1), (2, y2), (4, y4), (5, y5), (7, y7), (14, y14), (15, y15), (16, y16), (17, y17), (29, y29)] [(0, y0), (1, y1), (2, y2), (4, y4), (5, y5), (7, y7), (14, y14), (15, y15), (16, y16), (17, y17), (29, y29)] = [(0, y0), (1, y1), (2, y2), (4, y4), (5, y5), (7, y7), (14, y14), (15, y15), (16, y16), (17, y17), (29, z9)] := fun y0 y1 y2 y4 y5 y7 y14 y15 y16 y17 y29 z0 z1 z2 z3 z4 z5 z6 z7 z8 z9 => rfl
      refine R_nil (tr _ _ _ _ _ _ _ _ _ _ _ _ _ _ _ _ _ _ _ _ _) ?_; clear tr
      refine then_n ?_
      refine cdt ?_
      refine rg rfl ?_
      refine Rq ?_
      refine Rq ?_
      refine Rq ?_
      have tr : ∀ y0 y1 y2 y4 y5 y7 y14 y15 y16 y17 y29 z0 z1 z2 : AV, trim [(5, z2), (31, z1), (30, z0), (0, y0), (1, y1), (2, y2), (4, y4), (5, y5), (7, y7), (14, y14), (15, y15), (16, y16), (17, y17), (29, y29)] [(0, y0), (1, y1), (2, y2), (4, y4), (5, y5), (7, y7), (14, y14), (15, y15), (16, y16), (17, y17), (29, y29)] = [(0, y0), (1, y1), (2, y2), (4, y4), (5, z2), (7, y7), (14, y14), (15, y15), (16, y16), (17, y17), (29, y29)] := fun y0 y1 y2 y4 y5 y7 y14 y15 y16 y17 y29 z0 z1 z2 => rfl
      refine R_nil (tr _ _ _ _ _ _ _ _ _ _ _ _ _ _) ?_; clear tr
      refine blk_n ?_
      refine then_n ?_
      refine rg rfl ?_
      refine Rq ?_
      refine Rq ?_
      have tr : ∀ y0 y1 y2 y4 y5 y7 y14 y15 y16 y17 y29 z0 z1 : AV, trim [(16, z1), (32, z0), (0, y0), (1, y1), (2, y2), (4, y4), (5, y5), (7, y7), (14, y14), (15, y15), (16, y16), (17, y17), (29, y29)] [(0, y0), (1, y1), (2, y2), (4, y4), (5, y5), (7, y7), (14, y14), (15, y15), (16, y16), (17, y17), (29, y29)] = [(0, y0), (1, y1), (2, y2), (4, y4), (5, y5), (7, y7), (14, y14), (15, y15), (16, z1), (17, y17), (29, y29)] := fun y0 y1 y2 y4 y5 y7 y14 y15 y16 y17 y29 z0 z1 => rfl
      refine R_nil (tr _ _ _ _ _ _ _ _ _ _ _ _ _) ?_; clear tr
      refine then_n ?_
      exact ⟨_, _, ⟨u + 1, (c + 2), X ++ [some (prC (gt L u))], _, _, _, rfl, rfl, by simp; rfl, by omega, by rw [mostN, hc]; first | rw [if_pos (by omega)] | rw [if_neg (by omega)]⟩, by rfl, by omega⟩
    · try simp only [decide_eq_true_eq, decide_eq_false_iff_not, Bool.not_eq_true', Bool.not_eq_false', beq_iff_eq, beq_eq_false_iff_ne, ne_eq] at h2
      refine Ry ?_
      refine Rq ?_
      refine Ry ?_
      refine Rq ?_
      refine Ry ?_
      refine Rq ?_
      refine Ry ?_
      refine Rq ?_
      refine Rq ?_
      have tr : ∀ y0 y1 y2 y4 y5 y7 y14 y15 y16 y17 y29 z0 z1 z2 z3 z4 z5 z6 z7 z8 z9 : AV, trim [(29, z9), (28, z8), (27, z7), (26, z6), (25, z5), (24, z4), (23, z3), (22, z2), (21, z1), (20, z0), (0, y0), (1, y1), (2, y2), (4, y4), (5, y5), (7, y7), (14, y14), (15, y15), (16, y16), (17, y17), (29, y29)] [(0, y0), (1, y1), (2, y2), (4, y4), (5, y5), (7, y7), (14, y14), (15, y15), (16, y16), (17, y17), (29, y29)] = [(0, y0), (1, y1), (2, y2), (4, y4), (5, y5), (7, y7), (14, y14), (15, y15), (16, y16), (17, y17), (29, z9)] := fun y0 y1 y2 y4 y5 y7 y14 y15 y16 y17 y29 z0 z1 z2 z3 z4 z5 z6 z7 z8 z9 => rfl
      refine R_nil (tr _ _ _ _ _ _ _ _ _ _ _ _ _ _ _ _ _ _ _ _ _) ?_; clear tr
      refine then_n ?_
      refine cdd (fun h3 => ?_) (fun h3 => ?_)
      · try simp only [decide_eq_true_eq, decide_eq_false_iff_not, Bool.not_eq_true', Bool.not_eq_false', beq_iff_eq, beq_eq_false_iff_ne, ne_eq] at h3
        refine rg rfl ?_
        refine Rq ?_
        refine Rq ?_
        refine Rq ?_
        have tr : ∀ y0 y1 y2 y4 y5 y7 y14 y15 y16 y17 y29 z0 z1 z2 : AV, trim [(5, z2), (31, z1), (30, z0), (0, y0), (1, y1), (2, y2), (4, y4), (5, y5), (7, y7), (14, y14), (15, y15), (16, y16), (17, y17), (29, y29)] [(0, y0), (1, y1), (2, y2), (4, y4), (5, y5), (7, y7), (14, y14), (15, y15), (16, y16), (17, y17), (29, y29)] = [(0, y0), (1, y1), (2, y2), (4, y4), (5, z2), (7, y7), (14, y14), (15, y15), (16, y16), (17, y17), (29, y29)] := fun y0 y1 y2 y4 y5 y7 y14 y15 y16 y17 y29 z0 z1 z2 => rfl
        refine R_nil (tr _ _ _ _ _ _ _ _ _ _ _ _ _ _) ?_; clear tr
        refine blk_n ?_
        refine then_n ?_
        refine rg rfl ?_
        refine Rq ?_
        refine Rq ?_
        have tr : ∀ y0 y1 y2 y4 y5 y7 y14 y15 y16 y17 y29 z0 z1 : AV, trim [(16, z1), (32, z0), (0, y0), (1, y1), (2, y2), (4, y4), (5, y5), (7, y7), (14, y14), (15, y15), (16, y16), (17, y17), (29, y29)] [(0, y0), (1, y1), (2, y2), (4, y4), (5, y5), (7, y7), (14, y14), (15, y15), (16, y16), (17, y17), (29, y29)] = [(0, y0), (1, y1), (2, y2), (4, y4), (5, y5), (7, y7), (14, y14), (15, y15), (16, z1), (17, y17), (29, y29)] := fun y0 y1 y2 y4 y5 y7 y14 y15 y16 y17 y29 z0 z1 => rfl
        refine R_nil (tr _ _ _ _ _ _ _ _ _ _ _ _ _) ?_; clear tr
        refine then_n ?_
        exact ⟨_, _, ⟨u + 1, (c + 2), X ++ [some (prC (gt L u))], _, _, _, rfl, rfl, by simp; rfl, by omega, by rw [mostN, hc]; first | rw [if_pos (by omega)] | rw [if_neg (by omega)]⟩, by rfl, by omega⟩
      · try simp only [decide_eq_true_eq, decide_eq_false_iff_not, Bool.not_eq_true', Bool.not_eq_false', beq_iff_eq, beq_eq_false_iff_ne, ne_eq] at h3
        refine at_skip rfl ?_
        refine blk_n ?_
        refine then_n ?_
        refine rg rfl ?_
        refine Rq ?_
        refine Rq ?_
        have tr : ∀ y0 y1 y2 y4 y5 y7 y14 y15 y16 y17 y29 z0 z1 : AV, trim [(16, z1), (32, z0), (0, y0), (1, y1), (2, y2), (4, y4), (5, y5), (7, y7), (14, y14), (15, y15), (16, y16), (17, y17), (29, y29)] [(0, y0), (1, y1), (2, y2), (4, y4), (5, y5), (7, y7), (14, y14), (15, y15), (16, y16), (17, y17), (29, y29)] = [(0, y0), (1, y1), (2, y2), (4, y4), (5, y5), (7, y7), (14, y14), (15, y15), (16, z1), (17, y17), (29, y29)] := fun y0 y1 y2 y4 y5 y7 y14 y15 y16 y17 y29 z0 z1 => rfl
        refine R_nil (tr _ _ _ _ _ _ _ _ _ _ _ _ _) ?_; clear tr
        refine then_n ?_
        exact ⟨_, _, ⟨u + 1, c, X ++ [some (prC (gt L u))], _, _, _, rfl, rfl, by simp; rfl, by omega, by rw [mostN, hc]; first | rw [if_pos (by omega)] | rw [if_neg (by omega)]⟩, by rfl, by omega⟩
  · try simp only [decide_eq_true_eq, decide_eq_false_iff_not, Bool.not_eq_true', Bool.not_eq_false', beq_iff_eq, beq_eq_false_iff_ne, ne_eq] at h1
    refine at_exit rfl ?_
    refine then_x ?_
    refine then_x ?_
    refine blk_x ?_
    refine then_n ?_
    refine at_seq rfl ?_
    refine rg rfl ?_
    refine Rq ?_
    refine Rq ?_
    have tr : ∀ y0 y1 y2 y4 y5 y7 y14 y15 y16 y17 y29 z0 z1 : AV, trim [(4, z1), (33, z0), (0, y0), (1, y1), (2, y2), (4, y4), (5, y5), (7, y7), (14, y14), (15, y15), (16, y16), (17, y17), (29, y29)] [(0, y0), (1, y1), (2, y2), (4, y4), (5, y5), (7, y7), (14, y14), (15, y15), (16, y16), (17, y17), (29, y29)] = [(0, y0), (1, y1), (2, y2), (4, z1), (5, y5), (7, y7), (14, y14), (15, y15), (16, y16), (17, y17), (29, y29)] := fun y0 y1 y2 y4 y5 y7 y14 y15 y16 y17 y29 z0 z1 => rfl
    refine R_nil (tr _ _ _ _ _ _ _ _ _ _ _ _ _) ?_; clear tr
    refine then_n ?_
    refine at_ret rfl ?_
    refine fpure ?_
    refine ⟨?_, rfl⟩
    rw [hc, show L.length = u by omega]

end Go.Proofs.Ytdicnojnkbmdlaa
