/-
  Walks of chapters 52 and 53. The steps are written by program (walk.py).
-/
import Derived.Test.YtdicnojnkbmdlaaRA
set_option linter.unusedSimpArgs false
set_option linter.unusedVariables false
set_option maxHeartbeats 40000000
set_option maxRecDepth 4000
namespace Go.Proofs.Ytdicnojnkbmdlaa
open Go Go.Am

theorem surplus_ok (lim : Nat) (H : Heap) (n s t : Int) (E : List Ed) (f : List Int) (g : GOK n s t E) (hl : f.length = E.length) (hr : ∀ i, i < E.length → 0 ≤ gt f i ∧ gt f i ≤ 1073741824) :
    ACall sig lim 48 [.agg (graphC n s t E), intsAV f] H fun r H' => r = intsAV (surpS n E f) ∧ H' = H := by
  obtain ⟨g1, g2, g3, g4, g5, g6, g7, g8, ge⟩ := g
  have ge4 : ∀ i, i < E.length → 0 ≤ (gt E i).a ∧ (gt E i).a < n ∧ 0 ≤ (gt E i).b ∧ (gt E i).b < n := fun i hi => by have := ge i hi; omega
  refine ACall_pure (fa := fa48) rfl rfl rfl rfl ?_
  have tr : ∀ a0 a1 : AV, env0 fa48.keep [a0, a1] = [(0, a0), (1, a1), (2, .any), (4, .any), (5, .any), (6, .any), (7, .any), (12, .any), (13, .any), (14, .any), (15, .any)] := fun a0 a1 => rfl
  refine W_to (tr _ _) ?_; clear tr
  refine at_seq rfl ?_
  refine rg rfl ?_
  refine R_box rfl (by simp (disch := first | omega | (simp only [List.length_map, List.length_append, List.length_set, List.length_cons, List.length_nil, List.length_take, List.length_drop]; omega)) only [go_sem, ↓reduceIte, Nat.reduceEqDiff, reduceCtorEq, Option.join_some, hget_at]; rfl) rfl rfl ?_
  refine Rq ?_
  have tr : ∀ y0 y1 y2 y4 y5 y6 y7 y12 y13 y14 y15 z0 z1 : AV, trim [(4, z1), (2, z0), (0, y0), (1, y1), (2, y2), (4, y4), (5, y5), (6, y6), (7, y7), (12, y12), (13, y13), (14, y14), (15, y15)] [(0, y0), (1, y1), (2, y2), (4, y4), (5, y5), (6, y6), (7, y7), (12, y12), (13, y13), (14, y14), (15, y15)] = [(0, y0), (1, y1), (2, z0), (4, z1), (5, y5), (6, y6), (7, y7), (12, y12), (13, y13), (14, y14), (15, y15)] := fun y0 y1 y2 y4 y5 y6 y7 y12 y13 y14 y15 z0 z1 => rfl
  refine R_nil (tr _ _ _ _ _ _ _ _ _ _ _ _ _) ?_; clear tr
  refine then_n ?_
  refine at_seq rfl ?_
  refine rg rfl ?_
  refine Rq ?_
  refine R_q rfl (by simp (disch := first | omega | (simp only [List.length_map, List.length_append, List.length_set, List.length_cons, List.length_nil, List.length_take, List.length_drop]; omega)) only [go_sem, ↓reduceIte, Nat.reduceEqDiff, reduceCtorEq, Option.join_some, hget_at]; rfl) ?_
  refine R_makeSlice (ms27 _ _ n _ _ _ (by omega) (by omega) (by simp (disch := first | omega | (simp only [List.length_map, List.length_append, List.length_set, List.length_cons, List.length_nil, List.length_take, List.length_drop]; omega)) only [go_sem, ↓reduceIte, Nat.reduceEqDiff, reduceCtorEq]) (by simp (disch := first | omega | (simp only [List.length_map, List.length_append, List.length_set, List.length_cons, List.length_nil, List.length_take, List.length_drop]; omega)) only [go_sem, ↓reduceIte, Nat.reduceEqDiff, reduceCtorEq])) ?_
  rewrite [show List.replicate n.toNat (0 : Int) = surpN n.toNat E f 0 from rfl]
  refine Rq ?_
  have tr : ∀ y0 y1 y2 y4 y5 y6 y7 y12 y13 y14 y15 z0 z1 z2 z3 : AV, trim [(5, z3), (10, z2), (9, z1), (8, z0), (0, y0), (1, y1), (2, y2), (4, y4), (5, y5), (6, y6), (7, y7), (12, y12), (13, y13), (14, y14), (15, y15)] [(0, y0), (1, y1), (2, y2), (4, y4), (5, y5), (6, y6), (7, y7), (12, y12), (13, y13), (14, y14), (15, y15)] = [(0, y0), (1, y1), (2, y2), (4, y4), (5, z3), (6, y6), (7, y7), (12, y12), (13, y13), (14, y14), (15, y15)] := fun y0 y1 y2 y4 y5 y6 y7 y12 y13 y14 y15 z0 z1 z2 z3 => rfl
  refine R_nil (tr _ _ _ _ _ _ _ _ _ _ _ _ _ _ _) ?_; clear tr
  refine then_n ?_
  refine at_seq rfl ?_
  refine at_seq rfl ?_
  refine rg rfl ?_
  refine Rq ?_
  refine R_q rfl (by simp (disch := first | omega | (simp only [List.length_map, List.length_append, List.length_set, List.length_cons, List.length_nil, List.length_take, List.length_drop]; omega)) only [go_sem, ↓reduceIte, Nat.reduceEqDiff, reduceCtorEq, Option.join_some, hget_at]; rfl) ?_
  refine Rq ?_
  refine Rq ?_
  have tr : ∀ y0 y1 y2 y4 y5 y6 y7 y12 y13 y14 y15 z0 z1 z2 z3 : AV, trim [(14, z3), (13, z2), (12, z1), (11, z0), (0, y0), (1, y1), (2, y2), (4, y4), (5, y5), (6, y6), (7, y7), (12, y12), (13, y13), (14, y14), (15, y15)] [(0, y0), (1, y1), (2, y2), (4, y4), (5, y5), (6, y6), (7, y7), (12, y12), (13, y13), (14, y14), (15, y15)] = [(0, y0), (1, y1), (2, y2), (4, y4), (5, y5), (6, y6), (7, y7), (12, z1), (13, z2), (14, z3), (15, y15)] := fun y0 y1 y2 y4 y5 y6 y7 y12 y13 y14 y15 z0 z1 z2 z3 => rfl
  refine R_nil (tr _ _ _ _ _ _ _ _ _ _ _ _ _ _ _) ?_; clear tr
  refine then_n ?_
  refine at_block rfl ?_
  refine loop_n rfl (fun mm kv H' => ∃ u : Nat, ∃ X : Heap, ∃ x6 x7 x15 : AV, (kv = [(6, x6), (7, x7), (14, AV.i u), (15, x15)]) ∧ (mm = E.length - u) ∧ (H' = H ++ [some (graphC n s t E)] ++ [some ((surpN n.toNat E f u).map AV.i)] ++ X) ∧ (u ≤ E.length)) ⟨0, [], _, _, _, rfl, rfl, by simp, by omega⟩ (by rfl) ?_
  rintro mm kv H1 ⟨u, X, x6, x7, x15, rfl, rfl, hX, hu⟩
  have tr : ∀ y0 y1 y2 y4 y5 y6 y7 y12 y13 y14 y15 z6 z7 z14 z15 : AV, upd [(0, y0), (1, y1), (2, y2), (4, y4), (5, y5), (6, y6), (7, y7), (12, y12), (13, y13), (14, y14), (15, y15)] [(6, z6), (7, z7), (14, z14), (15, z15)] = [(0, y0), (1, y1), (2, y2), (4, y4), (5, y5), (6, z6), (7, z7), (12, y12), (13, y13), (14, z14), (15, z15)] := fun y0 y1 y2 y4 y5 y6 y7 y12 y13 y14 y15 z6 z7 z14 z15 => rfl
  refine W_to (tr _ _ _ _ _ _ _ _ _ _ _ _ _ _ _) ?_; clear tr
  subst hX
  refine at_seq rfl ?_
  refine rg rfl ?_
  refine Rq ?_
  have tr : ∀ y0 y1 y2 y4 y5 y6 y7 y12 y13 y14 y15 z0 : AV, trim [(15, z0), (0, y0), (1, y1), (2, y2), (4, y4), (5, y5), (6, y6), (7, y7), (12, y12), (13, y13), (14, y14), (15, y15)] [(0, y0), (1, y1), (2, y2), (4, y4), (5, y5), (6, y6), (7, y7), (12, y12), (13, y13), (14, y14), (15, y15)] = [(0, y0), (1, y1), (2, y2), (4, y4), (5, y5), (6, y6), (7, y7), (12, y12), (13, y13), (14, y14), (15, z0)] := fun y0 y1 y2 y4 y5 y6 y7 y12 y13 y14 y15 z0 => rfl
  refine R_nil (tr _ _ _ _ _ _ _ _ _ _ _ _) ?_; clear tr
  refine then_n ?_
  refine at_seq rfl ?_
  refine cdd (fun h1 => ?_) (fun h1 => ?_)
  · try simp only [decide_eq_true_eq, decide_eq_false_iff_not, Bool.not_eq_true', Bool.not_eq_false', beq_iff_eq, beq_eq_false_iff_ne, ne_eq] at h1
    refine at_skip rfl ?_
    refine then_n ?_
    refine at_seq rfl ?_
    refine at_block rfl ?_
    refine at_seq rfl ?_
    refine rg rfl ?_
    have he := ge u (by omega)
    have hru := hr u (by omega)
    have hsl := surp_len n.toNat E f u
    have hsr := surp_rng ge4 hr u (by omega) (gt E u).a.toNat
    have hsl1 : (surp1 E f u (surpN n.toNat E f u)).length = n.toNat := by rw [surp1_len, hsl]
    have hsq : -(1073741824 * (u : Int)) - 1073741824 ≤ gt (surp1 E f u (surpN n.toNat E f u)) (gt E u).b.toNat ∧ gt (surp1 E f u (surpN n.toNat E f u)) (gt E u).b.toNat ≤ 1073741824 * (u : Int) + 1073741824 := by
      have := surp_rng ge4 hr u (by omega) (gt E u).b.toNat
      rw [surp1, gt_set _ _ _ _ (by rw [hsl]; omega)]
      split <;> omega
    refine Rq ?_
    refine Rq ?_
    refine R_q rfl (by simp (disch := first | omega | (simp only [List.length_map, List.length_append, List.length_set, List.length_cons, List.length_nil, List.length_take, List.length_drop]; omega)) only [go_sem, ↓reduceIte, Nat.reduceEqDiff, reduceCtorEq, Option.join_some, hget_at]; rfl) ?_
    refine R_alloc (by simp (disch := first | omega | (simp only [List.length_map, List.length_append, List.length_set, List.length_cons, List.length_nil, List.length_take, List.length_drop]; omega)) only [go_sem, ↓reduceIte, Nat.reduceEqDiff, reduceCtorEq, Option.join_some, hget_at]; rfl) rfl (by simp only [List.map_cons, List.map_nil]; rfl) ?_
    refine Rq ?_
    refine R_store ty66 (by simp (disch := first | omega | (simp only [List.length_map, List.length_append, List.length_set, List.length_cons, List.length_nil, List.length_take, List.length_drop]; omega)) only [go_sem, ↓reduceIte, Nat.reduceEqDiff, reduceCtorEq, Option.join_some, hget_at]; rfl) (by simp (disch := first | omega | (simp only [List.length_map, List.length_append, List.length_set, List.length_cons, List.length_nil, List.length_take, List.length_drop]; omega)) only [go_sem, ↓reduceIte, Nat.reduceEqDiff, reduceCtorEq, Option.join_some, hget_at]; rfl) (by simp (disch := first | omega | (simp only [List.length_map, List.length_append, List.length_set, List.length_cons, List.length_nil, List.length_take, List.length_drop]; omega)) only [go_sem, ↓reduceIte, Nat.reduceEqDiff, reduceCtorEq, Option.join_some, hget_at]; rfl) (by simp) (by rfl) (by simp (disch := first | omega | (simp only [List.length_map, List.length_append, List.length_set, List.length_cons, List.length_nil, List.length_take, List.length_drop]; omega)) only [go_sem, ↓reduceIte, Nat.reduceEqDiff, reduceCtorEq, Option.join_some, hget_at]; rfl) ?_
    have tr : ∀ y0 y1 y2 y4 y5 y6 y7 y12 y13 y14 y15 z0 z1 z2 z3 z4 : AV, trim [(6, z4), (7, z3), (18, z2), (17, z1), (16, z0), (0, y0), (1, y1), (2, y2), (4, y4), (5, y5), (6, y6), (7, y7), (12, y12), (13, y13), (14, y14), (15, y15)] [(0, y0), (1, y1), (2, y2), (4, y4), (5, y5), (6, y6), (7, y7), (12, y12), (13, y13), (14, y14), (15, y15)] = [(0, y0), (1, y1), (2, y2), (4, y4), (5, y5), (6, z4), (7, z3), (12, y12), (13, y13), (14, y14), (15, y15)] := fun y0 y1 y2 y4 y5 y6 y7 y12 y13 y14 y15 z0 z1 z2 z3 z4 => rfl
    refine R_nil (tr _ _ _ _ _ _ _ _ _ _ _ _ _ _ _ _) ?_; clear tr
    rewrite [show List.length (H ++ [some (graphC n s t E)] ++ [some ((surpN n.toNat E f u).map AV.i)] ++ X) = H.length + 2 + X.length by simp; omega]
    refine then_n ?_
    refine at_seq rfl ?_
    refine rd rfl rfl ?_
    refine Qq ?_
    refine Qq ?_
    refine Q_q rfl (by simp (disch := first | omega | (simp only [List.length_map, List.length_append, List.length_set, List.length_cons, List.length_nil, List.length_take, List.length_drop]; omega)) only [go_sem, ↓reduceIte, Nat.reduceEqDiff, reduceCtorEq, Option.join_some, hget_at]; rfl) ?_
    refine Qq ?_
    refine Q_q rfl (by simp (disch := first | omega | (simp only [List.length_map, List.length_append, List.length_set, List.length_cons, List.length_nil, List.length_take, List.length_drop]; omega)) only [go_sem, ↓reduceIte, Nat.reduceEqDiff, reduceCtorEq, Option.join_some, hget_at]; rfl) ?_
    refine Qq ?_
    refine Qq ?_
    refine Qq ?_
    refine Q_q rfl (by simp (disch := first | omega | (simp only [List.length_map, List.length_append, List.length_set, List.length_cons, List.length_nil, List.length_take, List.length_drop]; omega)) only [go_sem, ↓reduceIte, Nat.reduceEqDiff, reduceCtorEq, Option.join_some, hget_at]; rfl) ?_
    refine Qq ?_
    refine Qq ?_
    refine Q_nil ?_
    refine R_store ty2 (by simp (disch := first | omega | (simp only [List.length_map, List.length_append, List.length_set, List.length_cons, List.length_nil, List.length_take, List.length_drop]; omega)) only [go_sem, ↓reduceIte, Nat.reduceEqDiff, reduceCtorEq]; rfl) (by simp (disch := first | omega | (simp only [List.length_map, List.length_append, List.length_set, List.length_cons, List.length_nil, List.length_take, List.length_drop]; omega)) only [go_sem, ↓reduceIte, Nat.reduceEqDiff, reduceCtorEq]; rfl) (by simp (disch := first | omega | (simp only [List.length_map, List.length_append, List.length_set, List.length_cons, List.length_nil, List.length_take, List.length_drop]; omega)) only [go_sem, ↓reduceIte, Nat.reduceEqDiff, reduceCtorEq]; rfl) ⟨by simp, rfl, by simp only [List.length_map, surp1_len, hsl]; omega⟩ (k' := (surp1 E f u (surpN n.toNat E f u)).map AV.i) (by rw [setL_map]; rfl) (by simp (disch := first | omega | (simp only [List.length_map, List.length_append, List.length_set, List.length_cons, List.length_nil, List.length_take, List.length_drop]; omega)) only [go_sem, ↓reduceIte, Nat.reduceEqDiff, reduceCtorEq]; rfl) ?_
    have tr : ∀ y0 y1 y2 y4 y5 y6 y7 y12 y13 y14 y15 z0 z1 z2 z3 z4 z5 z6 z7 z8 z9 z10 : AV, trim [(29, z10), (28, z9), (27, z8), (26, z7), (25, z6), (24, z5), (23, z4), (22, z3), (21, z2), (20, z1), (19, z0), (0, y0), (1, y1), (2, y2), (4, y4), (5, y5), (6, y6), (7, y7), (12, y12), (13, y13), (14, y14), (15, y15)] [(0, y0), (1, y1), (2, y2), (4, y4), (5, y5), (6, y6), (7, y7), (12, y12), (13, y13), (14, y14), (15, y15)] = [(0, y0), (1, y1), (2, y2), (4, y4), (5, y5), (6, y6), (7, y7), (12, y12), (13, y13), (14, y14), (15, y15)] := fun y0 y1 y2 y4 y5 y6 y7 y12 y13 y14 y15 z0 z1 z2 z3 z4 z5 z6 z7 z8 z9 z10 => rfl
    refine R_nil (tr _ _ _ _ _ _ _ _ _ _ _ _ _ _ _ _ _ _ _ _ _ _) ?_; clear tr
    refine then_n ?_
    refine rd rfl rfl ?_
    refine Qq ?_
    refine Qq ?_
    refine Q_q rfl (by simp (disch := first | omega | (simp only [List.length_map, List.length_append, List.length_set, List.length_cons, List.length_nil, List.length_take, List.length_drop]; omega)) only [go_sem, ↓reduceIte, Nat.reduceEqDiff, reduceCtorEq, Option.join_some, hget_at]; rfl) ?_
    refine Qq ?_
    refine Q_q rfl (by simp (disch := first | omega | (simp only [List.length_map, List.length_append, List.length_set, List.length_cons, List.length_nil, List.length_take, List.length_drop]; omega)) only [go_sem, ↓reduceIte, Nat.reduceEqDiff, reduceCtorEq, Option.join_some, hget_at]; rfl) ?_
    refine Qq ?_
    refine Qq ?_
    refine Qq ?_
    refine Q_q rfl (by simp (disch := first | omega | (simp only [List.length_map, List.length_append, List.length_set, List.length_cons, List.length_nil, List.length_take, List.length_drop]; omega)) only [go_sem, ↓reduceIte, Nat.reduceEqDiff, reduceCtorEq, Option.join_some, hget_at]; rfl) ?_
    refine Qq ?_
    refine Qq ?_
    refine Q_nil ?_
    refine R_store ty2 (by simp (disch := first | omega | (simp only [List.length_map, List.length_append, List.length_set, List.length_cons, List.length_nil, List.length_take, List.length_drop]; omega)) only [go_sem, ↓reduceIte, Nat.reduceEqDiff, reduceCtorEq]; rfl) (by simp (disch := first | omega | (simp only [List.length_map, List.length_append, List.length_set, List.length_cons, List.length_nil, List.length_take, List.length_drop]; omega)) only [go_sem, ↓reduceIte, Nat.reduceEqDiff, reduceCtorEq]; rfl) (by simp (disch := first | omega | (simp only [List.length_map, List.length_append, List.length_set, List.length_cons, List.length_nil, List.length_take, List.length_drop]; omega)) only [go_sem, ↓reduceIte, Nat.reduceEqDiff, reduceCtorEq]; rfl) ⟨by simp, rfl, by simp only [List.length_map, surp1_len, hsl]; omega⟩ (k' := (surp2 E f u (surp1 E f u (surpN n.toNat E f u))).map AV.i) (by rw [setL_map]; rfl) (by simp (disch := first | omega | (simp only [List.length_map, List.length_append, List.length_set, List.length_cons, List.length_nil, List.length_take, List.length_drop]; omega)) only [go_sem, ↓reduceIte, Nat.reduceEqDiff, reduceCtorEq]; rfl) ?_
    have tr : ∀ y0 y1 y2 y4 y5 y6 y7 y12 y13 y14 y15 z0 z1 z2 z3 z4 z5 z6 z7 z8 z9 z10 : AV, trim [(40, z10), (39, z9), (38, z8), (37, z7), (36, z6), (35, z5), (34, z4), (33, z3), (32, z2), (31, z1), (30, z0), (0, y0), (1, y1), (2, y2), (4, y4), (5, y5), (6, y6), (7, y7), (12, y12), (13, y13), (14, y14), (15, y15)] [(0, y0), (1, y1), (2, y2), (4, y4), (5, y5), (6, y6), (7, y7), (12, y12), (13, y13), (14, y14), (15, y15)] = [(0, y0), (1, y1), (2, y2), (4, y4), (5, y5), (6, y6), (7, y7), (12, y12), (13, y13), (14, y14), (15, y15)] := fun y0 y1 y2 y4 y5 y6 y7 y12 y13 y14 y15 z0 z1 z2 z3 z4 z5 z6 z7 z8 z9 z10 => rfl
    refine R_nil (tr _ _ _ _ _ _ _ _ _ _ _ _ _ _ _ _ _ _ _ _ _ _) ?_; clear tr
    refine blk_n ?_
    refine then_n ?_
    refine rg rfl ?_
    refine Rq ?_
    refine Rq ?_
    have tr : ∀ y0 y1 y2 y4 y5 y6 y7 y12 y13 y14 y15 z0 z1 : AV, trim [(14, z1), (41, z0), (0, y0), (1, y1), (2, y2), (4, y4), (5, y5), (6, y6), (7, y7), (12, y12), (13, y13), (14, y14), (15, y15)] [(0, y0), (1, y1), (2, y2), (4, y4), (5, y5), (6, y6), (7, y7), (12, y12), (13, y13), (14, y14), (15, y15)] = [(0, y0), (1, y1), (2, y2), (4, y4), (5, y5), (6, y6), (7, y7), (12, y12), (13, y13), (14, z1), (15, y15)] := fun y0 y1 y2 y4 y5 y6 y7 y12 y13 y14 y15 z0 z1 => rfl
    refine R_nil (tr _ _ _ _ _ _ _ _ _ _ _ _ _) ?_; clear tr
    refine then_n ?_
    exact ⟨_, _, ⟨u + 1, X ++ [some (edC (gt E u))], _, _, _, rfl, rfl, by simp; exact ⟨rfl, rfl⟩, by omega⟩, by rfl, by omega⟩
  · try simp only [decide_eq_true_eq, decide_eq_false_iff_not, Bool.not_eq_true', Bool.not_eq_false', beq_iff_eq, beq_eq_false_iff_ne, ne_eq] at h1
    refine at_exit rfl ?_
    refine then_x ?_
    refine then_x ?_
    refine blk_x ?_
    refine then_n ?_
    refine at_seq rfl ?_
    refine rg rfl ?_
    refine Rq ?_
    refine Rq ?_
    have tr : ∀ y0 y1 y2 y4 y5 y6 y7 y12 y13 y14 y15 z0 z1 : AV, trim [(4, z1), (42, z0), (0, y0), (1, y1), (2, y2), (4, y4), (5, y5), (6, y6), (7, y7), (12, y12), (13, y13), (14, y14), (15, y15)] [(0, y0), (1, y1), (2, y2), (4, y4), (5, y5), (6, y6), (7, y7), (12, y12), (13, y13), (14, y14), (15, y15)] = [(0, y0), (1, y1), (2, y2), (4, z1), (5, y5), (6, y6), (7, y7), (12, y12), (13, y13), (14, y14), (15, y15)] := fun y0 y1 y2 y4 y5 y6 y7 y12 y13 y14 y15 z0 z1 => rfl
    refine R_nil (tr _ _ _ _ _ _ _ _ _ _ _ _ _) ?_; clear tr
    refine then_n ?_
    refine at_ret rfl ?_
    obtain rfl : u = E.length := by omega
    refine fpure ?_
    exact ⟨frz_ownI (by simp) (hget_mid _ _ _) (surp_len _ _ _ _).symm, rfl⟩

theorem excess_ok (lim : Nat) (H : Heap) (n s t : Int) (E : List Ed) (f : List Int) (g : GOK n s t E) (hl : f.length = E.length) (hr : ∀ i, i < E.length → 0 ≤ gt f i ∧ gt f i ≤ 1073741824) :
    ACall sig lim 49 [.agg (graphC n s t E), intsAV f] H fun r H' => r = intsAV (surpS n E f) ∧ H' = H := by
  obtain ⟨g1, g2, g3, g4, g5, g6, g7, g8, ge⟩ := g
  have ge4 : ∀ i, i < E.length → 0 ≤ (gt E i).a ∧ (gt E i).a < n ∧ 0 ≤ (gt E i).b ∧ (gt E i).b < n := fun i hi => by have := ge i hi; omega
  refine ACall_pure (fa := fa49) rfl rfl rfl rfl ?_
  have tr : ∀ a0 a1 : AV, env0 fa49.keep [a0, a1] = [(0, a0), (1, a1), (2, .any), (4, .any), (5, .any), (6, .any), (7, .any), (12, .any), (13, .any), (14, .any), (15, .any)] := fun a0 a1 => rfl
  refine W_to (tr _ _) ?_; clear tr
  refine at_seq rfl ?_
  refine rg rfl ?_
  refine R_box rfl (by simp (disch := first | omega | (simp only [List.length_map, List.length_append, List.length_set, List.length_cons, List.length_nil, List.length_take, List.length_drop]; omega)) only [go_sem, ↓reduceIte, Nat.reduceEqDiff, reduceCtorEq, Option.join_some, hget_at]; rfl) rfl rfl ?_
  refine Rq ?_
  have tr : ∀ y0 y1 y2 y4 y5 y6 y7 y12 y13 y14 y15 z0 z1 : AV, trim [(4, z1), (2, z0), (0, y0), (1, y1), (2, y2), (4, y4), (5, y5), (6, y6), (7, y7), (12, y12), (13, y13), (14, y14), (15, y15)] [(0, y0), (1, y1), (2, y2), (4, y4), (5, y5), (6, y6), (7, y7), (12, y12), (13, y13), (14, y14), (15, y15)] = [(0, y0), (1, y1), (2, z0), (4, z1), (5, y5), (6, y6), (7, y7), (12, y12), (13, y13), (14, y14), (15, y15)] := fun y0 y1 y2 y4 y5 y6 y7 y12 y13 y14 y15 z0 z1 => rfl
  refine R_nil (tr _ _ _ _ _ _ _ _ _ _ _ _ _) ?_; clear tr
  refine then_n ?_
  refine at_seq rfl ?_
  refine rg rfl ?_
  refine Rq ?_
  refine R_q rfl (by simp (disch := first | omega | (simp only [List.length_map, List.length_append, List.length_set, List.length_cons, List.length_nil, List.length_take, List.length_drop]; omega)) only [go_sem, ↓reduceIte, Nat.reduceEqDiff, reduceCtorEq, Option.join_some, hget_at]; rfl) ?_
  refine R_makeSlice (ms27 _ _ n _ _ _ (by omega) (by omega) (by simp (disch := first | omega | (simp only [List.length_map, List.length_append, List.length_set, List.length_cons, List.length_nil, List.length_take, List.length_drop]; omega)) only [go_sem, ↓reduceIte, Nat.reduceEqDiff, reduceCtorEq]) (by simp (disch := first | omega | (simp only [List.length_map, List.length_append, List.length_set, List.length_cons, List.length_nil, List.length_take, List.length_drop]; omega)) only [go_sem, ↓reduceIte, Nat.reduceEqDiff, reduceCtorEq])) ?_
  rewrite [show List.replicate n.toNat (0 : Int) = surpN n.toNat E f 0 from rfl]
  refine Rq ?_
  have tr : ∀ y0 y1 y2 y4 y5 y6 y7 y12 y13 y14 y15 z0 z1 z2 z3 : AV, trim [(5, z3), (10, z2), (9, z1), (8, z0), (0, y0), (1, y1), (2, y2), (4, y4), (5, y5), (6, y6), (7, y7), (12, y12), (13, y13), (14, y14), (15, y15)] [(0, y0), (1, y1), (2, y2), (4, y4), (5, y5), (6, y6), (7, y7), (12, y12), (13, y13), (14, y14), (15, y15)] = [(0, y0), (1, y1), (2, y2), (4, y4), (5, z3), (6, y6), (7, y7), (12, y12), (13, y13), (14, y14), (15, y15)] := fun y0 y1 y2 y4 y5 y6 y7 y12 y13 y14 y15 z0 z1 z2 z3 => rfl
  refine R_nil (tr _ _ _ _ _ _ _ _ _ _ _ _ _ _ _) ?_; clear tr
  refine then_n ?_
  refine at_seq rfl ?_
  refine at_seq rfl ?_
  refine rg rfl ?_
  refine Rq ?_
  refine R_q rfl (by simp (disch := first | omega | (simp only [List.length_map, List.length_append, List.length_set, List.length_cons, List.length_nil, List.length_take, List.length_drop]; omega)) only [go_sem, ↓reduceIte, Nat.reduceEqDiff, reduceCtorEq, Option.join_some, hget_at]; rfl) ?_
  refine Rq ?_
  refine Rq ?_
  have tr : ∀ y0 y1 y2 y4 y5 y6 y7 y12 y13 y14 y15 z0 z1 z2 z3 : AV, trim [(14, z3), (13, z2), (12, z1), (11, z0), (0, y0), (1, y1), (2, y2), (4, y4), (5, y5), (6, y6), (7, y7), (12, y12), (13, y13), (14, y14), (15, y15)] [(0, y0), (1, y1), (2, y2), (4, y4), (5, y5), (6, y6), (7, y7), (12, y12), (13, y13), (14, y14), (15, y15)] = [(0, y0), (1, y1), (2, y2), (4, y4), (5, y5), (6, y6), (7, y7), (12, z1), (13, z2), (14, z3), (15, y15)] := fun y0 y1 y2 y4 y5 y6 y7 y12 y13 y14 y15 z0 z1 z2 z3 => rfl
  refine R_nil (tr _ _ _ _ _ _ _ _ _ _ _ _ _ _ _) ?_; clear tr
  refine then_n ?_
  refine at_block rfl ?_
  refine loop_n rfl (fun mm kv H' => ∃ u : Nat, ∃ X : Heap, ∃ x6 x7 x15 : AV, (kv = [(6, x6), (7, x7), (14, AV.i u), (15, x15)]) ∧ (mm = E.length - u) ∧ (H' = H ++ [some (graphC n s t E)] ++ [some ((surpN n.toNat E f u).map AV.i)] ++ X) ∧ (u ≤ E.length)) ⟨0, [], _, _, _, rfl, rfl, by simp, by omega⟩ (by rfl) ?_
  rintro mm kv H1 ⟨u, X, x6, x7, x15, rfl, rfl, hX, hu⟩
  have tr : ∀ y0 y1 y2 y4 y5 y6 y7 y12 y13 y14 y15 z6 z7 z14 z15 : AV, upd [(0, y0), (1, y1), (2, y2), (4, y4), (5, y5), (6, y6), (7, y7), (12, y12), (13, y13), (14, y14), (15, y15)] [(6, z6), (7, z7), (14, z14), (15, z15)] = [(0, y0), (1, y1), (2, y2), (4, y4), (5, y5), (6, z6), (7, z7), (12, y12), (13, y13), (14, z14), (15, z15)] := fun y0 y1 y2 y4 y5 y6 y7 y12 y13 y14 y15 z6 z7 z14 z15 => rfl
  refine W_to (tr _ _ _ _ _ _ _ _ _ _ _ _ _ _ _) ?_; clear tr
  subst hX
  refine at_seq rfl ?_
  refine rg rfl ?_
  refine Rq ?_
  have tr : ∀ y0 y1 y2 y4 y5 y6 y7 y12 y13 y14 y15 z0 : AV, trim [(15, z0), (0, y0), (1, y1), (2, y2), (4, y4), (5, y5), (6, y6), (7, y7), (12, y12), (13, y13), (14, y14), (15, y15)] [(0, y0), (1, y1), (2, y2), (4, y4), (5, y5), (6, y6), (7, y7), (12, y12), (13, y13), (14, y14), (15, y15)] = [(0, y0), (1, y1), (2, y2), (4, y4), (5, y5), (6, y6), (7, y7), (12, y12), (13, y13), (14, y14), (15, z0)] := fun y0 y1 y2 y4 y5 y6 y7 y12 y13 y14 y15 z0 => rfl
  refine R_nil (tr _ _ _ _ _ _ _ _ _ _ _ _) ?_; clear tr
  refine then_n ?_
  refine at_seq rfl ?_
  refine cdd (fun h1 => ?_) (fun h1 => ?_)
  · try simp only [decide_eq_true_eq, decide_eq_false_iff_not, Bool.not_eq_true', Bool.not_eq_false', beq_iff_eq, beq_eq_false_iff_ne, ne_eq] at h1
    refine at_skip rfl ?_
    refine then_n ?_
    refine at_seq rfl ?_
    refine at_block rfl ?_
    refine at_seq rfl ?_
    refine rg rfl ?_
    have he := ge u (by omega)
    have hru := hr u (by omega)
    have hsl := surp_len n.toNat E f u
    have hsr := surp_rng ge4 hr u (by omega) (gt E u).a.toNat
    have hsl1 : (surp1 E f u (surpN n.toNat E f u)).length = n.toNat := by rw [surp1_len, hsl]
    have hsq : -(1073741824 * (u : Int)) - 1073741824 ≤ gt (surp1 E f u (surpN n.toNat E f u)) (gt E u).b.toNat ∧ gt (surp1 E f u (surpN n.toNat E f u)) (gt E u).b.toNat ≤ 1073741824 * (u : Int) + 1073741824 := by
      have := surp_rng ge4 hr u (by omega) (gt E u).b.toNat
      rw [surp1, gt_set _ _ _ _ (by rw [hsl]; omega)]
      split <;> omega
    refine Rq ?_
    refine Rq ?_
    refine R_q rfl (by simp (disch := first | omega | (simp only [List.length_map, List.length_append, List.length_set, List.length_cons, List.length_nil, List.length_take, List.length_drop]; omega)) only [go_sem, ↓reduceIte, Nat.reduceEqDiff, reduceCtorEq, Option.join_some, hget_at]; rfl) ?_
    refine R_alloc (by simp (disch := first | omega | (simp only [List.length_map, List.length_append, List.length_set, List.length_cons, List.length_nil, List.length_take, List.length_drop]; omega)) only [go_sem, ↓reduceIte, Nat.reduceEqDiff, reduceCtorEq, Option.join_some, hget_at]; rfl) rfl (by simp only [List.map_cons, List.map_nil]; rfl) ?_
    refine Rq ?_
    refine R_store ty66 (by simp (disch := first | omega | (simp only [List.length_map, List.length_append, List.length_set, List.length_cons, List.length_nil, List.length_take, List.length_drop]; omega)) only [go_sem, ↓reduceIte, Nat.reduceEqDiff, reduceCtorEq, Option.join_some, hget_at]; rfl) (by simp (disch := first | omega | (simp only [List.length_map, List.length_append, List.length_set, List.length_cons, List.length_nil, List.length_take, List.length_drop]; omega)) only [go_sem, ↓reduceIte, Nat.reduceEqDiff, reduceCtorEq, Option.join_some, hget_at]; rfl) (by simp (disch := first | omega | (simp only [List.length_map, List.length_append, List.length_set, List.length_cons, List.length_nil, List.length_take, List.length_drop]; omega)) only [go_sem, ↓reduceIte, Nat.reduceEqDiff, reduceCtorEq, Option.join_some, hget_at]; rfl) (by simp) (by rfl) (by simp (disch := first | omega | (simp only [List.length_map, List.length_append, List.length_set, List.length_cons, List.length_nil, List.length_take, List.length_drop]; omega)) only [go_sem, ↓reduceIte, Nat.reduceEqDiff, reduceCtorEq, Option.join_some, hget_at]; rfl) ?_
    have tr : ∀ y0 y1 y2 y4 y5 y6 y7 y12 y13 y14 y15 z0 z1 z2 z3 z4 : AV, trim [(6, z4), (7, z3), (18, z2), (17, z1), (16, z0), (0, y0), (1, y1), (2, y2), (4, y4), (5, y5), (6, y6), (7, y7), (12, y12), (13, y13), (14, y14), (15, y15)] [(0, y0), (1, y1), (2, y2), (4, y4), (5, y5), (6, y6), (7, y7), (12, y12), (13, y13), (14, y14), (15, y15)] = [(0, y0), (1, y1), (2, y2), (4, y4), (5, y5), (6, z4), (7, z3), (12, y12), (13, y13), (14, y14), (15, y15)] := fun y0 y1 y2 y4 y5 y6 y7 y12 y13 y14 y15 z0 z1 z2 z3 z4 => rfl
    refine R_nil (tr _ _ _ _ _ _ _ _ _ _ _ _ _ _ _ _) ?_; clear tr
    rewrite [show List.length (H ++ [some (graphC n s t E)] ++ [some ((surpN n.toNat E f u).map AV.i)] ++ X) = H.length + 2 + X.length by simp; omega]
    refine then_n ?_
    refine at_seq rfl ?_
    refine rd rfl rfl ?_
    refine Qq ?_
    refine Qq ?_
    refine Q_q rfl (by simp (disch := first | omega | (simp only [List.length_map, List.length_append, List.length_set, List.length_cons, List.length_nil, List.length_take, List.length_drop]; omega)) only [go_sem, ↓reduceIte, Nat.reduceEqDiff, reduceCtorEq, Option.join_some, hget_at]; rfl) ?_
    refine Qq ?_
    refine Q_q rfl (by simp (disch := first | omega | (simp only [List.length_map, List.length_append, List.length_set, List.length_cons, List.length_nil, List.length_take, List.length_drop]; omega)) only [go_sem, ↓reduceIte, Nat.reduceEqDiff, reduceCtorEq, Option.join_some, hget_at]; rfl) ?_
    refine Qq ?_
    refine Qq ?_
    refine Qq ?_
    refine Q_q rfl (by simp (disch := first | omega | (simp only [List.length_map, List.length_append, List.length_set, List.length_cons, List.length_nil, List.length_take, List.length_drop]; omega)) only [go_sem, ↓reduceIte, Nat.reduceEqDiff, reduceCtorEq, Option.join_some, hget_at]; rfl) ?_
    refine Qq ?_
    refine Qq ?_
    refine Q_nil ?_
    refine R_store ty2 (by simp (disch := first | omega | (simp only [List.length_map, List.length_append, List.length_set, List.length_cons, List.length_nil, List.length_take, List.length_drop]; omega)) only [go_sem, ↓reduceIte, Nat.reduceEqDiff, reduceCtorEq]; rfl) (by simp (disch := first | omega | (simp only [List.length_map, List.length_append, List.length_set, List.length_cons, List.length_nil, List.length_take, List.length_drop]; omega)) only [go_sem, ↓reduceIte, Nat.reduceEqDiff, reduceCtorEq]; rfl) (by simp (disch := first | omega | (simp only [List.length_map, List.length_append, List.length_set, List.length_cons, List.length_nil, List.length_take, List.length_drop]; omega)) only [go_sem, ↓reduceIte, Nat.reduceEqDiff, reduceCtorEq]; rfl) ⟨by simp, rfl, by simp only [List.length_map, surp1_len, hsl]; omega⟩ (k' := (surp1 E f u (surpN n.toNat E f u)).map AV.i) (by rw [setL_map]; rfl) (by simp (disch := first | omega | (simp only [List.length_map, List.length_append, List.length_set, List.length_cons, List.length_nil, List.length_take, List.length_drop]; omega)) only [go_sem, ↓reduceIte, Nat.reduceEqDiff, reduceCtorEq]; rfl) ?_
    have tr : ∀ y0 y1 y2 y4 y5 y6 y7 y12 y13 y14 y15 z0 z1 z2 z3 z4 z5 z6 z7 z8 z9 z10 : AV, trim [(29, z10), (28, z9), (27, z8), (26, z7), (25, z6), (24, z5), (23, z4), (22, z3), (21, z2), (20, z1), (19, z0), (0, y0), (1, y1), (2, y2), (4, y4), (5, y5), (6, y6), (7, y7), (12, y12), (13, y13), (14, y14), (15, y15)] [(0, y0), (1, y1), (2, y2), (4, y4), (5, y5), (6, y6), (7, y7), (12, y12), (13, y13), (14, y14), (15, y15)] = [(0, y0), (1, y1), (2, y2), (4, y4), (5, y5), (6, y6), (7, y7), (12, y12), (13, y13), (14, y14), (15, y15)] := fun y0 y1 y2 y4 y5 y6 y7 y12 y13 y14 y15 z0 z1 z2 z3 z4 z5 z6 z7 z8 z9 z10 => rfl
    refine R_nil (tr _ _ _ _ _ _ _ _ _ _ _ _ _ _ _ _ _ _ _ _ _ _) ?_; clear tr
    refine then_n ?_
    refine rd rfl rfl ?_
    refine Qq ?_
    refine Qq ?_
    refine Q_q rfl (by simp (disch := first | omega | (simp only [List.length_map, List.length_append, List.length_set, List.length_cons, List.length_nil, List.length_take, List.length_drop]; omega)) only [go_sem, ↓reduceIte, Nat.reduceEqDiff, reduceCtorEq, Option.join_some, hget_at]; rfl) ?_
    refine Qq ?_
    refine Q_q rfl (by simp (disch := first | omega | (simp only [List.length_map, List.length_append, List.length_set, List.length_cons, List.length_nil, List.length_take, List.length_drop]; omega)) only [go_sem, ↓reduceIte, Nat.reduceEqDiff, reduceCtorEq, Option.join_some, hget_at]; rfl) ?_
    refine Qq ?_
    refine Qq ?_
    refine Qq ?_
    refine Q_q rfl (by simp (disch := first | omega | (simp only [List.length_map, List.length_append, List.length_set, List.length_cons, List.length_nil, List.length_take, List.length_drop]; omega)) only [go_sem, ↓reduceIte, Nat.reduceEqDiff, reduceCtorEq, Option.join_some, hget_at]; rfl) ?_
    refine Qq ?_
    refine Qq ?_
    refine Q_nil ?_
    refine R_store ty2 (by simp (disch := first | omega | (simp only [List.length_map, List.length_append, List.length_set, List.length_cons, List.length_nil, List.length_take, List.length_drop]; omega)) only [go_sem, ↓reduceIte, Nat.reduceEqDiff, reduceCtorEq]; rfl) (by simp (disch := first | omega | (simp only [List.length_map, List.length_append, List.length_set, List.length_cons, List.length_nil, List.length_take, List.length_drop]; omega)) only [go_sem, ↓reduceIte, Nat.reduceEqDiff, reduceCtorEq]; rfl) (by simp (disch := first | omega | (simp only [List.length_map, List.length_append, List.length_set, List.length_cons, List.length_nil, List.length_take, List.length_drop]; omega)) only [go_sem, ↓reduceIte, Nat.reduceEqDiff, reduceCtorEq]; rfl) ⟨by simp, rfl, by simp only [List.length_map, surp1_len, hsl]; omega⟩ (k' := (surp2 E f u (surp1 E f u (surpN n.toNat E f u))).map AV.i) (by rw [setL_map]; rfl) (by simp (disch := first | omega | (simp only [List.length_map, List.length_append, List.length_set, List.length_cons, List.length_nil, List.length_take, List.length_drop]; omega)) only [go_sem, ↓reduceIte, Nat.reduceEqDiff, reduceCtorEq]; rfl) ?_
    have tr : ∀ y0 y1 y2 y4 y5 y6 y7 y12 y13 y14 y15 z0 z1 z2 z3 z4 z5 z6 z7 z8 z9 z10 : AV, trim [(40, z10), (39, z9), (38, z8), (37, z7), (36, z6), (35, z5), (34, z4), (33, z3), (32, z2), (31, z1), (30, z0), (0, y0), (1, y1), (2, y2), (4, y4), (5, y5), (6, y6), (7, y7), (12, y12), (13, y13), (14, y14), (15, y15)] [(0, y0), (1, y1), (2, y2), (4, y4), (5, y5), (6, y6), (7, y7), (12, y12), (13, y13), (14, y14), (15, y15)] = [(0, y0), (1, y1), (2, y2), (4, y4), (5, y5), (6, y6), (7, y7), (12, y12), (13, y13), (14, y14), (15, y15)] := fun y0 y1 y2 y4 y5 y6 y7 y12 y13 y14 y15 z0 z1 z2 z3 z4 z5 z6 z7 z8 z9 z10 => rfl
    refine R_nil (tr _ _ _ _ _ _ _ _ _ _ _ _ _ _ _ _ _ _ _ _ _ _) ?_; clear tr
    refine blk_n ?_
    refine then_n ?_
    refine rg rfl ?_
    refine Rq ?_
    refine Rq ?_
    have tr : ∀ y0 y1 y2 y4 y5 y6 y7 y12 y13 y14 y15 z0 z1 : AV, trim [(14, z1), (41, z0), (0, y0), (1, y1), (2, y2), (4, y4), (5, y5), (6, y6), (7, y7), (12, y12), (13, y13), (14, y14), (15, y15)] [(0, y0), (1, y1), (2, y2), (4, y4), (5, y5), (6, y6), (7, y7), (12, y12), (13, y13), (14, y14), (15, y15)] = [(0, y0), (1, y1), (2, y2), (4, y4), (5, y5), (6, y6), (7, y7), (12, y12), (13, y13), (14, z1), (15, y15)] := fun y0 y1 y2 y4 y5 y6 y7 y12 y13 y14 y15 z0 z1 => rfl
    refine R_nil (tr _ _ _ _ _ _ _ _ _ _ _ _ _) ?_; clear tr
    refine then_n ?_
    exact ⟨_, _, ⟨u + 1, X ++ [some (edC (gt E u))], _, _, _, rfl, rfl, by simp; exact ⟨rfl, rfl⟩, by omega⟩, by rfl, by omega⟩
  · try simp only [decide_eq_true_eq, decide_eq_false_iff_not, Bool.not_eq_true', Bool.not_eq_false', beq_iff_eq, beq_eq_false_iff_ne, ne_eq] at h1
    refine at_exit rfl ?_
    refine then_x ?_
    refine then_x ?_
    refine blk_x ?_
    refine then_n ?_
    refine at_seq rfl ?_
    refine rg rfl ?_
    refine Rq ?_
    refine Rq ?_
    have tr : ∀ y0 y1 y2 y4 y5 y6 y7 y12 y13 y14 y15 z0 z1 : AV, trim [(4, z1), (42, z0), (0, y0), (1, y1), (2, y2), (4, y4), (5, y5), (6, y6), (7, y7), (12, y12), (13, y13), (14, y14), (15, y15)] [(0, y0), (1, y1), (2, y2), (4, y4), (5, y5), (6, y6), (7, y7), (12, y12), (13, y13), (14, y14), (15, y15)] = [(0, y0), (1, y1), (2, y2), (4, z1), (5, y5), (6, y6), (7, y7), (12, y12), (13, y13), (14, y14), (15, y15)] := fun y0 y1 y2 y4 y5 y6 y7 y12 y13 y14 y15 z0 z1 => rfl
    refine R_nil (tr _ _ _ _ _ _ _ _ _ _ _ _ _) ?_; clear tr
    refine then_n ?_
    refine at_ret rfl ?_
    obtain rfl : u = E.length := by omega
    refine fpure ?_
    exact ⟨frz_ownI (by simp) (hget_mid _ _ _) (surp_len _ _ _ _).symm, rfl⟩

end Go.Proofs.Ytdicnojnkbmdlaa
