/-
  Walks of chapters 52 and 53. The steps are written by program (walk.py).
-/
import Derived.Test.YtdicnojnkbmdlaaSF
set_option linter.unusedSimpArgs false
set_option linter.unusedVariables false
set_option maxHeartbeats 40000000
set_option maxRecDepth 4000
namespace Go.Proofs.Ytdicnojnkbmdlaa
open Go Go.Am

theorem pairs_ok (lim : Nat) (H : Heap) (L : List Pr) (hL : L.length ≤ 400) :
    ACall sig lim 53 [prsAV L] H fun r H' => r = pairsA L ∧ H' = H := by
  have qx : True := trivial
  have qp : True := trivial
  refine ACall_pure (fa := fa53) rfl rfl rfl rfl ?_
  have tr : ∀ a0 : AV, env0 fa53.keep [a0] = [(0, a0), (2, .any), (3, .any), (5, .any), (6, .any), (7, .any), (8, .any), (9, .any), (10, .any), (18, .any)] := fun a0 => rfl
  refine W_to (tr _) ?_; clear tr
  refine at_seq rfl ?_
  refine rg rfl ?_
  refine Rq ?_
  have tr : ∀ y0 y2 y3 y5 y6 y7 y8 y9 y10 y18 z0 : AV, trim [(2, z0), (0, y0), (2, y2), (3, y3), (5, y5), (6, y6), (7, y7), (8, y8), (9, y9), (10, y10), (18, y18)] [(0, y0), (2, y2), (3, y3), (5, y5), (6, y6), (7, y7), (8, y8), (9, y9), (10, y10), (18, y18)] = [(0, y0), (2, z0), (3, y3), (5, y5), (6, y6), (7, y7), (8, y8), (9, y9), (10, y10), (18, y18)] := fun y0 y2 y3 y5 y6 y7 y8 y9 y10 y18 z0 => rfl
  refine R_nil (tr _ _ _ _ _ _ _ _ _ _ _) ?_; clear tr
  refine then_n ?_
  refine at_seq rfl ?_
  refine rg rfl ?_
  refine Rq ?_
  have tr : ∀ y0 y2 y3 y5 y6 y7 y8 y9 y10 y18 z0 : AV, trim [(3, z0), (0, y0), (2, y2), (3, y3), (5, y5), (6, y6), (7, y7), (8, y8), (9, y9), (10, y10), (18, y18)] [(0, y0), (2, y2), (3, y3), (5, y5), (6, y6), (7, y7), (8, y8), (9, y9), (10, y10), (18, y18)] = [(0, y0), (2, y2), (3, z0), (5, y5), (6, y6), (7, y7), (8, y8), (9, y9), (10, y10), (18, y18)] := fun y0 y2 y3 y5 y6 y7 y8 y9 y10 y18 z0 => rfl
  refine R_nil (tr _ _ _ _ _ _ _ _ _ _ _) ?_; clear tr
  refine then_n ?_
  refine at_seq rfl ?_
  refine at_seq rfl ?_
  refine rg rfl ?_
  refine Rq ?_
  refine Rq ?_
  refine Rq ?_
  have tr : ∀ y0 y2 y3 y5 y6 y7 y8 y9 y10 y18 z0 z1 z2 : AV, trim [(9, z2), (8, z1), (7, z0), (0, y0), (2, y2), (3, y3), (5, y5), (6, y6), (7, y7), (8, y8), (9, y9), (10, y10), (18, y18)] [(0, y0), (2, y2), (3, y3), (5, y5), (6, y6), (7, y7), (8, y8), (9, y9), (10, y10), (18, y18)] = [(0, y0), (2, y2), (3, y3), (5, y5), (6, y6), (7, z0), (8, z1), (9, z2), (10, y10), (18, y18)] := fun y0 y2 y3 y5 y6 y7 y8 y9 y10 y18 z0 z1 z2 => rfl
  refine R_nil (tr _ _ _ _ _ _ _ _ _ _ _ _ _) ?_; clear tr
  refine then_n ?_
  refine at_block rfl ?_
  refine loop_n rfl (fun mm kv H' => ∃ u : Nat, ∃ o : AV, ∃ x5 x6 x10 x18 : AV, (kv = [(3, o), (5, x5), (6, x6), (9, AV.i u), (10, x10), (18, x18)]) ∧ (mm = L.length - u) ∧ (H.length ≤ H'.length) ∧ (u ≤ L.length) ∧ (OutP H.length H' o (pairsN L u))) ⟨0, _, _, _, _, _, rfl, rfl, by exact Nat.le_refl _, by omega, by exact .inl ⟨rfl, rfl⟩⟩ (by rfl) ?_
  rintro mm kv HB ⟨u, o, x5, x6, x10, x18, rfl, rfl, hHB, hu, hO⟩
  have tr : ∀ y0 y2 y3 y5 y6 y7 y8 y9 y10 y18 z3 z5 z6 z9 z10 z18 : AV, upd [(0, y0), (2, y2), (3, y3), (5, y5), (6, y6), (7, y7), (8, y8), (9, y9), (10, y10), (18, y18)] [(3, z3), (5, z5), (6, z6), (9, z9), (10, z10), (18, z18)] = [(0, y0), (2, y2), (3, z3), (5, z5), (6, z6), (7, y7), (8, y8), (9, z9), (10, z10), (18, z18)] := fun y0 y2 y3 y5 y6 y7 y8 y9 y10 y18 z3 z5 z6 z9 z10 z18 => rfl
  refine W_to (tr _ _ _ _ _ _ _ _ _ _ _ _ _ _ _ _) ?_; clear tr
  have hpl := pairs_len L u
  refine at_seq rfl ?_
  refine rg rfl ?_
  refine Rq ?_
  have tr : ∀ y0 y2 y3 y5 y6 y7 y8 y9 y10 y18 z0 : AV, trim [(10, z0), (0, y0), (2, y2), (3, y3), (5, y5), (6, y6), (7, y7), (8, y8), (9, y9), (10, y10), (18, y18)] [(0, y0), (2, y2), (3, y3), (5, y5), (6, y6), (7, y7), (8, y8), (9, y9), (10, y10), (18, y18)] = [(0, y0), (2, y2), (3, y3), (5, y5), (6, y6), (7, y7), (8, y8), (9, y9), (10, z0), (18, y18)] := fun y0 y2 y3 y5 y6 y7 y8 y9 y10 y18 z0 => rfl
  refine R_nil (tr _ _ _ _ _ _ _ _ _ _ _) ?_; clear tr
  refine then_n ?_
  refine at_seq rfl ?_
  refine cdd (fun h1 => ?_) (fun h1 => ?_)
  · try simp only [decide_eq_true_eq, decide_eq_false_iff_not, Bool.not_eq_true', Bool.not_eq_false', beq_iff_eq, beq_eq_false_iff_ne, ne_eq] at h1
    refine at_skip rfl ?_
    refine then_n ?_
    refine at_seq rfl ?_
    refine at_block rfl ?_
    refine at_seq rfl ?_
    refine rg rfl ?_
    have hO1 := hO
    refine Rq ?_
    refine R_q rfl (by simp (disch := first | omega | (simp only [List.length_map, List.length_append, List.length_set, List.length_cons, List.length_nil, List.length_take, List.length_drop]; omega)) only [go_sem, ↓reduceIte, Nat.reduceEqDiff, reduceCtorEq, qx, qp]; rfl) ?_
    refine A_alloc rfl ?_
    intro HC n4
    have en4 := n4.len
    have qx := n4.new
    have hO := hO.mono fun b hb k hk => (n4.old _ (hget_lt hk)).trans hk
    have lqx := hget_lt qx
    refine A_store ty58 (by simp (disch := first | omega | (simp only [List.length_map, List.length_append, List.length_set, List.length_cons, List.length_nil, List.length_take, List.length_drop]; omega)) only [go_sem, ↓reduceIte, Nat.reduceEqDiff, reduceCtorEq]; rfl) (by simp (disch := first | omega | (simp only [List.length_map, List.length_append, List.length_set, List.length_cons, List.length_nil, List.length_take, List.length_drop]; omega)) only [go_sem, ↓reduceIte, Nat.reduceEqDiff, reduceCtorEq, qx]; rfl) qx ⟨by omega, rfl, by first | exact Nat.le_refl _ | simp⟩ (show _ = prC (gt L u) from rfl) ?_
    intro HD w4
    have ew4 := w4.len
    have qx := w4.new
    have hO := hO1.mono fun b hb k hk => (w4.old _ (by have := hget_lt hk; omega)).trans ((n4.old _ (hget_lt hk)).trans hk)
    have tr : ∀ y0 y2 y3 y5 y6 y7 y8 y9 y10 y18 z0 z1 z2 : AV, trim [(5, z2), (12, z1), (11, z0), (0, y0), (2, y2), (3, y3), (5, y5), (6, y6), (7, y7), (8, y8), (9, y9), (10, y10), (18, y18)] [(0, y0), (2, y2), (3, y3), (5, y5), (6, y6), (7, y7), (8, y8), (9, y9), (10, y10), (18, y18)] = [(0, y0), (2, y2), (3, y3), (5, z2), (6, y6), (7, y7), (8, y8), (9, y9), (10, y10), (18, y18)] := fun y0 y2 y3 y5 y6 y7 y8 y9 y10 y18 z0 z1 z2 => rfl
    refine R_nil (tr _ _ _ _ _ _ _ _ _ _ _ _ _) ?_; clear tr
    refine then_n ?_
    refine at_seq rfl ?_
    refine rg rfl ?_
    refine R_q rfl (by simp (disch := first | omega | (simp only [List.length_map, List.length_append, List.length_set, List.length_cons, List.length_nil, List.length_take, List.length_drop]; omega)) only [go_sem, ↓reduceIte, Nat.reduceEqDiff, reduceCtorEq, qx, qp]; rfl) ?_
    refine Rcall ?_
    refine ACall_eq (pair_ok _ _ _) ?_
    have hO1 := hO
    refine A_alloc rfl ?_
    intro HE n5
    have en5 := n5.len
    have qx := (n5.old _ (hget_lt qx)).trans qx
    have qp := n5.new
    have lqx := hget_lt qx
    have lqp := hget_lt qp
    refine A_store ty58 (by simp (disch := first | omega | (simp only [List.length_map, List.length_append, List.length_set, List.length_cons, List.length_nil, List.length_take, List.length_drop]; omega)) only [go_sem, ↓reduceIte, Nat.reduceEqDiff, reduceCtorEq]; rfl) (by simp (disch := first | omega | (simp only [List.length_map, List.length_append, List.length_set, List.length_cons, List.length_nil, List.length_take, List.length_drop]; omega)) only [go_sem, ↓reduceIte, Nat.reduceEqDiff, reduceCtorEq, qp]; rfl) qp ⟨by omega, rfl, by first | exact Nat.le_refl _ | simp⟩ (show _ = prC (norm (gt L u)) from rfl) ?_
    intro HF w5
    have ew5 := w5.len
    have qx := (w5.old _ (by omega)).trans qx
    have qp := w5.new
    have hO := hO1.mono fun b hb k hk => (w5.old _ (by have := hget_lt hk; omega)).trans ((n5.old _ (hget_lt hk)).trans hk)
    have tr : ∀ y0 y2 y3 y5 y6 y7 y8 y9 y10 y18 z0 z1 z2 : AV, trim [(6, z2), (14, z1), (13, z0), (0, y0), (2, y2), (3, y3), (5, y5), (6, y6), (7, y7), (8, y8), (9, y9), (10, y10), (18, y18)] [(0, y0), (2, y2), (3, y3), (5, y5), (6, y6), (7, y7), (8, y8), (9, y9), (10, y10), (18, y18)] = [(0, y0), (2, y2), (3, y3), (5, y5), (6, z2), (7, y7), (8, y8), (9, y9), (10, y10), (18, y18)] := fun y0 y2 y3 y5 y6 y7 y8 y9 y10 y18 z0 z1 z2 => rfl
    refine R_nil (tr _ _ _ _ _ _ _ _ _ _ _ _ _) ?_; clear tr
    refine then_n ?_
    refine at_seq rfl ?_
    refine rg rfl ?_
    refine Rq ?_
    refine R_q rfl (by simp (disch := first | omega | (simp only [List.length_map, List.length_append, List.length_set, List.length_cons, List.length_nil, List.length_take, List.length_drop]; omega)) only [go_sem, ↓reduceIte, Nat.reduceEqDiff, reduceCtorEq, qx, qp]; rfl) ?_
    refine Rcall ?_
    refine ACall_eq (contains_ok _ H.length _ o _ _ hO (by omega)) ?_
    refine Rq ?_
    have tr : ∀ y0 y2 y3 y5 y6 y7 y8 y9 y10 y18 z0 z1 z2 z3 : AV, trim [(18, z3), (17, z2), (16, z1), (15, z0), (0, y0), (2, y2), (3, y3), (5, y5), (6, y6), (7, y7), (8, y8), (9, y9), (10, y10), (18, y18)] [(0, y0), (2, y2), (3, y3), (5, y5), (6, y6), (7, y7), (8, y8), (9, y9), (10, y10), (18, y18)] = [(0, y0), (2, y2), (3, y3), (5, y5), (6, y6), (7, y7), (8, y8), (9, y9), (10, y10), (18, z3)] := fun y0 y2 y3 y5 y6 y7 y8 y9 y10 y18 z0 z1 z2 z3 => rfl
    refine R_nil (tr _ _ _ _ _ _ _ _ _ _ _ _ _ _) ?_; clear tr
    refine then_n ?_
    refine cdd (fun h2 => ?_) (fun h2 => ?_)
    · try simp only [decide_eq_true_eq, decide_eq_false_iff_not, Bool.not_eq_true', Bool.not_eq_false', beq_iff_eq, beq_eq_false_iff_ne, ne_eq] at h2
      refine rg rfl ?_
      refine Rq ?_
      refine R_q rfl (by simp (disch := first | omega | (simp only [List.length_map, List.length_append, List.length_set, List.length_cons, List.length_nil, List.length_take, List.length_drop]; omega)) only [go_sem, ↓reduceIte, Nat.reduceEqDiff, reduceCtorEq, qx, qp]; rfl) ?_
      have hob := fun b hb => hO.lt (b := b) hb
      refine A_buildSlice (bs41 _ _ _ _ (norm (gt L u)) (by simp (disch := first | omega | (simp only [List.length_map, List.length_append, List.length_set, List.length_cons, List.length_nil, List.length_take, List.length_drop]; omega)) only [go_sem, ↓reduceIte, Nat.reduceEqDiff, reduceCtorEq, qx, qp])) ?_
      intro HG n7
      have en7 := n7.len
      have qx := (n7.old _ (hget_lt qx)).trans qx
      have qp := (n7.old _ (hget_lt qp)).trans qp
      have qn := n7.new
      have hO := hO.mono fun b hb k hk => (n7.old _ (hget_lt hk)).trans hk
      obtain ⟨b, hbl, hbl2, hap⟩ := outP_append (lim := H.length) hO hob qn (Nat.le_refl _) (by omega) (by omega)
      refine A_append (by simp (disch := first | omega | (simp only [List.length_map, List.length_append, List.length_set, List.length_cons, List.length_nil, List.length_take, List.length_drop]; omega)) only [go_sem, ↓reduceIte, Nat.reduceEqDiff, reduceCtorEq]; exact hap) ?_
      intro HK g7
      have eg7 := g7.len
      refine Rq ?_
      have tr : ∀ y0 y2 y3 y5 y6 y7 y8 y9 y10 y18 z0 z1 z2 z3 z4 : AV, trim [(3, z4), (22, z3), (21, z2), (20, z1), (19, z0), (0, y0), (2, y2), (3, y3), (5, y5), (6, y6), (7, y7), (8, y8), (9, y9), (10, y10), (18, y18)] [(0, y0), (2, y2), (3, y3), (5, y5), (6, y6), (7, y7), (8, y8), (9, y9), (10, y10), (18, y18)] = [(0, y0), (2, y2), (3, z4), (5, y5), (6, y6), (7, y7), (8, y8), (9, y9), (10, y10), (18, y18)] := fun y0 y2 y3 y5 y6 y7 y8 y9 y10 y18 z0 z1 z2 z3 z4 => rfl
      refine R_nil (tr _ _ _ _ _ _ _ _ _ _ _ _ _ _ _) ?_; clear tr
      refine blk_n ?_
      refine then_n ?_
      refine rg rfl ?_
      refine Rq ?_
      refine Rq ?_
      have tr : ∀ y0 y2 y3 y5 y6 y7 y8 y9 y10 y18 z0 z1 : AV, trim [(9, z1), (23, z0), (0, y0), (2, y2), (3, y3), (5, y5), (6, y6), (7, y7), (8, y8), (9, y9), (10, y10), (18, y18)] [(0, y0), (2, y2), (3, y3), (5, y5), (6, y6), (7, y7), (8, y8), (9, y9), (10, y10), (18, y18)] = [(0, y0), (2, y2), (3, y3), (5, y5), (6, y6), (7, y7), (8, y8), (9, z1), (10, y10), (18, y18)] := fun y0 y2 y3 y5 y6 y7 y8 y9 y10 y18 z0 z1 => rfl
      refine R_nil (tr _ _ _ _ _ _ _ _ _ _ _ _) ?_; clear tr
      refine then_n ?_
      exact ⟨_, _, ⟨u + 1, (.own 2 HG.length 0 ((pairsN L u).length + 1)), _, _, _, _, rfl, rfl, by first | (show H.length ≤ HK.length; omega) | (show H.length ≤ HF.length; omega), by omega, by first | exact pairs_new g7 (by omega) (by assumption) | exact pairs_old hO (by assumption)⟩, by rfl, by omega⟩
    · try simp only [decide_eq_true_eq, decide_eq_false_iff_not, Bool.not_eq_true', Bool.not_eq_false', beq_iff_eq, beq_eq_false_iff_ne, ne_eq] at h2
      refine at_skip rfl ?_
      refine blk_n ?_
      refine then_n ?_
      refine rg rfl ?_
      refine Rq ?_
      refine Rq ?_
      have tr : ∀ y0 y2 y3 y5 y6 y7 y8 y9 y10 y18 z0 z1 : AV, trim [(9, z1), (23, z0), (0, y0), (2, y2), (3, y3), (5, y5), (6, y6), (7, y7), (8, y8), (9, y9), (10, y10), (18, y18)] [(0, y0), (2, y2), (3, y3), (5, y5), (6, y6), (7, y7), (8, y8), (9, y9), (10, y10), (18, y18)] = [(0, y0), (2, y2), (3, y3), (5, y5), (6, y6), (7, y7), (8, y8), (9, z1), (10, y10), (18, y18)] := fun y0 y2 y3 y5 y6 y7 y8 y9 y10 y18 z0 z1 => rfl
      refine R_nil (tr _ _ _ _ _ _ _ _ _ _ _ _) ?_; clear tr
      refine then_n ?_
      exact ⟨_, _, ⟨u + 1, o, _, _, _, _, rfl, rfl, by first | (show H.length ≤ HK.length; omega) | (show H.length ≤ HF.length; omega), by omega, by first | exact pairs_new g7 (by omega) (by assumption) | exact pairs_old hO (by assumption)⟩, by rfl, by omega⟩
  · try simp only [decide_eq_true_eq, decide_eq_false_iff_not, Bool.not_eq_true', Bool.not_eq_false', beq_iff_eq, beq_eq_false_iff_ne, ne_eq] at h1
    refine at_exit rfl ?_
    refine then_x ?_
    refine then_x ?_
    refine blk_x ?_
    refine then_n ?_
    refine at_seq rfl ?_
    refine rg rfl ?_
    refine Rq ?_
    refine Rq ?_
    have tr : ∀ y0 y2 y3 y5 y6 y7 y8 y9 y10 y18 z0 z1 : AV, trim [(2, z1), (24, z0), (0, y0), (2, y2), (3, y3), (5, y5), (6, y6), (7, y7), (8, y8), (9, y9), (10, y10), (18, y18)] [(0, y0), (2, y2), (3, y3), (5, y5), (6, y6), (7, y7), (8, y8), (9, y9), (10, y10), (18, y18)] = [(0, y0), (2, z1), (3, y3), (5, y5), (6, y6), (7, y7), (8, y8), (9, y9), (10, y10), (18, y18)] := fun y0 y2 y3 y5 y6 y7 y8 y9 y10 y18 z0 z1 => rfl
    refine R_nil (tr _ _ _ _ _ _ _ _ _ _ _ _) ?_; clear tr
    refine then_n ?_
    refine at_ret rfl ?_
    obtain rfl : u = L.length := by omega
    refine fpure ?_
    exact ⟨hO.frz, rfl⟩

end Go.Proofs.Ytdicnojnkbmdlaa
