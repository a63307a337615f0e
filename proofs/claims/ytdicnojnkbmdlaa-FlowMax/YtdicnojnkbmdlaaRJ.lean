/-
  Walks of chapters 52 and 53. The steps are written by program (walk.py).
-/
import Derived.Test.YtdicnojnkbmdlaaRH
import Derived.Test.YtdicnojnkbmdlaaRI
import Derived.Test.YtdicnojnkbmdlaaRA
import Derived.Test.YtdicnojnkbmdlaaQE
set_option linter.unusedSimpArgs false
set_option linter.unusedVariables false
set_option maxHeartbeats 40000000
set_option maxRecDepth 4000
namespace Go.Proofs.Ytdicnojnkbmdlaa
open Go Go.Am

theorem rmax_ok (lim : Nat) (H : Heap) (n s t : Int) (E : List Ed) :
    ACall sig lim 15 [.agg (graphC n s t E)] H fun r H' => r = .tup [maxA n s t E, maxB n s t E, AV.i (gchkS n s t E)] ∧ H' = H := by
  have q0 : True := trivial
  have qf : True := trivial
  refine ACall_pure (fa := fa15) rfl rfl rfl rfl ?_
  have tr : ∀ a0 : AV, env0 fa15.keep [a0] = [(0, a0), (1, .any), (2, .any), (3, .any), (4, .any), (5, .any), (6, .any), (7, .any), (8, .any), (12, .any), (29, .any)] := fun a0 => rfl
  refine W_to (tr _) ?_; clear tr
  refine at_seq rfl ?_
  refine rg rfl ?_
  refine A_box rfl (by simp (disch := first | omega | (simp only [List.length_map, List.length_append, List.length_set, List.length_cons, List.length_nil, List.length_take, List.length_drop]; omega)) only [go_sem, ↓reduceIte, Nat.reduceEqDiff, reduceCtorEq]; rfl) ?_
  intro H1 n0
  have en0 := n0.len
  have q0 := n0.new
  refine Rq ?_
  refine Rq ?_
  refine Rq ?_
  have tr : ∀ y0 y1 y2 y3 y4 y5 y6 y7 y8 y12 y29 z0 z1 z2 z3 : AV, trim [(4, z3), (3, z2), (2, z1), (1, z0), (0, y0), (1, y1), (2, y2), (3, y3), (4, y4), (5, y5), (6, y6), (7, y7), (8, y8), (12, y12), (29, y29)] [(0, y0), (1, y1), (2, y2), (3, y3), (4, y4), (5, y5), (6, y6), (7, y7), (8, y8), (12, y12), (29, y29)] = [(0, y0), (1, z0), (2, z1), (3, z2), (4, z3), (5, y5), (6, y6), (7, y7), (8, y8), (12, y12), (29, y29)] := fun y0 y1 y2 y3 y4 y5 y6 y7 y8 y12 y29 z0 z1 z2 z3 => rfl
  refine R_nil (tr _ _ _ _ _ _ _ _ _ _ _ _ _ _ _) ?_; clear tr
  refine then_n ?_
  refine at_seq rfl ?_
  refine at_seq rfl ?_
  refine rg rfl ?_
  refine R_q rfl (by simp (disch := first | omega | (simp only [List.length_map, List.length_append, List.length_set, List.length_cons, List.length_nil, List.length_take, List.length_drop]; omega)) only [go_sem, ↓reduceIte, Nat.reduceEqDiff, reduceCtorEq, q0, qf]; rfl) ?_
  refine Rcall ?_
  refine ACall_eq (rcheck_ok _ _ n s t E) ?_
  refine Rq ?_
  have tr : ∀ y0 y1 y2 y3 y4 y5 y6 y7 y8 y12 y29 z0 z1 z2 : AV, trim [(5, z2), (10, z1), (9, z0), (0, y0), (1, y1), (2, y2), (3, y3), (4, y4), (5, y5), (6, y6), (7, y7), (8, y8), (12, y12), (29, y29)] [(0, y0), (1, y1), (2, y2), (3, y3), (4, y4), (5, y5), (6, y6), (7, y7), (8, y8), (12, y12), (29, y29)] = [(0, y0), (1, y1), (2, y2), (3, y3), (4, y4), (5, z2), (6, y6), (7, y7), (8, y8), (12, y12), (29, y29)] := fun y0 y1 y2 y3 y4 y5 y6 y7 y8 y12 y29 z0 z1 z2 => rfl
  refine R_nil (tr _ _ _ _ _ _ _ _ _ _ _ _ _ _) ?_; clear tr
  refine then_n ?_
  refine at_seq rfl ?_
  refine rg rfl ?_
  refine Rq ?_
  refine Rq ?_
  have tr : ∀ y0 y1 y2 y3 y4 y5 y6 y7 y8 y12 y29 z0 z1 : AV, trim [(12, z1), (11, z0), (0, y0), (1, y1), (2, y2), (3, y3), (4, y4), (5, y5), (6, y6), (7, y7), (8, y8), (12, y12), (29, y29)] [(0, y0), (1, y1), (2, y2), (3, y3), (4, y4), (5, y5), (6, y6), (7, y7), (8, y8), (12, y12), (29, y29)] = [(0, y0), (1, y1), (2, y2), (3, y3), (4, y4), (5, y5), (6, y6), (7, y7), (8, y8), (12, z1), (29, y29)] := fun y0 y1 y2 y3 y4 y5 y6 y7 y8 y12 y29 z0 z1 => rfl
  refine R_nil (tr _ _ _ _ _ _ _ _ _ _ _ _ _) ?_; clear tr
  refine then_n ?_
  refine cdd (fun h1 => ?_) (fun h1 => ?_)
  · try simp only [decide_eq_true_eq, decide_eq_false_iff_not, Bool.not_eq_true', Bool.not_eq_false', beq_iff_eq, beq_eq_false_iff_ne, ne_eq] at h1
    refine at_seq rfl ?_
    refine rg rfl ?_
    refine Rq ?_
    refine Rq ?_
    refine Rq ?_
    refine Rq ?_
    have tr : ∀ y0 y1 y2 y3 y4 y5 y6 y7 y8 y12 y29 z0 z1 z2 z3 : AV, trim [(4, z3), (3, z2), (2, z1), (13, z0), (0, y0), (1, y1), (2, y2), (3, y3), (4, y4), (5, y5), (6, y6), (7, y7), (8, y8), (12, y12), (29, y29)] [(0, y0), (1, y1), (2, y2), (3, y3), (4, y4), (5, y5), (6, y6), (7, y7), (8, y8), (12, y12), (29, y29)] = [(0, y0), (1, y1), (2, z1), (3, z2), (4, z3), (5, y5), (6, y6), (7, y7), (8, y8), (12, y12), (29, y29)] := fun y0 y1 y2 y3 y4 y5 y6 y7 y8 y12 y29 z0 z1 z2 z3 => rfl
    refine R_nil (tr _ _ _ _ _ _ _ _ _ _ _ _ _ _ _) ?_; clear tr
    refine then_n ?_
    refine at_ret rfl ?_
    refine then_r ?_
    refine fpure ?_
    refine ⟨?_, rfl⟩
    rw [maxA_err (by assumption), maxB_err (by assumption)]
  · try simp only [decide_eq_true_eq, decide_eq_false_iff_not, Bool.not_eq_true', Bool.not_eq_false', beq_iff_eq, beq_eq_false_iff_ne, ne_eq] at h1
    refine at_skip rfl ?_
    refine then_n ?_
    refine at_seq rfl ?_
    refine rg rfl ?_
    have g := gok_of (by assumption : gchkS n s t E = 0)
    have hg0 : gchkS n s t E = 0 := by assumption
    obtain ⟨g1, g2, g3, g4, g5, g6, g7, g8, ge⟩ := id g
    refine Rq ?_
    refine R_q rfl (by simp (disch := first | omega | (simp only [List.length_map, List.length_append, List.length_set, List.length_cons, List.length_nil, List.length_take, List.length_drop]; omega)) only [go_sem, ↓reduceIte, Nat.reduceEqDiff, reduceCtorEq, q0, qf]; rfl) ?_
    refine Rq ?_
    refine A_makeSlice (ms27n _ _ E.length _ _ _ (by omega) (by simp (disch := first | omega | (simp only [List.length_map, List.length_append, List.length_set, List.length_cons, List.length_nil, List.length_take, List.length_drop]; omega)) only [go_sem, ↓reduceIte, Nat.reduceEqDiff, reduceCtorEq, q0]) (by simp (disch := first | omega | (simp only [List.length_map, List.length_append, List.length_set, List.length_cons, List.length_nil, List.length_take, List.length_drop]; omega)) only [go_sem, ↓reduceIte, Nat.reduceEqDiff, reduceCtorEq, q0])) ?_
    intro H2 n1
    have en1 := n1.len
    have q0 := (n1.old _ (hget_lt q0)).trans q0
    have qf := n1.new
    refine Rq ?_
    have tr : ∀ y0 y1 y2 y3 y4 y5 y6 y7 y8 y12 y29 z0 z1 z2 z3 z4 : AV, trim [(6, z4), (17, z3), (16, z2), (15, z1), (14, z0), (0, y0), (1, y1), (2, y2), (3, y3), (4, y4), (5, y5), (6, y6), (7, y7), (8, y8), (12, y12), (29, y29)] [(0, y0), (1, y1), (2, y2), (3, y3), (4, y4), (5, y5), (6, y6), (7, y7), (8, y8), (12, y12), (29, y29)] = [(0, y0), (1, y1), (2, y2), (3, y3), (4, y4), (5, y5), (6, z4), (7, y7), (8, y8), (12, y12), (29, y29)] := fun y0 y1 y2 y3 y4 y5 y6 y7 y8 y12 y29 z0 z1 z2 z3 z4 => rfl
    refine R_nil (tr _ _ _ _ _ _ _ _ _ _ _ _ _ _ _ _) ?_; clear tr
    refine then_n ?_
    refine at_block rfl ?_
    refine loop_n rfl (fun mm kv H' => ∃ f : List Int, ∃ x2 x3 x4 x7 x8 x29 : AV, (kv = [(2, x2), (3, x3), (4, x4), (7, x7), (8, x8), (29, x29)]) ∧ (mm = (644245094400 - exc E f s E.length).toNat) ∧ (hget H' H.length = some (graphC n s t E)) ∧ (hget H' H1.length = some (f.map AV.i)) ∧ (FlowOK n s t E f) ∧ (∀ a, Runs n s t E f a → Runs n s t E (List.replicate E.length 0) a)) ⟨(List.replicate E.length 0), _, _, _, _, _, _, rfl, rfl, by exact q0, by exact qf, by exact zero_ok g, by exact fun a h => h⟩ (by rfl) ?_
    rintro mm kv HA ⟨f, x2, x3, x4, x7, x8, x29, rfl, rfl, q0, qf, F, hR⟩
    have tr : ∀ y0 y1 y2 y3 y4 y5 y6 y7 y8 y12 y29 z2 z3 z4 z7 z8 z29 : AV, upd [(0, y0), (1, y1), (2, y2), (3, y3), (4, y4), (5, y5), (6, y6), (7, y7), (8, y8), (12, y12), (29, y29)] [(2, z2), (3, z3), (4, z4), (7, z7), (8, z8), (29, z29)] = [(0, y0), (1, y1), (2, z2), (3, z3), (4, z4), (5, y5), (6, y6), (7, z7), (8, z8), (12, y12), (29, z29)] := fun y0 y1 y2 y3 y4 y5 y6 y7 y8 y12 y29 z2 z3 z4 z7 z8 z29 => rfl
    refine W_to (tr _ _ _ _ _ _ _ _ _ _ _ _ _ _ _ _ _) ?_; clear tr
    refine at_block rfl ?_
    refine at_seq rfl ?_
    refine rg rfl ?_
    refine R_q rfl (by simp (disch := first | omega | (simp only [List.length_map, List.length_append, List.length_set, List.length_cons, List.length_nil, List.length_take, List.length_drop]; omega)) only [go_sem, ↓reduceIte, Nat.reduceEqDiff, reduceCtorEq, q0, qf]; rfl) ?_
    refine Rq ?_
    refine Rcall ?_
    refine ACall_eq (rreach_ok _ _ n s t E f H1.length E.length F.len.symm qf g F.len F.rng) ?_
    refine Rq ?_
    refine Rq ?_
    refine Rq ?_
    refine Rq ?_
    refine Rq ?_
    have tr : ∀ y0 y1 y2 y3 y4 y5 y6 y7 y8 y12 y29 z0 z1 z2 z3 z4 z5 z6 z7 : AV, trim [(8, z7), (7, z6), (23, z5), (22, z4), (18, z3), (21, z2), (20, z1), (19, z0), (0, y0), (1, y1), (2, y2), (3, y3), (4, y4), (5, y5), (6, y6), (7, y7), (8, y8), (12, y12), (29, y29)] [(0, y0), (1, y1), (2, y2), (3, y3), (4, y4), (5, y5), (6, y6), (7, y7), (8, y8), (12, y12), (29, y29)] = [(0, y0), (1, y1), (2, y2), (3, y3), (4, y4), (5, y5), (6, y6), (7, z6), (8, z7), (12, y12), (29, y29)] := fun y0 y1 y2 y3 y4 y5 y6 y7 y8 y12 y29 z0 z1 z2 z3 z4 z5 z6 z7 => rfl
    refine R_nil (tr _ _ _ _ _ _ _ _ _ _ _ _ _ _ _ _ _ _ _) ?_; clear tr
    refine then_n ?_
    refine at_seq rfl ?_
    refine at_seq rfl ?_
    refine rg rfl ?_
    obtain ⟨ord, so, RI, _⟩ := reach_inv f g
    have sos := so.seen
    have sow := so.way
    have lq0 := hget_lt q0
    have lqf := hget_lt qf
    refine Rq ?_
    refine Rq ?_
    refine R_q rfl (by simp (disch := first | omega | (simp only [List.length_map, List.length_append, List.length_set, List.length_cons, List.length_nil, List.length_take, List.length_drop]; omega)) only [go_sem, ↓reduceIte, Nat.reduceEqDiff, reduceCtorEq, q0, qf]; rfl) ?_
    refine Rq ?_
    refine R_q rfl (by simp (disch := first | omega | (simp only [List.length_map, List.length_append, List.length_set, List.length_cons, List.length_nil, List.length_take, List.length_drop]; omega)) only [go_sem, ↓reduceIte, Nat.reduceEqDiff, reduceCtorEq, q0, qf]; rfl) ?_
    refine Rq ?_
    have tr : ∀ y0 y1 y2 y3 y4 y5 y6 y7 y8 y12 y29 z0 z1 z2 z3 z4 z5 : AV, trim [(29, z5), (28, z4), (27, z3), (26, z2), (25, z1), (24, z0), (0, y0), (1, y1), (2, y2), (3, y3), (4, y4), (5, y5), (6, y6), (7, y7), (8, y8), (12, y12), (29, y29)] [(0, y0), (1, y1), (2, y2), (3, y3), (4, y4), (5, y5), (6, y6), (7, y7), (8, y8), (12, y12), (29, y29)] = [(0, y0), (1, y1), (2, y2), (3, y3), (4, y4), (5, y5), (6, y6), (7, y7), (8, y8), (12, y12), (29, z5)] := fun y0 y1 y2 y3 y4 y5 y6 y7 y8 y12 y29 z0 z1 z2 z3 z4 z5 => rfl
    refine R_nil (tr _ _ _ _ _ _ _ _ _ _ _ _ _ _ _ _ _) ?_; clear tr
    refine then_n ?_
    refine cdd (fun h2 => ?_) (fun h2 => ?_)
    · try simp only [decide_eq_true_eq, decide_eq_false_iff_not, Bool.not_eq_true', Bool.not_eq_false', beq_iff_eq, beq_eq_false_iff_ne, ne_eq] at h2
      refine at_seq rfl ?_
      refine rg rfl ?_
      refine Rq ?_
      refine Rq ?_
      refine Rq ?_
      refine Rq ?_
      refine Rq ?_
      have tr : ∀ y0 y1 y2 y3 y4 y5 y6 y7 y8 y12 y29 z0 z1 z2 z3 z4 : AV, trim [(4, z4), (3, z3), (2, z2), (31, z1), (30, z0), (0, y0), (1, y1), (2, y2), (3, y3), (4, y4), (5, y5), (6, y6), (7, y7), (8, y8), (12, y12), (29, y29)] [(0, y0), (1, y1), (2, y2), (3, y3), (4, y4), (5, y5), (6, y6), (7, y7), (8, y8), (12, y12), (29, y29)] = [(0, y0), (1, y1), (2, z2), (3, z3), (4, z4), (5, y5), (6, y6), (7, y7), (8, y8), (12, y12), (29, y29)] := fun y0 y1 y2 y3 y4 y5 y6 y7 y8 y12 y29 z0 z1 z2 z3 z4 => rfl
      refine R_nil (tr _ _ _ _ _ _ _ _ _ _ _ _ _ _ _ _) ?_; clear tr
      refine then_n ?_
      refine at_ret rfl ?_
      refine then_r ?_
      refine blk_r ?_
      refine then_r ?_
      refine blk_r ?_
      have hst : gt (reachS n s E f).seen t.toNat = false := by assumption
      have hru := hR f (.stop f hst)
      refine fpure ?_
      refine ⟨?_, rfl⟩
      rw [maxA_ok hg0 hru, maxB_ok hg0 hru, hg0]
      exact congrArg AV.tup (by rw [frz_ownI (l := f) (by omega) qf F.len.symm, frz_bools])
    · try simp only [decide_eq_true_eq, decide_eq_false_iff_not, Bool.not_eq_true', Bool.not_eq_false', beq_iff_eq, beq_eq_false_iff_ne, ne_eq] at h2
      refine at_skip rfl ?_
      refine then_n ?_
      refine rg rfl ?_
      have hst : gt (reachS n s E f).seen t.toNat = true := by assumption
      obtain ⟨m, T, WO⟩ := tree_sink g hst
      have AO := aug_ok g F T WO
      have AO2 := AO.2
      have x0 := exc_rng (fRng_cap g AO.1.rng) s E.length (Nat.le_refl _)
      refine R_q rfl (by simp (disch := first | omega | (simp only [List.length_map, List.length_append, List.length_set, List.length_cons, List.length_nil, List.length_take, List.length_drop]; omega)) only [go_sem, ↓reduceIte, Nat.reduceEqDiff, reduceCtorEq, q0, qf]; rfl) ?_
      refine Rq ?_
      refine Rq ?_
      refine Rcall ?_
      refine ACall_mono (augment_ok _ _ n s t E f (reachS n s E f).way H1.length E.length F.len.symm (by omega) qf g F.len F.rng sow m T WO) ?_
      rintro r HC ⟨hc1, qf2, hc2⟩
      have q0 := (hc2 _ (hget_lt q0) (by omega)).trans q0
      have qf := qf2
      have tr : ∀ y0 y1 y2 y3 y4 y5 y6 y7 y8 y12 y29 z0 z1 z2 z3 : AV, trim [(35, z3), (34, z2), (33, z1), (32, z0), (0, y0), (1, y1), (2, y2), (3, y3), (4, y4), (5, y5), (6, y6), (7, y7), (8, y8), (12, y12), (29, y29)] [(0, y0), (1, y1), (2, y2), (3, y3), (4, y4), (5, y5), (6, y6), (7, y7), (8, y8), (12, y12), (29, y29)] = [(0, y0), (1, y1), (2, y2), (3, y3), (4, y4), (5, y5), (6, y6), (7, y7), (8, y8), (12, y12), (29, y29)] := fun y0 y1 y2 y3 y4 y5 y6 y7 y8 y12 y29 z0 z1 z2 z3 => rfl
      refine R_nil (tr _ _ _ _ _ _ _ _ _ _ _ _ _ _ _) ?_; clear tr
      refine blk_n ?_
      refine then_n ?_
      exact ⟨_, _, ⟨augW n s t E f m, _, _, _, _, _, _, rfl, rfl, by exact q0, by exact qf, by exact AO.1, by exact fun a h => hR a (.step f a m hst T h)⟩, by rfl, by omega⟩

end Go.Proofs.Ytdicnojnkbmdlaa
