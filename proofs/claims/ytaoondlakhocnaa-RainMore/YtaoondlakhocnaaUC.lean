/-
  Walks of chapters 37, 39 and 40. The steps are written by program (walk.py).
-/
import Derived.Test.YtaoondlakhocnaaV
import Derived.Test.YtaoondlakhocnaaUA
set_option linter.unusedSimpArgs false
set_option linter.unusedVariables false
set_option maxHeartbeats 40000000
set_option maxRecDepth 4000
namespace Go.Proofs.Ytaoondlakhocnaa
open Go Go.Am

theorem small_len (lim : Nat) (H : Heap) (rows : Tb) (l : List Stp) :
    ACall sig lim 35 [.agg [rowsAV rows], stopsAV l] H fun r H' => (∃ b : Bool, r = .v (.bool b) ∧ (b = true → l.length ≤ 1000)) ∧ H' = H := by
  refine ACall_pure (fa := fa35) rfl rfl rfl rfl ?_
  have tr : ∀ a0 a1 : AV, env0 fa35.keep [a0, a1] = [(0, a0), (1, a1), (2, .any), (4, .any), (6, .any), (15, .any), (17, .any), (18, .any), (19, .any), (20, .any), (25, .any)] := fun a0 a1 => rfl
  refine W_to (tr _ _) ?_; clear tr
  refine at_seq rfl ?_
  refine rg rfl ?_
  refine R_box rfl (by simp (disch := first | omega | (simp only [List.length_map, List.length_append, List.length_set, List.length_cons, List.length_nil, List.length_take, List.length_drop]; omega)) only [go_sem, ↓reduceIte, Nat.reduceEqDiff, reduceCtorEq]; rfl) rfl rfl ?_
  refine Rq ?_
  have tr : ∀ y0 y1 y2 y4 y6 y15 y17 y18 y19 y20 y25 z0 z1 : AV, trim [(4, z1), (2, z0), (0, y0), (1, y1), (2, y2), (4, y4), (6, y6), (15, y15), (17, y17), (18, y18), (19, y19), (20, y20), (25, y25)] [(0, y0), (1, y1), (2, y2), (4, y4), (6, y6), (15, y15), (17, y17), (18, y18), (19, y19), (20, y20), (25, y25)] = [(0, y0), (1, y1), (2, z0), (4, z1), (6, y6), (15, y15), (17, y17), (18, y18), (19, y19), (20, y20), (25, y25)] := fun y0 y1 y2 y4 y6 y15 y17 y18 y19 y20 y25 z0 z1 => rfl
  refine R_nil (tr _ _ _ _ _ _ _ _ _ _ _ _ _) ?_; clear tr
  refine then_n ?_
  refine at_seq rfl ?_
  refine at_seq rfl ?_
  refine rg rfl ?_
  refine Rq ?_
  refine Rq ?_
  refine Rq ?_
  refine Rq ?_
  refine Rp_split (fun h1 => ?_) (fun h1 => ?_)
  · try simp only [decide_eq_true_eq, decide_eq_false_iff_not, Bool.not_eq_true', Bool.not_eq_false', beq_iff_eq, beq_eq_false_iff_ne, ne_eq] at h1
    refine Rn ?_
    refine Rn ?_
    refine Rn ?_
    refine Rn ?_
    refine Rq ?_
    have tr : ∀ y0 y1 y2 y4 y6 y15 y17 y18 y19 y20 y25 z0 z1 z2 z3 z4 z5 z6 z7 z8 : AV, trim [(15, z8), (14, z7), (13, z6), (12, z5), (11, z4), (10, z3), (9, z2), (8, z1), (7, z0), (0, y0), (1, y1), (2, y2), (4, y4), (6, y6), (15, y15), (17, y17), (18, y18), (19, y19), (20, y20), (25, y25)] [(0, y0), (1, y1), (2, y2), (4, y4), (6, y6), (15, y15), (17, y17), (18, y18), (19, y19), (20, y20), (25, y25)] = [(0, y0), (1, y1), (2, y2), (4, y4), (6, y6), (15, z8), (17, y17), (18, y18), (19, y19), (20, y20), (25, y25)] := fun y0 y1 y2 y4 y6 y15 y17 y18 y19 y20 y25 z0 z1 z2 z3 z4 z5 z6 z7 z8 => rfl
    refine R_nil (tr _ _ _ _ _ _ _ _ _ _ _ _ _ _ _ _ _ _ _ _) ?_; clear tr
    refine then_n ?_
    refine cdt ?_
    refine at_seq rfl ?_
    refine rg rfl ?_
    refine Rq ?_
    have tr : ∀ y0 y1 y2 y4 y6 y15 y17 y18 y19 y20 y25 z0 : AV, trim [(4, z0), (0, y0), (1, y1), (2, y2), (4, y4), (6, y6), (15, y15), (17, y17), (18, y18), (19, y19), (20, y20), (25, y25)] [(0, y0), (1, y1), (2, y2), (4, y4), (6, y6), (15, y15), (17, y17), (18, y18), (19, y19), (20, y20), (25, y25)] = [(0, y0), (1, y1), (2, y2), (4, z0), (6, y6), (15, y15), (17, y17), (18, y18), (19, y19), (20, y20), (25, y25)] := fun y0 y1 y2 y4 y6 y15 y17 y18 y19 y20 y25 z0 => rfl
    refine R_nil (tr _ _ _ _ _ _ _ _ _ _ _ _) ?_; clear tr
    refine then_n ?_
    refine at_ret rfl ?_
    refine then_r ?_
    refine fpure ?_
    exact ⟨⟨_, rfl, fun hh => by first | omega | (cases hh; done) | (simp only [decide_eq_true_eq] at hh; omega)⟩, rfl⟩
  · try simp only [decide_eq_true_eq, decide_eq_false_iff_not, Bool.not_eq_true', Bool.not_eq_false', beq_iff_eq, beq_eq_false_iff_ne, ne_eq] at h1
    refine Ry ?_
    refine Rq ?_
    refine Ry ?_
    refine Rq ?_
    refine Ry ?_
    refine Rq ?_
    refine Ry ?_
    refine Rq ?_
    refine Rq ?_
    have tr : ∀ y0 y1 y2 y4 y6 y15 y17 y18 y19 y20 y25 z0 z1 z2 z3 z4 z5 z6 z7 z8 : AV, trim [(15, z8), (14, z7), (13, z6), (12, z5), (11, z4), (10, z3), (9, z2), (8, z1), (7, z0), (0, y0), (1, y1), (2, y2), (4, y4), (6, y6), (15, y15), (17, y17), (18, y18), (19, y19), (20, y20), (25, y25)] [(0, y0), (1, y1), (2, y2), (4, y4), (6, y6), (15, y15), (17, y17), (18, y18), (19, y19), (20, y20), (25, y25)] = [(0, y0), (1, y1), (2, y2), (4, y4), (6, y6), (15, z8), (17, y17), (18, y18), (19, y19), (20, y20), (25, y25)] := fun y0 y1 y2 y4 y6 y15 y17 y18 y19 y20 y25 z0 z1 z2 z3 z4 z5 z6 z7 z8 => rfl
    refine R_nil (tr _ _ _ _ _ _ _ _ _ _ _ _ _ _ _ _ _ _ _ _) ?_; clear tr
    refine then_n ?_
    refine cdd (fun h2 => ?_) (fun h2 => ?_)
    · try simp only [decide_eq_true_eq, decide_eq_false_iff_not, Bool.not_eq_true', Bool.not_eq_false', beq_iff_eq, beq_eq_false_iff_ne, ne_eq] at h2
      refine at_seq rfl ?_
      refine rg rfl ?_
      refine Rq ?_
      have tr : ∀ y0 y1 y2 y4 y6 y15 y17 y18 y19 y20 y25 z0 : AV, trim [(4, z0), (0, y0), (1, y1), (2, y2), (4, y4), (6, y6), (15, y15), (17, y17), (18, y18), (19, y19), (20, y20), (25, y25)] [(0, y0), (1, y1), (2, y2), (4, y4), (6, y6), (15, y15), (17, y17), (18, y18), (19, y19), (20, y20), (25, y25)] = [(0, y0), (1, y1), (2, y2), (4, z0), (6, y6), (15, y15), (17, y17), (18, y18), (19, y19), (20, y20), (25, y25)] := fun y0 y1 y2 y4 y6 y15 y17 y18 y19 y20 y25 z0 => rfl
      refine R_nil (tr _ _ _ _ _ _ _ _ _ _ _ _) ?_; clear tr
      refine then_n ?_
      refine at_ret rfl ?_
      refine then_r ?_
      refine fpure ?_
      exact ⟨⟨_, rfl, fun hh => by first | omega | (cases hh; done) | (simp only [decide_eq_true_eq] at hh; omega)⟩, rfl⟩
    · try simp only [decide_eq_true_eq, decide_eq_false_iff_not, Bool.not_eq_true', Bool.not_eq_false', beq_iff_eq, beq_eq_false_iff_ne, ne_eq] at h2
      refine at_skip rfl ?_
      refine then_n ?_
      refine at_seq rfl ?_
      refine at_seq rfl ?_
      refine rg rfl ?_
      refine Rq ?_
      refine Rq ?_
      refine Rq ?_
      refine Rq ?_
      have tr : ∀ y0 y1 y2 y4 y6 y15 y17 y18 y19 y20 y25 z0 z1 z2 z3 : AV, trim [(19, z3), (18, z2), (17, z1), (16, z0), (0, y0), (1, y1), (2, y2), (4, y4), (6, y6), (15, y15), (17, y17), (18, y18), (19, y19), (20, y20), (25, y25)] [(0, y0), (1, y1), (2, y2), (4, y4), (6, y6), (15, y15), (17, y17), (18, y18), (19, y19), (20, y20), (25, y25)] = [(0, y0), (1, y1), (2, y2), (4, y4), (6, y6), (15, y15), (17, z1), (18, z2), (19, z3), (20, y20), (25, y25)] := fun y0 y1 y2 y4 y6 y15 y17 y18 y19 y20 y25 z0 z1 z2 z3 => rfl
      refine R_nil (tr _ _ _ _ _ _ _ _ _ _ _ _ _ _ _) ?_; clear tr
      refine then_n ?_
      refine at_block rfl ?_
      refine loop_n rfl (fun mm kv H' => ∃ u : Nat, ∃ x4 x6 x20 x25 : AV, (kv = [(4, x4), (6, x6), (19, AV.i u), (20, x20), (25, x25)]) ∧ (mm = rows.length - u) ∧ (H' = H ++ [some [rowsAV rows]]) ∧ (u ≤ rows.length)) ⟨0, _, _, _, _, rfl, rfl, rfl, by omega⟩ (by rfl) ?_
      rintro mm kv H' ⟨u, x4, x6, x20, x25, rfl, rfl, rfl, hu⟩
      have tr : ∀ y0 y1 y2 y4 y6 y15 y17 y18 y19 y20 y25 z4 z6 z19 z20 z25 : AV, upd [(0, y0), (1, y1), (2, y2), (4, y4), (6, y6), (15, y15), (17, y17), (18, y18), (19, y19), (20, y20), (25, y25)] [(4, z4), (6, z6), (19, z19), (20, z20), (25, z25)] = [(0, y0), (1, y1), (2, y2), (4, z4), (6, z6), (15, y15), (17, y17), (18, y18), (19, z19), (20, z20), (25, z25)] := fun y0 y1 y2 y4 y6 y15 y17 y18 y19 y20 y25 z4 z6 z19 z20 z25 => rfl
      refine W_to (tr _ _ _ _ _ _ _ _ _ _ _ _ _ _ _ _) ?_; clear tr
      refine at_seq rfl ?_
      refine rg rfl ?_
      refine Rq ?_
      have tr : ∀ y0 y1 y2 y4 y6 y15 y17 y18 y19 y20 y25 z0 : AV, trim [(20, z0), (0, y0), (1, y1), (2, y2), (4, y4), (6, y6), (15, y15), (17, y17), (18, y18), (19, y19), (20, y20), (25, y25)] [(0, y0), (1, y1), (2, y2), (4, y4), (6, y6), (15, y15), (17, y17), (18, y18), (19, y19), (20, y20), (25, y25)] = [(0, y0), (1, y1), (2, y2), (4, y4), (6, y6), (15, y15), (17, y17), (18, y18), (19, y19), (20, z0), (25, y25)] := fun y0 y1 y2 y4 y6 y15 y17 y18 y19 y20 y25 z0 => rfl
      refine R_nil (tr _ _ _ _ _ _ _ _ _ _ _ _) ?_; clear tr
      refine then_n ?_
      refine at_seq rfl ?_
      refine cdd (fun h3 => ?_) (fun h3 => ?_)
      · try simp only [decide_eq_true_eq, decide_eq_false_iff_not, Bool.not_eq_true', Bool.not_eq_false', beq_iff_eq, beq_eq_false_iff_ne, ne_eq] at h3
        refine at_skip rfl ?_
        refine then_n ?_
        refine at_seq rfl ?_
        refine at_block rfl ?_
        refine at_seq rfl ?_
        refine rg rfl ?_
        refine Rq ?_
        refine Rq ?_
        refine Rq ?_
        have tr : ∀ y0 y1 y2 y4 y6 y15 y17 y18 y19 y20 y25 z0 z1 z2 : AV, trim [(6, z2), (22, z1), (21, z0), (0, y0), (1, y1), (2, y2), (4, y4), (6, y6), (15, y15), (17, y17), (18, y18), (19, y19), (20, y20), (25, y25)] [(0, y0), (1, y1), (2, y2), (4, y4), (6, y6), (15, y15), (17, y17), (18, y18), (19, y19), (20, y20), (25, y25)] = [(0, y0), (1, y1), (2, y2), (4, y4), (6, z2), (15, y15), (17, y17), (18, y18), (19, y19), (20, y20), (25, y25)] := fun y0 y1 y2 y4 y6 y15 y17 y18 y19 y20 y25 z0 z1 z2 => rfl
        refine R_nil (tr _ _ _ _ _ _ _ _ _ _ _ _ _ _) ?_; clear tr
        refine then_n ?_
        refine at_seq rfl ?_
        refine rg rfl ?_
        refine Rq ?_
        refine Rq ?_
        refine Rq ?_
        have tr : ∀ y0 y1 y2 y4 y6 y15 y17 y18 y19 y20 y25 z0 z1 z2 : AV, trim [(25, z2), (24, z1), (23, z0), (0, y0), (1, y1), (2, y2), (4, y4), (6, y6), (15, y15), (17, y17), (18, y18), (19, y19), (20, y20), (25, y25)] [(0, y0), (1, y1), (2, y2), (4, y4), (6, y6), (15, y15), (17, y17), (18, y18), (19, y19), (20, y20), (25, y25)] = [(0, y0), (1, y1), (2, y2), (4, y4), (6, y6), (15, y15), (17, y17), (18, y18), (19, y19), (20, y20), (25, z2)] := fun y0 y1 y2 y4 y6 y15 y17 y18 y19 y20 y25 z0 z1 z2 => rfl
        refine R_nil (tr _ _ _ _ _ _ _ _ _ _ _ _ _ _) ?_; clear tr
        refine then_n ?_
        refine cdd (fun h4 => ?_) (fun h4 => ?_)
        · try simp only [decide_eq_true_eq, decide_eq_false_iff_not, Bool.not_eq_true', Bool.not_eq_false', beq_iff_eq, beq_eq_false_iff_ne, ne_eq] at h4
          refine at_seq rfl ?_
          refine rg rfl ?_
          refine Rq ?_
          have tr : ∀ y0 y1 y2 y4 y6 y15 y17 y18 y19 y20 y25 z0 : AV, trim [(4, z0), (0, y0), (1, y1), (2, y2), (4, y4), (6, y6), (15, y15), (17, y17), (18, y18), (19, y19), (20, y20), (25, y25)] [(0, y0), (1, y1), (2, y2), (4, y4), (6, y6), (15, y15), (17, y17), (18, y18), (19, y19), (20, y20), (25, y25)] = [(0, y0), (1, y1), (2, y2), (4, z0), (6, y6), (15, y15), (17, y17), (18, y18), (19, y19), (20, y20), (25, y25)] := fun y0 y1 y2 y4 y6 y15 y17 y18 y19 y20 y25 z0 => rfl
          refine R_nil (tr _ _ _ _ _ _ _ _ _ _ _ _) ?_; clear tr
          refine then_n ?_
          refine at_ret rfl ?_
          refine blk_r ?_
          refine then_r ?_
          refine then_r ?_
          refine blk_r ?_
          refine then_r ?_
          refine fpure ?_
          exact ⟨⟨_, rfl, fun hh => by first | omega | (cases hh; done) | (simp only [decide_eq_true_eq] at hh; omega)⟩, rfl⟩
        · try simp only [decide_eq_true_eq, decide_eq_false_iff_not, Bool.not_eq_true', Bool.not_eq_false', beq_iff_eq, beq_eq_false_iff_ne, ne_eq] at h4
          refine at_skip rfl ?_
          refine blk_n ?_
          refine then_n ?_
          refine rg rfl ?_
          refine Rq ?_
          refine Rq ?_
          have tr : ∀ y0 y1 y2 y4 y6 y15 y17 y18 y19 y20 y25 z0 z1 : AV, trim [(19, z1), (26, z0), (0, y0), (1, y1), (2, y2), (4, y4), (6, y6), (15, y15), (17, y17), (18, y18), (19, y19), (20, y20), (25, y25)] [(0, y0), (1, y1), (2, y2), (4, y4), (6, y6), (15, y15), (17, y17), (18, y18), (19, y19), (20, y20), (25, y25)] = [(0, y0), (1, y1), (2, y2), (4, y4), (6, y6), (15, y15), (17, y17), (18, y18), (19, z1), (20, y20), (25, y25)] := fun y0 y1 y2 y4 y6 y15 y17 y18 y19 y20 y25 z0 z1 => rfl
          refine R_nil (tr _ _ _ _ _ _ _ _ _ _ _ _ _) ?_; clear tr
          refine then_n ?_
          exact ⟨_, _, ⟨u + 1, _, _, _, _, rfl, rfl, rfl, by omega⟩, by rfl, by omega⟩
      · try simp only [decide_eq_true_eq, decide_eq_false_iff_not, Bool.not_eq_true', Bool.not_eq_false', beq_iff_eq, beq_eq_false_iff_ne, ne_eq] at h3
        refine at_exit rfl ?_
        refine then_x ?_
        refine then_x ?_
        refine blk_x ?_
        refine then_n ?_
        refine at_seq rfl ?_
        refine rg rfl ?_
        refine Rq ?_
        have tr : ∀ y0 y1 y2 y4 y6 y15 y17 y18 y19 y20 y25 z0 : AV, trim [(4, z0), (0, y0), (1, y1), (2, y2), (4, y4), (6, y6), (15, y15), (17, y17), (18, y18), (19, y19), (20, y20), (25, y25)] [(0, y0), (1, y1), (2, y2), (4, y4), (6, y6), (15, y15), (17, y17), (18, y18), (19, y19), (20, y20), (25, y25)] = [(0, y0), (1, y1), (2, y2), (4, z0), (6, y6), (15, y15), (17, y17), (18, y18), (19, y19), (20, y20), (25, y25)] := fun y0 y1 y2 y4 y6 y15 y17 y18 y19 y20 y25 z0 => rfl
        refine R_nil (tr _ _ _ _ _ _ _ _ _ _ _ _) ?_; clear tr
        refine then_n ?_
        refine at_ret rfl ?_
        refine fpure ?_
        exact ⟨⟨_, rfl, fun hh => by first | omega | (cases hh; done) | (simp only [decide_eq_true_eq] at hh; omega)⟩, rfl⟩

theorem rmore_ok (rows : Tb) (per balls : Int) (l : List Stp) (s : Stp) : ACall sig 0 13 [.agg [rowsAV rows, AV.i per, AV.i balls, stopsAV l], .agg (stC s)] [] fun r _ => r = .v (.bool true) := by
  refine ACall_pure (fa := fa13) rfl rfl rfl rfl ?_
  have tr : ∀ a0 a1 : AV, env0 fa13.keep [a0, a1] = [(0, a0), (1, a1), (2, .any), (3, .any), (4, .any), (5, .any), (6, .any), (7, .any), (8, .any), (10, .any), (16, .any)] := fun a0 a1 => rfl
  refine W_to (tr _ _) ?_; clear tr
  refine at_seq rfl ?_
  refine rg rfl ?_
  refine R_box rfl (by simp (disch := first | omega | (simp only [List.length_map, List.length_append, List.length_set, List.length_cons, List.length_nil, List.length_take, List.length_drop]; omega)) only [go_sem, ↓reduceIte, Nat.reduceEqDiff, reduceCtorEq]; rfl) rfl rfl ?_
  refine R_box rfl (by simp (disch := first | omega | (simp only [List.length_map, List.length_append, List.length_set, List.length_cons, List.length_nil, List.length_take, List.length_drop]; omega)) only [go_sem, ↓reduceIte, Nat.reduceEqDiff, reduceCtorEq]; rfl) rfl rfl ?_
  refine Rq ?_
  have tr : ∀ y0 y1 y2 y3 y4 y5 y6 y7 y8 y10 y16 z0 z1 z2 : AV, trim [(4, z2), (3, z1), (2, z0), (0, y0), (1, y1), (2, y2), (3, y3), (4, y4), (5, y5), (6, y6), (7, y7), (8, y8), (10, y10), (16, y16)] [(0, y0), (1, y1), (2, y2), (3, y3), (4, y4), (5, y5), (6, y6), (7, y7), (8, y8), (10, y10), (16, y16)] = [(0, y0), (1, y1), (2, z0), (3, z1), (4, z2), (5, y5), (6, y6), (7, y7), (8, y8), (10, y10), (16, y16)] := fun y0 y1 y2 y3 y4 y5 y6 y7 y8 y10 y16 z0 z1 z2 => rfl
  refine R_nil (tr _ _ _ _ _ _ _ _ _ _ _ _ _ _) ?_; clear tr
  refine then_n ?_
  refine at_seq rfl ?_
  refine at_seq rfl ?_
  refine rg rfl ?_
  refine Rcall ?_
  refine ACall_eval 300 (awake39 _ _) ?_
  refine Rq ?_
  have tr : ∀ y0 y1 y2 y3 y4 y5 y6 y7 y8 y10 y16 z0 z1 : AV, trim [(10, z1), (9, z0), (0, y0), (1, y1), (2, y2), (3, y3), (4, y4), (5, y5), (6, y6), (7, y7), (8, y8), (10, y10), (16, y16)] [(0, y0), (1, y1), (2, y2), (3, y3), (4, y4), (5, y5), (6, y6), (7, y7), (8, y8), (10, y10), (16, y16)] = [(0, y0), (1, y1), (2, y2), (3, y3), (4, y4), (5, y5), (6, y6), (7, y7), (8, y8), (10, z1), (16, y16)] := fun y0 y1 y2 y3 y4 y5 y6 y7 y8 y10 y16 z0 z1 => rfl
  refine R_nil (tr _ _ _ _ _ _ _ _ _ _ _ _ _) ?_; clear tr
  refine then_n ?_
  refine cdf ?_
  refine at_skip rfl ?_
  refine then_n ?_
  refine at_seq rfl ?_
  refine at_seq rfl ?_
  refine rg rfl ?_
  refine Rq ?_
  refine Rq ?_
  refine Rq ?_
  refine Rq ?_
  refine Rcall ?_
  refine ACall_mono (small_len _ _ rows l) ?_
  rintro r H6 ⟨⟨b, rfl, hbl⟩, rfl⟩
  refine Rq ?_
  have tr : ∀ y0 y1 y2 y3 y4 y5 y6 y7 y8 y10 y16 z0 z1 z2 z3 z4 z5 : AV, trim [(16, z5), (15, z4), (14, z3), (13, z2), (12, z1), (11, z0), (0, y0), (1, y1), (2, y2), (3, y3), (4, y4), (5, y5), (6, y6), (7, y7), (8, y8), (10, y10), (16, y16)] [(0, y0), (1, y1), (2, y2), (3, y3), (4, y4), (5, y5), (6, y6), (7, y7), (8, y8), (10, y10), (16, y16)] = [(0, y0), (1, y1), (2, y2), (3, y3), (4, y4), (5, y5), (6, y6), (7, y7), (8, y8), (10, y10), (16, z5)] := fun y0 y1 y2 y3 y4 y5 y6 y7 y8 y10 y16 z0 z1 z2 z3 z4 z5 => rfl
  refine R_nil (tr _ _ _ _ _ _ _ _ _ _ _ _ _ _ _ _ _) ?_; clear tr
  refine then_n ?_
  refine cdd (fun h1 => ?_) (fun h1 => ?_)
  · try simp only [decide_eq_true_eq, decide_eq_false_iff_not, Bool.not_eq_true', Bool.not_eq_false', beq_iff_eq, beq_eq_false_iff_ne, ne_eq] at h1
    refine at_seq rfl ?_
    refine rg rfl ?_
    refine Rq ?_
    have tr : ∀ y0 y1 y2 y3 y4 y5 y6 y7 y8 y10 y16 z0 : AV, trim [(4, z0), (0, y0), (1, y1), (2, y2), (3, y3), (4, y4), (5, y5), (6, y6), (7, y7), (8, y8), (10, y10), (16, y16)] [(0, y0), (1, y1), (2, y2), (3, y3), (4, y4), (5, y5), (6, y6), (7, y7), (8, y8), (10, y10), (16, y16)] = [(0, y0), (1, y1), (2, y2), (3, y3), (4, z0), (5, y5), (6, y6), (7, y7), (8, y8), (10, y10), (16, y16)] := fun y0 y1 y2 y3 y4 y5 y6 y7 y8 y10 y16 z0 => rfl
    refine R_nil (tr _ _ _ _ _ _ _ _ _ _ _ _) ?_; clear tr
    refine then_n ?_
    refine at_ret rfl ?_
    refine then_r ?_
    refine fpure ?_
    first | rfl | rw [decide_eq_true (left_more (by assumption) (by assumption))] | simp
  · try simp only [decide_eq_true_eq, decide_eq_false_iff_not, Bool.not_eq_true', Bool.not_eq_false', beq_iff_eq, beq_eq_false_iff_ne, ne_eq] at h1
    refine at_skip rfl ?_
    refine then_n ?_
    refine at_seq rfl ?_
    refine rg rfl ?_
    have hl20 : l.length ≤ 1000 := hbl (by assumption)
    refine Rq ?_
    refine Rq ?_
    refine Rq ?_
    refine Rq ?_
    refine Rq ?_
    refine Rq ?_
    refine Rq ?_
    refine Rq ?_
    refine Rcall ?_
    refine ACall_eq (left_ok _ _ rows per balls l) ?_
    refine Rq ?_
    refine Rq ?_
    refine Rq ?_
    refine Rq ?_
    refine Rq ?_
    have tr : ∀ y0 y1 y2 y3 y4 y5 y6 y7 y8 y10 y16 z0 z1 z2 z3 z4 z5 z6 z7 z8 z9 z10 z11 z12 z13 : AV, trim [(6, z13), (5, z12), (28, z11), (27, z10), (17, z9), (26, z8), (25, z7), (24, z6), (23, z5), (22, z4), (21, z3), (20, z2), (19, z1), (18, z0), (0, y0), (1, y1), (2, y2), (3, y3), (4, y4), (5, y5), (6, y6), (7, y7), (8, y8), (10, y10), (16, y16)] [(0, y0), (1, y1), (2, y2), (3, y3), (4, y4), (5, y5), (6, y6), (7, y7), (8, y8), (10, y10), (16, y16)] = [(0, y0), (1, y1), (2, y2), (3, y3), (4, y4), (5, z12), (6, z13), (7, y7), (8, y8), (10, y10), (16, y16)] := fun y0 y1 y2 y3 y4 y5 y6 y7 y8 y10 y16 z0 z1 z2 z3 z4 z5 z6 z7 z8 z9 z10 z11 z12 z13 => rfl
    refine R_nil (tr _ _ _ _ _ _ _ _ _ _ _ _ _ _ _ _ _ _ _ _ _ _ _ _ _) ?_; clear tr
    refine then_n ?_
    refine at_seq rfl ?_
    refine rls2 rfl rfl ?_
    refine Lq ?_
    refine Lq ?_
    refine Lq ?_
    refine Lq ?_
    refine Lq ?_
    refine Lq ?_
    refine Lq ?_
    refine Lq ?_
    refine Lq ?_
    refine L_nil ?_
    refine R_buildSlice (r := .own 3 2 0 0) (H' := [some [rowsAV rows, AV.i per, AV.i balls, stopsAV l], some (stC s), some []]) (by exact bs25e _ _ _) ?_
    refine R_append (r := .own 3 3 0 l.length) (H' := [some [rowsAV rows, AV.i per, AV.i balls, stopsAV l], some (stC s), none, some (flatS l)]) (by simp (disch := first | omega | (simp only [List.length_map, List.length_append, List.length_set, List.length_cons, List.length_nil, List.length_take, List.length_drop]; omega)) only [go_sem, ↓reduceIte, Nat.reduceEqDiff, reduceCtorEq]; exact app25e (l := l) (b := 2) rfl (by simp) (by omega)) ?_
    refine R_buildSlice (r := .own 3 4 0 1) (H' := [some [rowsAV rows, AV.i per, AV.i balls, stopsAV l], some (stC s), none, some (flatS l), some (stC s)]) (by exact bs25 _ _ _ _ s (by simp (disch := first | omega | (simp only [List.length_map, List.length_append, List.length_set, List.length_cons, List.length_nil, List.length_take, List.length_drop]; omega)) only [go_sem, ↓reduceIte, Nat.reduceEqDiff, reduceCtorEq] <;> rfl)) ?_
    refine R_append (r := .own 3 5 0 (l.length + 1)) (H' := [some [rowsAV rows, AV.i per, AV.i balls, stopsAV l], some (stC s), none, none, some (stC s), some (flatS (l ++ [s]))]) (by simp (disch := first | omega | (simp only [List.length_map, List.length_append, List.length_set, List.length_cons, List.length_nil, List.length_take, List.length_drop]; omega)) only [go_sem, ↓reduceIte, Nat.reduceEqDiff, reduceCtorEq]; exact app25s (l := l) (s := s) (b := 3) (c := 4) rfl rfl (by simp) (by omega)) ?_
    refine Rcall ?_
    refine ACall_eq (left_fz _ _ rows per balls (l ++ [s]) _ (by first | exact frz_own3 rfl (by simp))) ?_
    refine Rq ?_
    refine Rq ?_
    refine Rq ?_
    refine Rq ?_
    refine R_end ⟨?_, ?_⟩
    · skip
      refine ⟨?_, ?_⟩
      · skip
        refine R_buildSlice (r := .own 3 2 0 0) (H' := [some [rowsAV rows, AV.i per, AV.i balls, stopsAV l], some (stC s), some []]) (by exact bs25e _ _ _) ?_
        refine R_append (r := .own 3 3 0 l.length) (H' := [some [rowsAV rows, AV.i per, AV.i balls, stopsAV l], some (stC s), none, some (flatS l)]) (by simp (disch := first | omega | (simp only [List.length_map, List.length_append, List.length_set, List.length_cons, List.length_nil, List.length_take, List.length_drop]; omega)) only [go_sem, ↓reduceIte, Nat.reduceEqDiff, reduceCtorEq]; exact app25e (l := l) (b := 2) rfl (by simp) (by omega)) ?_
        refine R_buildSlice (r := .own 3 4 0 1) (H' := [some [rowsAV rows, AV.i per, AV.i balls, stopsAV l], some (stC s), none, some (flatS l), some (stC s)]) (by exact bs25 _ _ _ _ s (by simp (disch := first | omega | (simp only [List.length_map, List.length_append, List.length_set, List.length_cons, List.length_nil, List.length_take, List.length_drop]; omega)) only [go_sem, ↓reduceIte, Nat.reduceEqDiff, reduceCtorEq] <;> rfl)) ?_
        refine R_append (r := .own 3 5 0 (l.length + 1)) (H' := [some [rowsAV rows, AV.i per, AV.i balls, stopsAV l], some (stC s), none, none, some (stC s), some (flatS (l ++ [s]))]) (by simp (disch := first | omega | (simp only [List.length_map, List.length_append, List.length_set, List.length_cons, List.length_nil, List.length_take, List.length_drop]; omega)) only [go_sem, ↓reduceIte, Nat.reduceEqDiff, reduceCtorEq]; exact app25s (l := l) (s := s) (b := 3) (c := 4) rfl rfl (by simp) (by omega)) ?_
        refine Rcall ?_
        refine ACall_eq (left_fz _ _ rows per balls (l ++ [s]) _ (by first | exact frz_own3 rfl (by simp))) ?_
        refine Rq ?_
        refine Rq ?_
        refine Rq ?_
        refine Rq ?_
        refine R_end ?_
        refine ⟨[0, 1, 2, 3], by simp, by simp, by simp, by decide, by decide, by decide, ?_, ?_⟩
        · intro t ht
          simp only [List.mem_cons, List.not_mem_nil, or_false] at ht
          rcases ht with rfl | rfl <;> simp only [get_cons, put_some, put_none, ↓reduceIte, Nat.reduceEqDiff, ren]
        · intro k hk
          simp only [List.mem_cons, List.not_mem_nil, or_false] at hk
          rcases hk with rfl | rfl | rfl | rfl <;> first | rfl | exact congrArg some (ren_flat _ _).symm
      refine ⟨?_, ?_⟩
      · skip
        refine R_buildSlice (r := .own 3 2 0 0) (H' := [some [rowsAV rows, AV.i per, AV.i balls, stopsAV l], some (stC s), some []]) (by exact bs25e _ _ _) ?_
        refine R_append (r := .own 3 3 0 l.length) (H' := [some [rowsAV rows, AV.i per, AV.i balls, stopsAV l], some (stC s), none, some (flatS l)]) (by simp (disch := first | omega | (simp only [List.length_map, List.length_append, List.length_set, List.length_cons, List.length_nil, List.length_take, List.length_drop]; omega)) only [go_sem, ↓reduceIte, Nat.reduceEqDiff, reduceCtorEq]; exact app25e (l := l) (b := 2) rfl (by simp) (by omega)) ?_
        refine R_buildSlice (r := .own 3 4 0 1) (H' := [some [rowsAV rows, AV.i per, AV.i balls, stopsAV l], some (stC s), none, some (flatS l), some (stC s)]) (by exact bs25 _ _ _ _ s (by simp (disch := first | omega | (simp only [List.length_map, List.length_append, List.length_set, List.length_cons, List.length_nil, List.length_take, List.length_drop]; omega)) only [go_sem, ↓reduceIte, Nat.reduceEqDiff, reduceCtorEq] <;> rfl)) ?_
        refine R_append (r := .own 3 5 0 (l.length + 1)) (H' := [some [rowsAV rows, AV.i per, AV.i balls, stopsAV l], some (stC s), none, none, some (stC s), some (flatS (l ++ [s]))]) (by simp (disch := first | omega | (simp only [List.length_map, List.length_append, List.length_set, List.length_cons, List.length_nil, List.length_take, List.length_drop]; omega)) only [go_sem, ↓reduceIte, Nat.reduceEqDiff, reduceCtorEq]; exact app25s (l := l) (s := s) (b := 3) (c := 4) rfl rfl (by simp) (by omega)) ?_
        refine Rcall ?_
        refine ACall_eq (left_fz _ _ rows per balls (l ++ [s]) _ (by first | exact frz_own3 rfl (by simp))) ?_
        refine Rq ?_
        refine Rq ?_
        refine Rq ?_
        refine Rq ?_
        refine R_end ?_
        refine ⟨[0, 1, 2, 3], by simp, by simp, by simp, by decide, by decide, by decide, ?_, ?_⟩
        · intro t ht
          simp only [List.mem_cons, List.not_mem_nil, or_false] at ht
          rcases ht with rfl | rfl <;> simp only [get_cons, put_some, put_none, ↓reduceIte, Nat.reduceEqDiff, ren]
        · intro k hk
          simp only [List.mem_cons, List.not_mem_nil, or_false] at hk
          rcases hk with rfl | rfl | rfl | rfl <;> first | rfl | exact congrArg some (ren_flat _ _).symm
      refine ⟨?_, ?_⟩
      · skip
        refine R_buildSlice (r := .own 3 2 0 0) (H' := [some [rowsAV rows, AV.i per, AV.i balls, stopsAV l], some (stC s), some []]) (by exact bs25e _ _ _) ?_
        refine R_buildSlice (r := .own 3 3 0 1) (H' := [some [rowsAV rows, AV.i per, AV.i balls, stopsAV l], some (stC s), some [], some (stC s)]) (by exact bs25 _ _ _ _ s (by simp (disch := first | omega | (simp only [List.length_map, List.length_append, List.length_set, List.length_cons, List.length_nil, List.length_take, List.length_drop]; omega)) only [go_sem, ↓reduceIte, Nat.reduceEqDiff, reduceCtorEq] <;> rfl)) ?_
        refine R_append (r := .own 3 4 0 l.length) (H' := [some [rowsAV rows, AV.i per, AV.i balls, stopsAV l], some (stC s), none, some (stC s), some (flatS l)]) (by simp (disch := first | omega | (simp only [List.length_map, List.length_append, List.length_set, List.length_cons, List.length_nil, List.length_take, List.length_drop]; omega)) only [go_sem, ↓reduceIte, Nat.reduceEqDiff, reduceCtorEq]; exact app25e (l := l) (b := 2) rfl (by simp) (by omega)) ?_
        refine R_append (r := .own 3 5 0 (l.length + 1)) (H' := [some [rowsAV rows, AV.i per, AV.i balls, stopsAV l], some (stC s), none, some (stC s), none, some (flatS (l ++ [s]))]) (by simp (disch := first | omega | (simp only [List.length_map, List.length_append, List.length_set, List.length_cons, List.length_nil, List.length_take, List.length_drop]; omega)) only [go_sem, ↓reduceIte, Nat.reduceEqDiff, reduceCtorEq]; exact app25s (l := l) (s := s) (b := 4) (c := 3) rfl rfl (by simp) (by omega)) ?_
        refine Rcall ?_
        refine ACall_eq (left_fz _ _ rows per balls (l ++ [s]) _ (by first | exact frz_own3 rfl (by simp))) ?_
        refine Rq ?_
        refine Rq ?_
        refine Rq ?_
        refine Rq ?_
        refine R_end ?_
        refine ⟨[0, 2, 1, 3], by simp, by simp, by simp, by decide, by decide, by decide, ?_, ?_⟩
        · intro t ht
          simp only [List.mem_cons, List.not_mem_nil, or_false] at ht
          rcases ht with rfl | rfl <;> simp only [get_cons, put_some, put_none, ↓reduceIte, Nat.reduceEqDiff, ren]
        · intro k hk
          simp only [List.mem_cons, List.not_mem_nil, or_false] at hk
          rcases hk with rfl | rfl | rfl | rfl <;> first | rfl | exact congrArg some (ren_flat _ _).symm
      refine ⟨?_, ?_⟩
      · skip
        refine R_buildSlice (r := .own 3 2 0 0) (H' := [some [rowsAV rows, AV.i per, AV.i balls, stopsAV l], some (stC s), some []]) (by exact bs25e _ _ _) ?_
        refine R_buildSlice (r := .own 3 3 0 1) (H' := [some [rowsAV rows, AV.i per, AV.i balls, stopsAV l], some (stC s), some [], some (stC s)]) (by exact bs25 _ _ _ _ s (by simp (disch := first | omega | (simp only [List.length_map, List.length_append, List.length_set, List.length_cons, List.length_nil, List.length_take, List.length_drop]; omega)) only [go_sem, ↓reduceIte, Nat.reduceEqDiff, reduceCtorEq] <;> rfl)) ?_
        refine R_append (r := .own 3 4 0 l.length) (H' := [some [rowsAV rows, AV.i per, AV.i balls, stopsAV l], some (stC s), none, some (stC s), some (flatS l)]) (by simp (disch := first | omega | (simp only [List.length_map, List.length_append, List.length_set, List.length_cons, List.length_nil, List.length_take, List.length_drop]; omega)) only [go_sem, ↓reduceIte, Nat.reduceEqDiff, reduceCtorEq]; exact app25e (l := l) (b := 2) rfl (by simp) (by omega)) ?_
        refine R_append (r := .own 3 5 0 (l.length + 1)) (H' := [some [rowsAV rows, AV.i per, AV.i balls, stopsAV l], some (stC s), none, some (stC s), none, some (flatS (l ++ [s]))]) (by simp (disch := first | omega | (simp only [List.length_map, List.length_append, List.length_set, List.length_cons, List.length_nil, List.length_take, List.length_drop]; omega)) only [go_sem, ↓reduceIte, Nat.reduceEqDiff, reduceCtorEq]; exact app25s (l := l) (s := s) (b := 4) (c := 3) rfl rfl (by simp) (by omega)) ?_
        refine Rcall ?_
        refine ACall_eq (left_fz _ _ rows per balls (l ++ [s]) _ (by first | exact frz_own3 rfl (by simp))) ?_
        refine Rq ?_
        refine Rq ?_
        refine Rq ?_
        refine Rq ?_
        refine R_end ?_
        refine ⟨[0, 2, 1, 3], by simp, by simp, by simp, by decide, by decide, by decide, ?_, ?_⟩
        · intro t ht
          simp only [List.mem_cons, List.not_mem_nil, or_false] at ht
          rcases ht with rfl | rfl <;> simp only [get_cons, put_some, put_none, ↓reduceIte, Nat.reduceEqDiff, ren]
        · intro k hk
          simp only [List.mem_cons, List.not_mem_nil, or_false] at hk
          rcases hk with rfl | rfl | rfl | rfl <;> first | rfl | exact congrArg some (ren_flat _ _).symm
      refine ⟨?_, ?_⟩
      · skip
        refine R_buildSlice (r := .own 3 2 0 0) (H' := [some [rowsAV rows, AV.i per, AV.i balls, stopsAV l], some (stC s), some []]) (by exact bs25e _ _ _) ?_
        refine R_buildSlice (r := .own 3 3 0 1) (H' := [some [rowsAV rows, AV.i per, AV.i balls, stopsAV l], some (stC s), some [], some (stC s)]) (by exact bs25 _ _ _ _ s (by simp (disch := first | omega | (simp only [List.length_map, List.length_append, List.length_set, List.length_cons, List.length_nil, List.length_take, List.length_drop]; omega)) only [go_sem, ↓reduceIte, Nat.reduceEqDiff, reduceCtorEq] <;> rfl)) ?_
        refine R_append (r := .own 3 4 0 l.length) (H' := [some [rowsAV rows, AV.i per, AV.i balls, stopsAV l], some (stC s), none, some (stC s), some (flatS l)]) (by simp (disch := first | omega | (simp only [List.length_map, List.length_append, List.length_set, List.length_cons, List.length_nil, List.length_take, List.length_drop]; omega)) only [go_sem, ↓reduceIte, Nat.reduceEqDiff, reduceCtorEq]; exact app25e (l := l) (b := 2) rfl (by simp) (by omega)) ?_
        refine R_append (r := .own 3 5 0 (l.length + 1)) (H' := [some [rowsAV rows, AV.i per, AV.i balls, stopsAV l], some (stC s), none, some (stC s), none, some (flatS (l ++ [s]))]) (by simp (disch := first | omega | (simp only [List.length_map, List.length_append, List.length_set, List.length_cons, List.length_nil, List.length_take, List.length_drop]; omega)) only [go_sem, ↓reduceIte, Nat.reduceEqDiff, reduceCtorEq]; exact app25s (l := l) (s := s) (b := 4) (c := 3) rfl rfl (by simp) (by omega)) ?_
        refine Rcall ?_
        refine ACall_eq (left_fz _ _ rows per balls (l ++ [s]) _ (by first | exact frz_own3 rfl (by simp))) ?_
        refine Rq ?_
        refine Rq ?_
        refine Rq ?_
        refine Rq ?_
        refine R_end ?_
        refine ⟨[0, 2, 1, 3], by simp, by simp, by simp, by decide, by decide, by decide, ?_, ?_⟩
        · intro t ht
          simp only [List.mem_cons, List.not_mem_nil, or_false] at ht
          rcases ht with rfl | rfl <;> simp only [get_cons, put_some, put_none, ↓reduceIte, Nat.reduceEqDiff, ren]
        · intro k hk
          simp only [List.mem_cons, List.not_mem_nil, or_false] at hk
          rcases hk with rfl | rfl | rfl | rfl <;> first | rfl | exact congrArg some (ren_flat _ _).symm
      refine ⟨?_, ?_⟩
      · skip
        refine R_buildSlice (r := .own 3 2 0 1) (H' := [some [rowsAV rows, AV.i per, AV.i balls, stopsAV l], some (stC s), some (stC s)]) (by exact bs25 _ _ _ _ s (by simp (disch := first | omega | (simp only [List.length_map, List.length_append, List.length_set, List.length_cons, List.length_nil, List.length_take, List.length_drop]; omega)) only [go_sem, ↓reduceIte, Nat.reduceEqDiff, reduceCtorEq] <;> rfl)) ?_
        refine R_buildSlice (r := .own 3 3 0 0) (H' := [some [rowsAV rows, AV.i per, AV.i balls, stopsAV l], some (stC s), some (stC s), some []]) (by exact bs25e _ _ _) ?_
        refine R_append (r := .own 3 4 0 l.length) (H' := [some [rowsAV rows, AV.i per, AV.i balls, stopsAV l], some (stC s), some (stC s), none, some (flatS l)]) (by simp (disch := first | omega | (simp only [List.length_map, List.length_append, List.length_set, List.length_cons, List.length_nil, List.length_take, List.length_drop]; omega)) only [go_sem, ↓reduceIte, Nat.reduceEqDiff, reduceCtorEq]; exact app25e (l := l) (b := 3) rfl (by simp) (by omega)) ?_
        refine R_append (r := .own 3 5 0 (l.length + 1)) (H' := [some [rowsAV rows, AV.i per, AV.i balls, stopsAV l], some (stC s), some (stC s), none, none, some (flatS (l ++ [s]))]) (by simp (disch := first | omega | (simp only [List.length_map, List.length_append, List.length_set, List.length_cons, List.length_nil, List.length_take, List.length_drop]; omega)) only [go_sem, ↓reduceIte, Nat.reduceEqDiff, reduceCtorEq]; exact app25s (l := l) (s := s) (b := 4) (c := 2) rfl rfl (by simp) (by omega)) ?_
        refine Rcall ?_
        refine ACall_eq (left_fz _ _ rows per balls (l ++ [s]) _ (by first | exact frz_own3 rfl (by simp))) ?_
        refine Rq ?_
        refine Rq ?_
        refine Rq ?_
        refine Rq ?_
        refine R_end ?_
        refine ⟨[1, 2, 0, 3], by simp, by simp, by simp, by decide, by decide, by decide, ?_, ?_⟩
        · intro t ht
          simp only [List.mem_cons, List.not_mem_nil, or_false] at ht
          rcases ht with rfl | rfl <;> simp only [get_cons, put_some, put_none, ↓reduceIte, Nat.reduceEqDiff, ren]
        · intro k hk
          simp only [List.mem_cons, List.not_mem_nil, or_false] at hk
          rcases hk with rfl | rfl | rfl | rfl <;> first | rfl | exact congrArg some (ren_flat _ _).symm
      refine ⟨?_, ?_⟩
      · skip
        refine R_buildSlice (r := .own 3 2 0 1) (H' := [some [rowsAV rows, AV.i per, AV.i balls, stopsAV l], some (stC s), some (stC s)]) (by exact bs25 _ _ _ _ s (by simp (disch := first | omega | (simp only [List.length_map, List.length_append, List.length_set, List.length_cons, List.length_nil, List.length_take, List.length_drop]; omega)) only [go_sem, ↓reduceIte, Nat.reduceEqDiff, reduceCtorEq] <;> rfl)) ?_
        refine R_buildSlice (r := .own 3 3 0 0) (H' := [some [rowsAV rows, AV.i per, AV.i balls, stopsAV l], some (stC s), some (stC s), some []]) (by exact bs25e _ _ _) ?_
        refine R_append (r := .own 3 4 0 l.length) (H' := [some [rowsAV rows, AV.i per, AV.i balls, stopsAV l], some (stC s), some (stC s), none, some (flatS l)]) (by simp (disch := first | omega | (simp only [List.length_map, List.length_append, List.length_set, List.length_cons, List.length_nil, List.length_take, List.length_drop]; omega)) only [go_sem, ↓reduceIte, Nat.reduceEqDiff, reduceCtorEq]; exact app25e (l := l) (b := 3) rfl (by simp) (by omega)) ?_
        refine R_append (r := .own 3 5 0 (l.length + 1)) (H' := [some [rowsAV rows, AV.i per, AV.i balls, stopsAV l], some (stC s), some (stC s), none, none, some (flatS (l ++ [s]))]) (by simp (disch := first | omega | (simp only [List.length_map, List.length_append, List.length_set, List.length_cons, List.length_nil, List.length_take, List.length_drop]; omega)) only [go_sem, ↓reduceIte, Nat.reduceEqDiff, reduceCtorEq]; exact app25s (l := l) (s := s) (b := 4) (c := 2) rfl rfl (by simp) (by omega)) ?_
        refine Rcall ?_
        refine ACall_eq (left_fz _ _ rows per balls (l ++ [s]) _ (by first | exact frz_own3 rfl (by simp))) ?_
        refine Rq ?_
        refine Rq ?_
        refine Rq ?_
        refine Rq ?_
        refine R_end ?_
        refine ⟨[1, 2, 0, 3], by simp, by simp, by simp, by decide, by decide, by decide, ?_, ?_⟩
        · intro t ht
          simp only [List.mem_cons, List.not_mem_nil, or_false] at ht
          rcases ht with rfl | rfl <;> simp only [get_cons, put_some, put_none, ↓reduceIte, Nat.reduceEqDiff, ren]
        · intro k hk
          simp only [List.mem_cons, List.not_mem_nil, or_false] at hk
          rcases hk with rfl | rfl | rfl | rfl <;> first | rfl | exact congrArg some (ren_flat _ _).symm
      refine ⟨?_, ?_⟩
      · skip
        refine R_buildSlice (r := .own 3 2 0 1) (H' := [some [rowsAV rows, AV.i per, AV.i balls, stopsAV l], some (stC s), some (stC s)]) (by exact bs25 _ _ _ _ s (by simp (disch := first | omega | (simp only [List.length_map, List.length_append, List.length_set, List.length_cons, List.length_nil, List.length_take, List.length_drop]; omega)) only [go_sem, ↓reduceIte, Nat.reduceEqDiff, reduceCtorEq] <;> rfl)) ?_
        refine R_buildSlice (r := .own 3 3 0 0) (H' := [some [rowsAV rows, AV.i per, AV.i balls, stopsAV l], some (stC s), some (stC s), some []]) (by exact bs25e _ _ _) ?_
        refine R_append (r := .own 3 4 0 l.length) (H' := [some [rowsAV rows, AV.i per, AV.i balls, stopsAV l], some (stC s), some (stC s), none, some (flatS l)]) (by simp (disch := first | omega | (simp only [List.length_map, List.length_append, List.length_set, List.length_cons, List.length_nil, List.length_take, List.length_drop]; omega)) only [go_sem, ↓reduceIte, Nat.reduceEqDiff, reduceCtorEq]; exact app25e (l := l) (b := 3) rfl (by simp) (by omega)) ?_
        refine R_append (r := .own 3 5 0 (l.length + 1)) (H' := [some [rowsAV rows, AV.i per, AV.i balls, stopsAV l], some (stC s), some (stC s), none, none, some (flatS (l ++ [s]))]) (by simp (disch := first | omega | (simp only [List.length_map, List.length_append, List.length_set, List.length_cons, List.length_nil, List.length_take, List.length_drop]; omega)) only [go_sem, ↓reduceIte, Nat.reduceEqDiff, reduceCtorEq]; exact app25s (l := l) (s := s) (b := 4) (c := 2) rfl rfl (by simp) (by omega)) ?_
        refine Rcall ?_
        refine ACall_eq (left_fz _ _ rows per balls (l ++ [s]) _ (by first | exact frz_own3 rfl (by simp))) ?_
        refine Rq ?_
        refine Rq ?_
        refine Rq ?_
        refine Rq ?_
        refine R_end ?_
        refine ⟨[1, 2, 0, 3], by simp, by simp, by simp, by decide, by decide, by decide, ?_, ?_⟩
        · intro t ht
          simp only [List.mem_cons, List.not_mem_nil, or_false] at ht
          rcases ht with rfl | rfl <;> simp only [get_cons, put_some, put_none, ↓reduceIte, Nat.reduceEqDiff, ren]
        · intro k hk
          simp only [List.mem_cons, List.not_mem_nil, or_false] at hk
          rcases hk with rfl | rfl | rfl | rfl <;> first | rfl | exact congrArg some (ren_flat _ _).symm
      exact trivial
    refine Rp_env (e' := [(45, _), (7, _), (30, .any), (31, .any), (32, .any), (33, .any), (34, .any), (35, .any), (36, .any), (37, .any), (38, .any), (39, .any), (40, .any), (41, .any), (42, .any), (43, .any), (29, .any), (44, .any), (45, .any), (7, .any), (8, .any), (0, _), (1, _), (2, _), (3, _), (4, _), (5, _), (6, _), (7, _), (8, _), (10, _), (16, _)]) rfl ?_
    simp only [put_some, get_cons, ↓reduceIte, Nat.reduceEqDiff]
    refine Rq ?_
    have tr : ∀ y0 y1 y2 y3 y4 y5 y6 y7 y8 y10 y16 z0 z1 z2 z3 z4 z5 z6 z7 z8 z9 z10 z11 z12 z13 z14 z15 z16 z17 z18 z19 z20 z21 : AV, trim [(8, z21), (45, z20), (7, z19), (30, z18), (31, z17), (32, z16), (33, z15), (34, z14), (35, z13), (36, z12), (37, z11), (38, z10), (39, z9), (40, z8), (41, z7), (42, z6), (43, z5), (29, z4), (44, z3), (45, z2), (7, z1), (8, z0), (0, y0), (1, y1), (2, y2), (3, y3), (4, y4), (5, y5), (6, y6), (7, y7), (8, y8), (10, y10), (16, y16)] [(0, y0), (1, y1), (2, y2), (3, y3), (4, y4), (5, y5), (6, y6), (7, y7), (8, y8), (10, y10), (16, y16)] = [(0, y0), (1, y1), (2, y2), (3, y3), (4, y4), (5, y5), (6, y6), (7, z19), (8, z21), (10, y10), (16, y16)] := fun y0 y1 y2 y3 y4 y5 y6 y7 y8 y10 y16 z0 z1 z2 z3 z4 z5 z6 z7 z8 z9 z10 z11 z12 z13 z14 z15 z16 z17 z18 z19 z20 z21 => rfl
    refine R_nil (tr _ _ _ _ _ _ _ _ _ _ _ _ _ _ _ _ _ _ _ _ _ _ _ _ _ _ _ _ _ _ _ _ _) ?_; clear tr
    refine then_n ?_
    refine at_seq rfl ?_
    refine rg rfl ?_
    refine Rq ?_
    refine Rq ?_
    refine Rq ?_
    refine Rp_split (fun h2 => ?_) (fun h2 => ?_)
    · try simp only [decide_eq_true_eq, decide_eq_false_iff_not, Bool.not_eq_true', Bool.not_eq_false', beq_iff_eq, beq_eq_false_iff_ne, ne_eq] at h2
      refine Rn ?_
      refine Rn ?_
      refine Rq ?_
      refine Rq ?_
      refine Rn ?_
      refine Rn ?_
      refine Rn ?_
      refine Rq ?_
      refine Rq ?_
      have tr : ∀ y0 y1 y2 y3 y4 y5 y6 y7 y8 y10 y16 z0 z1 z2 z3 z4 z5 z6 z7 z8 z9 z10 z11 : AV, trim [(4, z11), (56, z10), (55, z9), (54, z8), (53, z7), (52, z6), (51, z5), (50, z4), (49, z3), (48, z2), (47, z1), (46, z0), (0, y0), (1, y1), (2, y2), (3, y3), (4, y4), (5, y5), (6, y6), (7, y7), (8, y8), (10, y10), (16, y16)] [(0, y0), (1, y1), (2, y2), (3, y3), (4, y4), (5, y5), (6, y6), (7, y7), (8, y8), (10, y10), (16, y16)] = [(0, y0), (1, y1), (2, y2), (3, y3), (4, z11), (5, y5), (6, y6), (7, y7), (8, y8), (10, y10), (16, y16)] := fun y0 y1 y2 y3 y4 y5 y6 y7 y8 y10 y16 z0 z1 z2 z3 z4 z5 z6 z7 z8 z9 z10 z11 => rfl
      refine R_nil (tr _ _ _ _ _ _ _ _ _ _ _ _ _ _ _ _ _ _ _ _ _ _ _) ?_; clear tr
      refine then_n ?_
      refine at_ret rfl ?_
      refine fpure ?_
      first | rfl | rw [decide_eq_true (left_more (by assumption) (by assumption))] | simp
    · try simp only [decide_eq_true_eq, decide_eq_false_iff_not, Bool.not_eq_true', Bool.not_eq_false', beq_iff_eq, beq_eq_false_iff_ne, ne_eq] at h2
      refine Ry ?_
      refine Rq ?_
      refine Ry ?_
      refine Rq ?_
      refine Rq ?_
      refine Rq ?_
      refine Rp_split (fun h3 => ?_) (fun h3 => ?_)
      · try simp only [decide_eq_true_eq, decide_eq_false_iff_not, Bool.not_eq_true', Bool.not_eq_false', beq_iff_eq, beq_eq_false_iff_ne, ne_eq] at h3
        refine Rn ?_
        refine Rn ?_
        refine Rn ?_
        refine Rq ?_
        refine Rq ?_
        have tr : ∀ y0 y1 y2 y3 y4 y5 y6 y7 y8 y10 y16 z0 z1 z2 z3 z4 z5 z6 z7 z8 z9 z10 z11 : AV, trim [(4, z11), (56, z10), (55, z9), (54, z8), (53, z7), (52, z6), (51, z5), (50, z4), (49, z3), (48, z2), (47, z1), (46, z0), (0, y0), (1, y1), (2, y2), (3, y3), (4, y4), (5, y5), (6, y6), (7, y7), (8, y8), (10, y10), (16, y16)] [(0, y0), (1, y1), (2, y2), (3, y3), (4, y4), (5, y5), (6, y6), (7, y7), (8, y8), (10, y10), (16, y16)] = [(0, y0), (1, y1), (2, y2), (3, y3), (4, z11), (5, y5), (6, y6), (7, y7), (8, y8), (10, y10), (16, y16)] := fun y0 y1 y2 y3 y4 y5 y6 y7 y8 y10 y16 z0 z1 z2 z3 z4 z5 z6 z7 z8 z9 z10 z11 => rfl
        refine R_nil (tr _ _ _ _ _ _ _ _ _ _ _ _ _ _ _ _ _ _ _ _ _ _ _) ?_; clear tr
        refine then_n ?_
        refine at_ret rfl ?_
        refine fpure ?_
        first | rfl | rw [decide_eq_true (left_more (by assumption) (by assumption))] | simp
      · try simp only [decide_eq_true_eq, decide_eq_false_iff_not, Bool.not_eq_true', Bool.not_eq_false', beq_iff_eq, beq_eq_false_iff_ne, ne_eq] at h3
        refine Ry ?_
        refine Rq ?_
        refine Ry ?_
        refine Rq ?_
        refine Ry ?_
        refine Rq ?_
        refine Rq ?_
        refine Rq ?_
        have tr : ∀ y0 y1 y2 y3 y4 y5 y6 y7 y8 y10 y16 z0 z1 z2 z3 z4 z5 z6 z7 z8 z9 z10 z11 : AV, trim [(4, z11), (56, z10), (55, z9), (54, z8), (53, z7), (52, z6), (51, z5), (50, z4), (49, z3), (48, z2), (47, z1), (46, z0), (0, y0), (1, y1), (2, y2), (3, y3), (4, y4), (5, y5), (6, y6), (7, y7), (8, y8), (10, y10), (16, y16)] [(0, y0), (1, y1), (2, y2), (3, y3), (4, y4), (5, y5), (6, y6), (7, y7), (8, y8), (10, y10), (16, y16)] = [(0, y0), (1, y1), (2, y2), (3, y3), (4, z11), (5, y5), (6, y6), (7, y7), (8, y8), (10, y10), (16, y16)] := fun y0 y1 y2 y3 y4 y5 y6 y7 y8 y10 y16 z0 z1 z2 z3 z4 z5 z6 z7 z8 z9 z10 z11 => rfl
        refine R_nil (tr _ _ _ _ _ _ _ _ _ _ _ _ _ _ _ _ _ _ _ _ _ _ _) ?_; clear tr
        refine then_n ?_
        refine at_ret rfl ?_
        refine fpure ?_
        first | rfl | rw [decide_eq_true (left_more (by assumption) (by assumption))] | simp

end Go.Proofs.Ytaoondlakhocnaa
