/-
  Walks of chapters 37, 39 and 40. The steps are written by program (walk.py).
-/
import Derived.Test.YtaoondlakhocnaaRM
import Derived.Test.YtaoondlakhocnaaRN
set_option linter.unusedSimpArgs false
set_option linter.unusedVariables false
set_option maxHeartbeats 40000000
set_option maxRecDepth 4000
namespace Go.Proofs.Ytaoondlakhocnaa
open Go Go.Am

theorem small_ok (lim : Nat) (H : Heap) (rows : Tb) (l : List Stp) :
    ACall sig lim 35 [.agg [rowsAV rows], stopsAV l] H fun r H' => (∃ b : Bool, r = .v (.bool b)) ∧ H' = H := by
  refine ACall_pure (fa := fa35) rfl rfl rfl rfl ?_
  have tr : ∀ a0 a1 : AV, env0 fa35.keep [a0, a1] = [(0, a0), (1, a1), (2, .any), (4, .any), (6, .any), (15, .any), (17, .any), (18, .any), (19, .any), (20, .any), (25, .any)] := fun a0 a1 => rfl
  refine W_to (tr _ _) ?_; clear tr
  refine at_seq rfl ?_
  refine rg rfl ?_
  refine R_box rfl (by simp (disch := first | omega | (simp only [List.length_map, List.length_append, List.length_set, List.length_cons, List.length_nil, List.length_take, List.length_drop]; omega)) only [go_sem, ↓reduceIte, Nat.reduceEqDiff, reduceCtorEq]; rfl) rfl rfl ?_
  refine Rq ?_
  have tr : ∀ y0 y1 y2 y4 y6 y15 y17 y18 y19 y20 y25 z0 z1 : AV, trim [(4, z1), (2, z0), (0, y0), (1, y1), (2, y2), (4, y4), (6, y6), (15, y15), (17, y17), (18, y18), (19, y19), (20, y20), (25, y25)] [(0, y0), (1, y1), (2, y2), (4, y4), (6, y6), (15, y15), (17, y17), (18, y18), (19, y19), (20, y20), (25, y25)] = [(0, y0), (1, y1), (2, z0), (4, z1), (6, y6), (15, y15), (17, y17), (18, y18), (19, y19), (20, y20), (25, y25)] := fun y0 y1 y2 y4 y6 y15 y17 y18 y19 y20 y25 z0 z1 => rfl
  refine R_nil (tr _ _ _ _ _ _ _ _ _ _ _ _ _) ?_; clear tr
  refine then_n ?_
  refine at_seq rfl ?_
  refine at_seq rfl ?_
  refine rg rfl ?_
  refine Rq ?_
  refine Rq ?_
  refine Rq ?_
  refine Rq ?_
  refine Rp_split (fun h1 => ?_) (fun h1 => ?_)
  · try simp only [decide_eq_true_eq, decide_eq_false_iff_not, Bool.not_eq_true', Bool.not_eq_false', beq_iff_eq, beq_eq_false_iff_ne, ne_eq] at h1
    refine Rn ?_
    refine Rn ?_
    refine Rn ?_
    refine Rn ?_
    refine Rq ?_
    have tr : ∀ y0 y1 y2 y4 y6 y15 y17 y18 y19 y20 y25 z0 z1 z2 z3 z4 z5 z6 z7 z8 : AV, trim [(15, z8), (14, z7), (13, z6), (12, z5), (11, z4), (10, z3), (9, z2), (8, z1), (7, z0), (0, y0), (1, y1), (2, y2), (4, y4), (6, y6), (15, y15), (17, y17), (18, y18), (19, y19), (20, y20), (25, y25)] [(0, y0), (1, y1), (2, y2), (4, y4), (6, y6), (15, y15), (17, y17), (18, y18), (19, y19), (20, y20), (25, y25)] = [(0, y0), (1, y1), (2, y2), (4, y4), (6, y6), (15, z8), (17, y17), (18, y18), (19, y19), (20, y20), (25, y25)] := fun y0 y1 y2 y4 y6 y15 y17 y18 y19 y20 y25 z0 z1 z2 z3 z4 z5 z6 z7 z8 => rfl
    refine R_nil (tr _ _ _ _ _ _ _ _ _ _ _ _ _ _ _ _ _ _ _ _) ?_; clear tr
    refine then_n ?_
    refine cdt ?_
    refine at_seq rfl ?_
    refine rg rfl ?_
    refine Rq ?_
    have tr : ∀ y0 y1 y2 y4 y6 y15 y17 y18 y19 y20 y25 z0 : AV, trim [(4, z0), (0, y0), (1, y1), (2, y2), (4, y4), (6, y6), (15, y15), (17, y17), (18, y18), (19, y19), (20, y20), (25, y25)] [(0, y0), (1, y1), (2, y2), (4, y4), (6, y6), (15, y15), (17, y17), (18, y18), (19, y19), (20, y20), (25, y25)] = [(0, y0), (1, y1), (2, y2), (4, z0), (6, y6), (15, y15), (17, y17), (18, y18), (19, y19), (20, y20), (25, y25)] := fun y0 y1 y2 y4 y6 y15 y17 y18 y19 y20 y25 z0 => rfl
    refine R_nil (tr _ _ _ _ _ _ _ _ _ _ _ _) ?_; clear tr
    refine then_n ?_
    refine at_ret rfl ?_
    refine then_r ?_
    refine fpure ?_
    exact ⟨⟨_, rfl⟩, rfl⟩
  · try simp only [decide_eq_true_eq, decide_eq_false_iff_not, Bool.not_eq_true', Bool.not_eq_false', beq_iff_eq, beq_eq_false_iff_ne, ne_eq] at h1
    refine Ry ?_
    refine Rq ?_
    refine Ry ?_
    refine Rq ?_
    refine Ry ?_
    refine Rq ?_
    refine Ry ?_
    refine Rq ?_
    refine Rq ?_
    have tr : ∀ y0 y1 y2 y4 y6 y15 y17 y18 y19 y20 y25 z0 z1 z2 z3 z4 z5 z6 z7 z8 : AV, trim [(15, z8), (14, z7), (13, z6), (12, z5), (11, z4), (10, z3), (9, z2), (8, z1), (7, z0), (0, y0), (1, y1), (2, y2), (4, y4), (6, y6), (15, y15), (17, y17), (18, y18), (19, y19), (20, y20), (25, y25)] [(0, y0), (1, y1), (2, y2), (4, y4), (6, y6), (15, y15), (17, y17), (18, y18), (19, y19), (20, y20), (25, y25)] = [(0, y0), (1, y1), (2, y2), (4, y4), (6, y6), (15, z8), (17, y17), (18, y18), (19, y19), (20, y20), (25, y25)] := fun y0 y1 y2 y4 y6 y15 y17 y18 y19 y20 y25 z0 z1 z2 z3 z4 z5 z6 z7 z8 => rfl
    refine R_nil (tr _ _ _ _ _ _ _ _ _ _ _ _ _ _ _ _ _ _ _ _) ?_; clear tr
    refine then_n ?_
    refine cdd (fun h2 => ?_) (fun h2 => ?_)
    · try simp only [decide_eq_true_eq, decide_eq_false_iff_not, Bool.not_eq_true', Bool.not_eq_false', beq_iff_eq, beq_eq_false_iff_ne, ne_eq] at h2
      refine at_seq rfl ?_
      refine rg rfl ?_
      refine Rq ?_
      have tr : ∀ y0 y1 y2 y4 y6 y15 y17 y18 y19 y20 y25 z0 : AV, trim [(4, z0), (0, y0), (1, y1), (2, y2), (4, y4), (6, y6), (15, y15), (17, y17), (18, y18), (19, y19), (20, y20), (25, y25)] [(0, y0), (1, y1), (2, y2), (4, y4), (6, y6), (15, y15), (17, y17), (18, y18), (19, y19), (20, y20), (25, y25)] = [(0, y0), (1, y1), (2, y2), (4, z0), (6, y6), (15, y15), (17, y17), (18, y18), (19, y19), (20, y20), (25, y25)] := fun y0 y1 y2 y4 y6 y15 y17 y18 y19 y20 y25 z0 => rfl
      refine R_nil (tr _ _ _ _ _ _ _ _ _ _ _ _) ?_; clear tr
      refine then_n ?_
      refine at_ret rfl ?_
      refine then_r ?_
      refine fpure ?_
      exact ⟨⟨_, rfl⟩, rfl⟩
    · try simp only [decide_eq_true_eq, decide_eq_false_iff_not, Bool.not_eq_true', Bool.not_eq_false', beq_iff_eq, beq_eq_false_iff_ne, ne_eq] at h2
      refine at_skip rfl ?_
      refine then_n ?_
      refine at_seq rfl ?_
      refine at_seq rfl ?_
      refine rg rfl ?_
      refine Rq ?_
      refine Rq ?_
      refine Rq ?_
      refine Rq ?_
      have tr : ∀ y0 y1 y2 y4 y6 y15 y17 y18 y19 y20 y25 z0 z1 z2 z3 : AV, trim [(19, z3), (18, z2), (17, z1), (16, z0), (0, y0), (1, y1), (2, y2), (4, y4), (6, y6), (15, y15), (17, y17), (18, y18), (19, y19), (20, y20), (25, y25)] [(0, y0), (1, y1), (2, y2), (4, y4), (6, y6), (15, y15), (17, y17), (18, y18), (19, y19), (20, y20), (25, y25)] = [(0, y0), (1, y1), (2, y2), (4, y4), (6, y6), (15, y15), (17, z1), (18, z2), (19, z3), (20, y20), (25, y25)] := fun y0 y1 y2 y4 y6 y15 y17 y18 y19 y20 y25 z0 z1 z2 z3 => rfl
      refine R_nil (tr _ _ _ _ _ _ _ _ _ _ _ _ _ _ _) ?_; clear tr
      refine then_n ?_
      refine at_block rfl ?_
      refine loop_n rfl (fun mm kv H' => ∃ u : Nat, ∃ x4 x6 x20 x25 : AV, (kv = [(4, x4), (6, x6), (19, AV.i u), (20, x20), (25, x25)]) ∧ (mm = rows.length - u) ∧ (H' = H ++ [some [rowsAV rows]]) ∧ (u ≤ rows.length)) ⟨0, _, _, _, _, rfl, rfl, rfl, by omega⟩ (by rfl) ?_
      rintro mm kv H' ⟨u, x4, x6, x20, x25, rfl, rfl, rfl, hu⟩
      have tr : ∀ y0 y1 y2 y4 y6 y15 y17 y18 y19 y20 y25 z4 z6 z19 z20 z25 : AV, upd [(0, y0), (1, y1), (2, y2), (4, y4), (6, y6), (15, y15), (17, y17), (18, y18), (19, y19), (20, y20), (25, y25)] [(4, z4), (6, z6), (19, z19), (20, z20), (25, z25)] = [(0, y0), (1, y1), (2, y2), (4, z4), (6, z6), (15, y15), (17, y17), (18, y18), (19, z19), (20, z20), (25, z25)] := fun y0 y1 y2 y4 y6 y15 y17 y18 y19 y20 y25 z4 z6 z19 z20 z25 => rfl
      refine W_to (tr _ _ _ _ _ _ _ _ _ _ _ _ _ _ _ _) ?_; clear tr
      refine at_seq rfl ?_
      refine rg rfl ?_
      refine Rq ?_
      have tr : ∀ y0 y1 y2 y4 y6 y15 y17 y18 y19 y20 y25 z0 : AV, trim [(20, z0), (0, y0), (1, y1), (2, y2), (4, y4), (6, y6), (15, y15), (17, y17), (18, y18), (19, y19), (20, y20), (25, y25)] [(0, y0), (1, y1), (2, y2), (4, y4), (6, y6), (15, y15), (17, y17), (18, y18), (19, y19), (20, y20), (25, y25)] = [(0, y0), (1, y1), (2, y2), (4, y4), (6, y6), (15, y15), (17, y17), (18, y18), (19, y19), (20, z0), (25, y25)] := fun y0 y1 y2 y4 y6 y15 y17 y18 y19 y20 y25 z0 => rfl
      refine R_nil (tr _ _ _ _ _ _ _ _ _ _ _ _) ?_; clear tr
      refine then_n ?_
      refine at_seq rfl ?_
      refine cdd (fun h3 => ?_) (fun h3 => ?_)
      · try simp only [decide_eq_true_eq, decide_eq_false_iff_not, Bool.not_eq_true', Bool.not_eq_false', beq_iff_eq, beq_eq_false_iff_ne, ne_eq] at h3
        refine at_skip rfl ?_
        refine then_n ?_
        refine at_seq rfl ?_
        refine at_block rfl ?_
        refine at_seq rfl ?_
        refine rg rfl ?_
        refine Rq ?_
        refine Rq ?_
        refine Rq ?_
        have tr : ∀ y0 y1 y2 y4 y6 y15 y17 y18 y19 y20 y25 z0 z1 z2 : AV, trim [(6, z2), (22, z1), (21, z0), (0, y0), (1, y1), (2, y2), (4, y4), (6, y6), (15, y15), (17, y17), (18, y18), (19, y19), (20, y20), (25, y25)] [(0, y0), (1, y1), (2, y2), (4, y4), (6, y6), (15, y15), (17, y17), (18, y18), (19, y19), (20, y20), (25, y25)] = [(0, y0), (1, y1), (2, y2), (4, y4), (6, z2), (15, y15), (17, y17), (18, y18), (19, y19), (20, y20), (25, y25)] := fun y0 y1 y2 y4 y6 y15 y17 y18 y19 y20 y25 z0 z1 z2 => rfl
        refine R_nil (tr _ _ _ _ _ _ _ _ _ _ _ _ _ _) ?_; clear tr
        refine then_n ?_
        refine at_seq rfl ?_
        refine rg rfl ?_
        refine Rq ?_
        refine Rq ?_
        refine Rq ?_
        have tr : ∀ y0 y1 y2 y4 y6 y15 y17 y18 y19 y20 y25 z0 z1 z2 : AV, trim [(25, z2), (24, z1), (23, z0), (0, y0), (1, y1), (2, y2), (4, y4), (6, y6), (15, y15), (17, y17), (18, y18), (19, y19), (20, y20), (25, y25)] [(0, y0), (1, y1), (2, y2), (4, y4), (6, y6), (15, y15), (17, y17), (18, y18), (19, y19), (20, y20), (25, y25)] = [(0, y0), (1, y1), (2, y2), (4, y4), (6, y6), (15, y15), (17, y17), (18, y18), (19, y19), (20, y20), (25, z2)] := fun y0 y1 y2 y4 y6 y15 y17 y18 y19 y20 y25 z0 z1 z2 => rfl
        refine R_nil (tr _ _ _ _ _ _ _ _ _ _ _ _ _ _) ?_; clear tr
        refine then_n ?_
        refine cdd (fun h4 => ?_) (fun h4 => ?_)
        · try simp only [decide_eq_true_eq, decide_eq_false_iff_not, Bool.not_eq_true', Bool.not_eq_false', beq_iff_eq, beq_eq_false_iff_ne, ne_eq] at h4
          refine at_seq rfl ?_
          refine rg rfl ?_
          refine Rq ?_
          have tr : ∀ y0 y1 y2 y4 y6 y15 y17 y18 y19 y20 y25 z0 : AV, trim [(4, z0), (0, y0), (1, y1), (2, y2), (4, y4), (6, y6), (15, y15), (17, y17), (18, y18), (19, y19), (20, y20), (25, y25)] [(0, y0), (1, y1), (2, y2), (4, y4), (6, y6), (15, y15), (17, y17), (18, y18), (19, y19), (20, y20), (25, y25)] = [(0, y0), (1, y1), (2, y2), (4, z0), (6, y6), (15, y15), (17, y17), (18, y18), (19, y19), (20, y20), (25, y25)] := fun y0 y1 y2 y4 y6 y15 y17 y18 y19 y20 y25 z0 => rfl
          refine R_nil (tr _ _ _ _ _ _ _ _ _ _ _ _) ?_; clear tr
          refine then_n ?_
          refine at_ret rfl ?_
          refine blk_r ?_
          refine then_r ?_
          refine then_r ?_
          refine blk_r ?_
          refine then_r ?_
          refine fpure ?_
          exact ⟨⟨_, rfl⟩, rfl⟩
        · try simp only [decide_eq_true_eq, decide_eq_false_iff_not, Bool.not_eq_true', Bool.not_eq_false', beq_iff_eq, beq_eq_false_iff_ne, ne_eq] at h4
          refine at_skip rfl ?_
          refine blk_n ?_
          refine then_n ?_
          refine rg rfl ?_
          refine Rq ?_
          refine Rq ?_
          have tr : ∀ y0 y1 y2 y4 y6 y15 y17 y18 y19 y20 y25 z0 z1 : AV, trim [(19, z1), (26, z0), (0, y0), (1, y1), (2, y2), (4, y4), (6, y6), (15, y15), (17, y17), (18, y18), (19, y19), (20, y20), (25, y25)] [(0, y0), (1, y1), (2, y2), (4, y4), (6, y6), (15, y15), (17, y17), (18, y18), (19, y19), (20, y20), (25, y25)] = [(0, y0), (1, y1), (2, y2), (4, y4), (6, y6), (15, y15), (17, y17), (18, y18), (19, z1), (20, y20), (25, y25)] := fun y0 y1 y2 y4 y6 y15 y17 y18 y19 y20 y25 z0 z1 => rfl
          refine R_nil (tr _ _ _ _ _ _ _ _ _ _ _ _ _) ?_; clear tr
          refine then_n ?_
          exact ⟨_, _, ⟨u + 1, _, _, _, _, rfl, rfl, rfl, by omega⟩, by rfl, by omega⟩
      · try simp only [decide_eq_true_eq, decide_eq_false_iff_not, Bool.not_eq_true', Bool.not_eq_false', beq_iff_eq, beq_eq_false_iff_ne, ne_eq] at h3
        refine at_exit rfl ?_
        refine then_x ?_
        refine then_x ?_
        refine blk_x ?_
        refine then_n ?_
        refine at_seq rfl ?_
        refine rg rfl ?_
        refine Rq ?_
        have tr : ∀ y0 y1 y2 y4 y6 y15 y17 y18 y19 y20 y25 z0 : AV, trim [(4, z0), (0, y0), (1, y1), (2, y2), (4, y4), (6, y6), (15, y15), (17, y17), (18, y18), (19, y19), (20, y20), (25, y25)] [(0, y0), (1, y1), (2, y2), (4, y4), (6, y6), (15, y15), (17, y17), (18, y18), (19, y19), (20, y20), (25, y25)] = [(0, y0), (1, y1), (2, y2), (4, z0), (6, y6), (15, y15), (17, y17), (18, y18), (19, y19), (20, y20), (25, y25)] := fun y0 y1 y2 y4 y6 y15 y17 y18 y19 y20 y25 z0 => rfl
        refine R_nil (tr _ _ _ _ _ _ _ _ _ _ _ _) ?_; clear tr
        refine then_n ?_
        refine at_ret rfl ?_
        refine fpure ?_
        exact ⟨⟨_, rfl⟩, rfl⟩

theorem small_nil (lim : Nat) (H : Heap) (rows : Tb) :
    ACall sig lim 35 [.agg [rowsAV rows], (.v (.slice none 0 0) : AV)] H fun r H' => (∃ b : Bool, r = .v (.bool b)) ∧ H' = H := by
  refine ACall_pure (fa := fa35) rfl rfl rfl rfl ?_
  have tr : ∀ a0 a1 : AV, env0 fa35.keep [a0, a1] = [(0, a0), (1, a1), (2, .any), (4, .any), (6, .any), (15, .any), (17, .any), (18, .any), (19, .any), (20, .any), (25, .any)] := fun a0 a1 => rfl
  refine W_to (tr _ _) ?_; clear tr
  refine at_seq rfl ?_
  refine rg rfl ?_
  refine R_box rfl (by simp (disch := first | omega | (simp only [List.length_map, List.length_append, List.length_set, List.length_cons, List.length_nil, List.length_take, List.length_drop]; omega)) only [go_sem, ↓reduceIte, Nat.reduceEqDiff, reduceCtorEq]; rfl) rfl rfl ?_
  refine Rq ?_
  have tr : ∀ y0 y1 y2 y4 y6 y15 y17 y18 y19 y20 y25 z0 z1 : AV, trim [(4, z1), (2, z0), (0, y0), (1, y1), (2, y2), (4, y4), (6, y6), (15, y15), (17, y17), (18, y18), (19, y19), (20, y20), (25, y25)] [(0, y0), (1, y1), (2, y2), (4, y4), (6, y6), (15, y15), (17, y17), (18, y18), (19, y19), (20, y20), (25, y25)] = [(0, y0), (1, y1), (2, z0), (4, z1), (6, y6), (15, y15), (17, y17), (18, y18), (19, y19), (20, y20), (25, y25)] := fun y0 y1 y2 y4 y6 y15 y17 y18 y19 y20 y25 z0 z1 => rfl
  refine R_nil (tr _ _ _ _ _ _ _ _ _ _ _ _ _) ?_; clear tr
  refine then_n ?_
  refine at_seq rfl ?_
  refine at_seq rfl ?_
  refine rg rfl ?_
  refine Rq ?_
  refine Rq ?_
  refine Rq ?_
  refine Rq ?_
  refine Rp_split (fun h1 => ?_) (fun h1 => ?_)
  · try simp only [decide_eq_true_eq, decide_eq_false_iff_not, Bool.not_eq_true', Bool.not_eq_false', beq_iff_eq, beq_eq_false_iff_ne, ne_eq] at h1
    refine Rn ?_
    refine Rn ?_
    refine Rn ?_
    refine Rn ?_
    refine Rq ?_
    have tr : ∀ y0 y1 y2 y4 y6 y15 y17 y18 y19 y20 y25 z0 z1 z2 z3 z4 z5 z6 z7 z8 : AV, trim [(15, z8), (14, z7), (13, z6), (12, z5), (11, z4), (10, z3), (9, z2), (8, z1), (7, z0), (0, y0), (1, y1), (2, y2), (4, y4), (6, y6), (15, y15), (17, y17), (18, y18), (19, y19), (20, y20), (25, y25)] [(0, y0), (1, y1), (2, y2), (4, y4), (6, y6), (15, y15), (17, y17), (18, y18), (19, y19), (20, y20), (25, y25)] = [(0, y0), (1, y1), (2, y2), (4, y4), (6, y6), (15, z8), (17, y17), (18, y18), (19, y19), (20, y20), (25, y25)] := fun y0 y1 y2 y4 y6 y15 y17 y18 y19 y20 y25 z0 z1 z2 z3 z4 z5 z6 z7 z8 => rfl
    refine R_nil (tr _ _ _ _ _ _ _ _ _ _ _ _ _ _ _ _ _ _ _ _) ?_; clear tr
    refine then_n ?_
    refine cdt ?_
    refine at_seq rfl ?_
    refine rg rfl ?_
    refine Rq ?_
    have tr : ∀ y0 y1 y2 y4 y6 y15 y17 y18 y19 y20 y25 z0 : AV, trim [(4, z0), (0, y0), (1, y1), (2, y2), (4, y4), (6, y6), (15, y15), (17, y17), (18, y18), (19, y19), (20, y20), (25, y25)] [(0, y0), (1, y1), (2, y2), (4, y4), (6, y6), (15, y15), (17, y17), (18, y18), (19, y19), (20, y20), (25, y25)] = [(0, y0), (1, y1), (2, y2), (4, z0), (6, y6), (15, y15), (17, y17), (18, y18), (19, y19), (20, y20), (25, y25)] := fun y0 y1 y2 y4 y6 y15 y17 y18 y19 y20 y25 z0 => rfl
    refine R_nil (tr _ _ _ _ _ _ _ _ _ _ _ _) ?_; clear tr
    refine then_n ?_
    refine at_ret rfl ?_
    refine then_r ?_
    refine fpure ?_
    exact ⟨⟨_, rfl⟩, rfl⟩
  · try simp only [decide_eq_true_eq, decide_eq_false_iff_not, Bool.not_eq_true', Bool.not_eq_false', beq_iff_eq, beq_eq_false_iff_ne, ne_eq] at h1
    refine Ry ?_
    refine Rq ?_
    refine Ry ?_
    refine Rq ?_
    refine Ry ?_
    refine Rq ?_
    refine Ry ?_
    refine Rq ?_
    refine Rq ?_
    have tr : ∀ y0 y1 y2 y4 y6 y15 y17 y18 y19 y20 y25 z0 z1 z2 z3 z4 z5 z6 z7 z8 : AV, trim [(15, z8), (14, z7), (13, z6), (12, z5), (11, z4), (10, z3), (9, z2), (8, z1), (7, z0), (0, y0), (1, y1), (2, y2), (4, y4), (6, y6), (15, y15), (17, y17), (18, y18), (19, y19), (20, y20), (25, y25)] [(0, y0), (1, y1), (2, y2), (4, y4), (6, y6), (15, y15), (17, y17), (18, y18), (19, y19), (20, y20), (25, y25)] = [(0, y0), (1, y1), (2, y2), (4, y4), (6, y6), (15, z8), (17, y17), (18, y18), (19, y19), (20, y20), (25, y25)] := fun y0 y1 y2 y4 y6 y15 y17 y18 y19 y20 y25 z0 z1 z2 z3 z4 z5 z6 z7 z8 => rfl
    refine R_nil (tr _ _ _ _ _ _ _ _ _ _ _ _ _ _ _ _ _ _ _ _) ?_; clear tr
    refine then_n ?_
    refine cdd (fun h2 => ?_) (fun h2 => ?_)
    · try simp only [decide_eq_true_eq, decide_eq_false_iff_not, Bool.not_eq_true', Bool.not_eq_false', beq_iff_eq, beq_eq_false_iff_ne, ne_eq] at h2
      refine at_seq rfl ?_
      refine rg rfl ?_
      refine Rq ?_
      have tr : ∀ y0 y1 y2 y4 y6 y15 y17 y18 y19 y20 y25 z0 : AV, trim [(4, z0), (0, y0), (1, y1), (2, y2), (4, y4), (6, y6), (15, y15), (17, y17), (18, y18), (19, y19), (20, y20), (25, y25)] [(0, y0), (1, y1), (2, y2), (4, y4), (6, y6), (15, y15), (17, y17), (18, y18), (19, y19), (20, y20), (25, y25)] = [(0, y0), (1, y1), (2, y2), (4, z0), (6, y6), (15, y15), (17, y17), (18, y18), (19, y19), (20, y20), (25, y25)] := fun y0 y1 y2 y4 y6 y15 y17 y18 y19 y20 y25 z0 => rfl
      refine R_nil (tr _ _ _ _ _ _ _ _ _ _ _ _) ?_; clear tr
      refine then_n ?_
      refine at_ret rfl ?_
      refine then_r ?_
      refine fpure ?_
      exact ⟨⟨_, rfl⟩, rfl⟩
    · try simp only [decide_eq_true_eq, decide_eq_false_iff_not, Bool.not_eq_true', Bool.not_eq_false', beq_iff_eq, beq_eq_false_iff_ne, ne_eq] at h2
      refine at_skip rfl ?_
      refine then_n ?_
      refine at_seq rfl ?_
      refine at_seq rfl ?_
      refine rg rfl ?_
      refine Rq ?_
      refine Rq ?_
      refine Rq ?_
      refine Rq ?_
      have tr : ∀ y0 y1 y2 y4 y6 y15 y17 y18 y19 y20 y25 z0 z1 z2 z3 : AV, trim [(19, z3), (18, z2), (17, z1), (16, z0), (0, y0), (1, y1), (2, y2), (4, y4), (6, y6), (15, y15), (17, y17), (18, y18), (19, y19), (20, y20), (25, y25)] [(0, y0), (1, y1), (2, y2), (4, y4), (6, y6), (15, y15), (17, y17), (18, y18), (19, y19), (20, y20), (25, y25)] = [(0, y0), (1, y1), (2, y2), (4, y4), (6, y6), (15, y15), (17, z1), (18, z2), (19, z3), (20, y20), (25, y25)] := fun y0 y1 y2 y4 y6 y15 y17 y18 y19 y20 y25 z0 z1 z2 z3 => rfl
      refine R_nil (tr _ _ _ _ _ _ _ _ _ _ _ _ _ _ _) ?_; clear tr
      refine then_n ?_
      refine at_block rfl ?_
      refine loop_n rfl (fun mm kv H' => ∃ u : Nat, ∃ x4 x6 x20 x25 : AV, (kv = [(4, x4), (6, x6), (19, AV.i u), (20, x20), (25, x25)]) ∧ (mm = rows.length - u) ∧ (H' = H ++ [some [rowsAV rows]]) ∧ (u ≤ rows.length)) ⟨0, _, _, _, _, rfl, rfl, rfl, by omega⟩ (by rfl) ?_
      rintro mm kv H' ⟨u, x4, x6, x20, x25, rfl, rfl, rfl, hu⟩
      have tr : ∀ y0 y1 y2 y4 y6 y15 y17 y18 y19 y20 y25 z4 z6 z19 z20 z25 : AV, upd [(0, y0), (1, y1), (2, y2), (4, y4), (6, y6), (15, y15), (17, y17), (18, y18), (19, y19), (20, y20), (25, y25)] [(4, z4), (6, z6), (19, z19), (20, z20), (25, z25)] = [(0, y0), (1, y1), (2, y2), (4, z4), (6, z6), (15, y15), (17, y17), (18, y18), (19, z19), (20, z20), (25, z25)] := fun y0 y1 y2 y4 y6 y15 y17 y18 y19 y20 y25 z4 z6 z19 z20 z25 => rfl
      refine W_to (tr _ _ _ _ _ _ _ _ _ _ _ _ _ _ _ _) ?_; clear tr
      refine at_seq rfl ?_
      refine rg rfl ?_
      refine Rq ?_
      have tr : ∀ y0 y1 y2 y4 y6 y15 y17 y18 y19 y20 y25 z0 : AV, trim [(20, z0), (0, y0), (1, y1), (2, y2), (4, y4), (6, y6), (15, y15), (17, y17), (18, y18), (19, y19), (20, y20), (25, y25)] [(0, y0), (1, y1), (2, y2), (4, y4), (6, y6), (15, y15), (17, y17), (18, y18), (19, y19), (20, y20), (25, y25)] = [(0, y0), (1, y1), (2, y2), (4, y4), (6, y6), (15, y15), (17, y17), (18, y18), (19, y19), (20, z0), (25, y25)] := fun y0 y1 y2 y4 y6 y15 y17 y18 y19 y20 y25 z0 => rfl
      refine R_nil (tr _ _ _ _ _ _ _ _ _ _ _ _) ?_; clear tr
      refine then_n ?_
      refine at_seq rfl ?_
      refine cdd (fun h3 => ?_) (fun h3 => ?_)
      · try simp only [decide_eq_true_eq, decide_eq_false_iff_not, Bool.not_eq_true', Bool.not_eq_false', beq_iff_eq, beq_eq_false_iff_ne, ne_eq] at h3
        refine at_skip rfl ?_
        refine then_n ?_
        refine at_seq rfl ?_
        refine at_block rfl ?_
        refine at_seq rfl ?_
        refine rg rfl ?_
        refine Rq ?_
        refine Rq ?_
        refine Rq ?_
        have tr : ∀ y0 y1 y2 y4 y6 y15 y17 y18 y19 y20 y25 z0 z1 z2 : AV, trim [(6, z2), (22, z1), (21, z0), (0, y0), (1, y1), (2, y2), (4, y4), (6, y6), (15, y15), (17, y17), (18, y18), (19, y19), (20, y20), (25, y25)] [(0, y0), (1, y1), (2, y2), (4, y4), (6, y6), (15, y15), (17, y17), (18, y18), (19, y19), (20, y20), (25, y25)] = [(0, y0), (1, y1), (2, y2), (4, y4), (6, z2), (15, y15), (17, y17), (18, y18), (19, y19), (20, y20), (25, y25)] := fun y0 y1 y2 y4 y6 y15 y17 y18 y19 y20 y25 z0 z1 z2 => rfl
        refine R_nil (tr _ _ _ _ _ _ _ _ _ _ _ _ _ _) ?_; clear tr
        refine then_n ?_
        refine at_seq rfl ?_
        refine rg rfl ?_
        refine Rq ?_
        refine Rq ?_
        refine Rq ?_
        have tr : ∀ y0 y1 y2 y4 y6 y15 y17 y18 y19 y20 y25 z0 z1 z2 : AV, trim [(25, z2), (24, z1), (23, z0), (0, y0), (1, y1), (2, y2), (4, y4), (6, y6), (15, y15), (17, y17), (18, y18), (19, y19), (20, y20), (25, y25)] [(0, y0), (1, y1), (2, y2), (4, y4), (6, y6), (15, y15), (17, y17), (18, y18), (19, y19), (20, y20), (25, y25)] = [(0, y0), (1, y1), (2, y2), (4, y4), (6, y6), (15, y15), (17, y17), (18, y18), (19, y19), (20, y20), (25, z2)] := fun y0 y1 y2 y4 y6 y15 y17 y18 y19 y20 y25 z0 z1 z2 => rfl
        refine R_nil (tr _ _ _ _ _ _ _ _ _ _ _ _ _ _) ?_; clear tr
        refine then_n ?_
        refine cdd (fun h4 => ?_) (fun h4 => ?_)
        · try simp only [decide_eq_true_eq, decide_eq_false_iff_not, Bool.not_eq_true', Bool.not_eq_false', beq_iff_eq, beq_eq_false_iff_ne, ne_eq] at h4
          refine at_seq rfl ?_
          refine rg rfl ?_
          refine Rq ?_
          have tr : ∀ y0 y1 y2 y4 y6 y15 y17 y18 y19 y20 y25 z0 : AV, trim [(4, z0), (0, y0), (1, y1), (2, y2), (4, y4), (6, y6), (15, y15), (17, y17), (18, y18), (19, y19), (20, y20), (25, y25)] [(0, y0), (1, y1), (2, y2), (4, y4), (6, y6), (15, y15), (17, y17), (18, y18), (19, y19), (20, y20), (25, y25)] = [(0, y0), (1, y1), (2, y2), (4, z0), (6, y6), (15, y15), (17, y17), (18, y18), (19, y19), (20, y20), (25, y25)] := fun y0 y1 y2 y4 y6 y15 y17 y18 y19 y20 y25 z0 => rfl
          refine R_nil (tr _ _ _ _ _ _ _ _ _ _ _ _) ?_; clear tr
          refine then_n ?_
          refine at_ret rfl ?_
          refine blk_r ?_
          refine then_r ?_
          refine then_r ?_
          refine blk_r ?_
          refine then_r ?_
          refine fpure ?_
          exact ⟨⟨_, rfl⟩, rfl⟩
        · try simp only [decide_eq_true_eq, decide_eq_false_iff_not, Bool.not_eq_true', Bool.not_eq_false', beq_iff_eq, beq_eq_false_iff_ne, ne_eq] at h4
          refine at_skip rfl ?_
          refine blk_n ?_
          refine then_n ?_
          refine rg rfl ?_
          refine Rq ?_
          refine Rq ?_
          have tr : ∀ y0 y1 y2 y4 y6 y15 y17 y18 y19 y20 y25 z0 z1 : AV, trim [(19, z1), (26, z0), (0, y0), (1, y1), (2, y2), (4, y4), (6, y6), (15, y15), (17, y17), (18, y18), (19, y19), (20, y20), (25, y25)] [(0, y0), (1, y1), (2, y2), (4, y4), (6, y6), (15, y15), (17, y17), (18, y18), (19, y19), (20, y20), (25, y25)] = [(0, y0), (1, y1), (2, y2), (4, y4), (6, y6), (15, y15), (17, y17), (18, y18), (19, z1), (20, y20), (25, y25)] := fun y0 y1 y2 y4 y6 y15 y17 y18 y19 y20 y25 z0 z1 => rfl
          refine R_nil (tr _ _ _ _ _ _ _ _ _ _ _ _ _) ?_; clear tr
          refine then_n ?_
          exact ⟨_, _, ⟨u + 1, _, _, _, _, rfl, rfl, rfl, by omega⟩, by rfl, by omega⟩
      · try simp only [decide_eq_true_eq, decide_eq_false_iff_not, Bool.not_eq_true', Bool.not_eq_false', beq_iff_eq, beq_eq_false_iff_ne, ne_eq] at h3
        refine at_exit rfl ?_
        refine then_x ?_
        refine then_x ?_
        refine blk_x ?_
        refine then_n ?_
        refine at_seq rfl ?_
        refine rg rfl ?_
        refine Rq ?_
        have tr : ∀ y0 y1 y2 y4 y6 y15 y17 y18 y19 y20 y25 z0 : AV, trim [(4, z0), (0, y0), (1, y1), (2, y2), (4, y4), (6, y6), (15, y15), (17, y17), (18, y18), (19, y19), (20, y20), (25, y25)] [(0, y0), (1, y1), (2, y2), (4, y4), (6, y6), (15, y15), (17, y17), (18, y18), (19, y19), (20, y20), (25, y25)] = [(0, y0), (1, y1), (2, y2), (4, z0), (6, y6), (15, y15), (17, y17), (18, y18), (19, y19), (20, y20), (25, y25)] := fun y0 y1 y2 y4 y6 y15 y17 y18 y19 y20 y25 z0 => rfl
        refine R_nil (tr _ _ _ _ _ _ _ _ _ _ _ _) ?_; clear tr
        refine then_n ?_
        refine at_ret rfl ?_
        refine fpure ?_
        exact ⟨⟨_, rfl⟩, rfl⟩

theorem rchecks_ok (rows : Tb) (per balls : Int) (l : List Stp) : ACall sig 0 9 [.agg [rowsAV rows, AV.i per, AV.i balls, stopsAV l]] [] fun r _ => r = .v (.bool true) := by
  refine ACall_pure (fa := fa9) rfl rfl rfl rfl ?_
  have tr : ∀ a0 : AV, env0 fa9.keep [a0] = [(0, a0), (1, .any), (2, .any), (3, .any), (4, .any), (5, .any), (6, .any), (8, .any), (14, .any)] := fun a0 => rfl
  refine W_to (tr _) ?_; clear tr
  refine at_seq rfl ?_
  refine rg rfl ?_
  refine R_box rfl (by simp (disch := first | omega | (simp only [List.length_map, List.length_append, List.length_set, List.length_cons, List.length_nil, List.length_take, List.length_drop]; omega)) only [go_sem, ↓reduceIte, Nat.reduceEqDiff, reduceCtorEq]; rfl) rfl rfl ?_
  refine Rq ?_
  have tr : ∀ y0 y1 y2 y3 y4 y5 y6 y8 y14 z0 z1 : AV, trim [(2, z1), (1, z0), (0, y0), (1, y1), (2, y2), (3, y3), (4, y4), (5, y5), (6, y6), (8, y8), (14, y14)] [(0, y0), (1, y1), (2, y2), (3, y3), (4, y4), (5, y5), (6, y6), (8, y8), (14, y14)] = [(0, y0), (1, z0), (2, z1), (3, y3), (4, y4), (5, y5), (6, y6), (8, y8), (14, y14)] := fun y0 y1 y2 y3 y4 y5 y6 y8 y14 z0 z1 => rfl
  refine R_nil (tr _ _ _ _ _ _ _ _ _ _ _) ?_; clear tr
  refine then_n ?_
  refine at_seq rfl ?_
  refine at_seq rfl ?_
  refine rg rfl ?_
  refine Rcall ?_
  refine ACall_eval 300 (awake_d _ _ _ _ _) ?_
  refine Rq ?_
  have tr : ∀ y0 y1 y2 y3 y4 y5 y6 y8 y14 z0 z1 : AV, trim [(8, z1), (7, z0), (0, y0), (1, y1), (2, y2), (3, y3), (4, y4), (5, y5), (6, y6), (8, y8), (14, y14)] [(0, y0), (1, y1), (2, y2), (3, y3), (4, y4), (5, y5), (6, y6), (8, y8), (14, y14)] = [(0, y0), (1, y1), (2, y2), (3, y3), (4, y4), (5, y5), (6, y6), (8, z1), (14, y14)] := fun y0 y1 y2 y3 y4 y5 y6 y8 y14 z0 z1 => rfl
  refine R_nil (tr _ _ _ _ _ _ _ _ _ _ _) ?_; clear tr
  refine then_n ?_
  refine cdf ?_
  refine at_skip rfl ?_
  refine then_n ?_
  refine at_seq rfl ?_
  refine at_seq rfl ?_
  refine rg rfl ?_
  refine Rq ?_
  refine Rq ?_
  refine Rq ?_
  refine Rq ?_
  refine Rcall ?_
  refine ACall_mono (small_ok _ _ rows l) ?_
  rintro r H6 ⟨⟨b, rfl⟩, rfl⟩
  refine Rq ?_
  have tr : ∀ y0 y1 y2 y3 y4 y5 y6 y8 y14 z0 z1 z2 z3 z4 z5 : AV, trim [(14, z5), (13, z4), (12, z3), (11, z2), (10, z1), (9, z0), (0, y0), (1, y1), (2, y2), (3, y3), (4, y4), (5, y5), (6, y6), (8, y8), (14, y14)] [(0, y0), (1, y1), (2, y2), (3, y3), (4, y4), (5, y5), (6, y6), (8, y8), (14, y14)] = [(0, y0), (1, y1), (2, y2), (3, y3), (4, y4), (5, y5), (6, y6), (8, y8), (14, z5)] := fun y0 y1 y2 y3 y4 y5 y6 y8 y14 z0 z1 z2 z3 z4 z5 => rfl
  refine R_nil (tr _ _ _ _ _ _ _ _ _ _ _ _ _ _ _) ?_; clear tr
  refine then_n ?_
  refine cdd (fun h1 => ?_) (fun h1 => ?_)
  · try simp only [decide_eq_true_eq, decide_eq_false_iff_not, Bool.not_eq_true', Bool.not_eq_false', beq_iff_eq, beq_eq_false_iff_ne, ne_eq] at h1
    refine at_seq rfl ?_
    refine rg rfl ?_
    refine Rq ?_
    have tr : ∀ y0 y1 y2 y3 y4 y5 y6 y8 y14 z0 : AV, trim [(2, z0), (0, y0), (1, y1), (2, y2), (3, y3), (4, y4), (5, y5), (6, y6), (8, y8), (14, y14)] [(0, y0), (1, y1), (2, y2), (3, y3), (4, y4), (5, y5), (6, y6), (8, y8), (14, y14)] = [(0, y0), (1, y1), (2, z0), (3, y3), (4, y4), (5, y5), (6, y6), (8, y8), (14, y14)] := fun y0 y1 y2 y3 y4 y5 y6 y8 y14 z0 => rfl
    refine R_nil (tr _ _ _ _ _ _ _ _ _ _) ?_; clear tr
    refine then_n ?_
    refine at_ret rfl ?_
    refine then_r ?_
    refine fpure ?_
    first | rfl | simp
  · try simp only [decide_eq_true_eq, decide_eq_false_iff_not, Bool.not_eq_true', Bool.not_eq_false', beq_iff_eq, beq_eq_false_iff_ne, ne_eq] at h1
    refine at_skip rfl ?_
    refine then_n ?_
    refine at_seq rfl ?_
    refine rg rfl ?_
    refine Rq ?_
    refine Rq ?_
    refine Rq ?_
    refine Rq ?_
    refine Rq ?_
    refine Rq ?_
    refine Rq ?_
    refine Rq ?_
    refine Rcall ?_
    refine ACall_eq (left_ok _ _ rows per balls l) ?_
    refine Rq ?_
    refine Rq ?_
    refine Rq ?_
    refine Rq ?_
    refine Rq ?_
    have tr : ∀ y0 y1 y2 y3 y4 y5 y6 y8 y14 z0 z1 z2 z3 z4 z5 z6 z7 z8 z9 z10 z11 z12 z13 : AV, trim [(4, z13), (3, z12), (26, z11), (25, z10), (15, z9), (24, z8), (23, z7), (22, z6), (21, z5), (20, z4), (19, z3), (18, z2), (17, z1), (16, z0), (0, y0), (1, y1), (2, y2), (3, y3), (4, y4), (5, y5), (6, y6), (8, y8), (14, y14)] [(0, y0), (1, y1), (2, y2), (3, y3), (4, y4), (5, y5), (6, y6), (8, y8), (14, y14)] = [(0, y0), (1, y1), (2, y2), (3, z12), (4, z13), (5, y5), (6, y6), (8, y8), (14, y14)] := fun y0 y1 y2 y3 y4 y5 y6 y8 y14 z0 z1 z2 z3 z4 z5 z6 z7 z8 z9 z10 z11 z12 z13 => rfl
    refine R_nil (tr _ _ _ _ _ _ _ _ _ _ _ _ _ _ _ _ _ _ _ _ _ _ _) ?_; clear tr
    refine then_n ?_
    refine at_seq rfl ?_
    refine rg rfl ?_
    refine Rq ?_
    refine Rq ?_
    refine Rq ?_
    refine Rq ?_
    refine Rq ?_
    refine Rq ?_
    refine Rq ?_
    refine Rq ?_
    refine Rcall ?_
    refine ACall_eq (rleft_ok _ _ rows per balls l) ?_
    refine Rq ?_
    refine Rq ?_
    refine Rq ?_
    refine Rq ?_
    refine Rq ?_
    have tr : ∀ y0 y1 y2 y3 y4 y5 y6 y8 y14 z0 z1 z2 z3 z4 z5 z6 z7 z8 z9 z10 z11 z12 z13 : AV, trim [(6, z13), (5, z12), (38, z11), (37, z10), (27, z9), (36, z8), (35, z7), (34, z6), (33, z5), (32, z4), (31, z3), (30, z2), (29, z1), (28, z0), (0, y0), (1, y1), (2, y2), (3, y3), (4, y4), (5, y5), (6, y6), (8, y8), (14, y14)] [(0, y0), (1, y1), (2, y2), (3, y3), (4, y4), (5, y5), (6, y6), (8, y8), (14, y14)] = [(0, y0), (1, y1), (2, y2), (3, y3), (4, y4), (5, z12), (6, z13), (8, y8), (14, y14)] := fun y0 y1 y2 y3 y4 y5 y6 y8 y14 z0 z1 z2 z3 z4 z5 z6 z7 z8 z9 z10 z11 z12 z13 => rfl
    refine R_nil (tr _ _ _ _ _ _ _ _ _ _ _ _ _ _ _ _ _ _ _ _ _ _ _) ?_; clear tr
    refine then_n ?_
    refine at_seq rfl ?_
    refine rd rfl rfl ?_
    refine Qq ?_
    refine Qq ?_
    refine Qq ?_
    refine Qq ?_
    refine Qp_split (fun h2 => ?_) (fun h2 => ?_)
    · try simp only [decide_eq_true_eq, decide_eq_false_iff_not, Bool.not_eq_true', Bool.not_eq_false', beq_iff_eq, beq_eq_false_iff_ne, ne_eq] at h2
      refine Qy ?_
      refine Qq ?_
      refine Qy ?_
      refine Qq ?_
      refine Qy ?_
      refine Qq ?_
      refine Qq ?_
      refine Qq ?_
      refine Qp_split (fun h3 => ?_) (fun h3 => ?_)
      · try simp only [decide_eq_true_eq, decide_eq_false_iff_not, Bool.not_eq_true', Bool.not_eq_false', beq_iff_eq, beq_eq_false_iff_ne, ne_eq] at h3
        refine Qy ?_
        refine Qq ?_
        refine Qy ?_
        refine Qq ?_
        refine Qy ?_
        refine Qq ?_
        refine Qy ?_
        refine Qq ?_
        refine Qy ?_
        refine Qq ?_
        refine Qy ?_
        refine Qq ?_
        refine Qy ?_
        refine Qq ?_
        refine Qy ?_
        refine Qq ?_
        refine Qy ?_
        refine Qcall ?_
        refine ACall_eq (chk_ok _ _ rows per balls l) ⟨rfl, ?_⟩
        refine Qy ?_
        refine Qq ?_
        refine Qy ?_
        refine Qq ?_
        refine Qy ?_
        refine Qq ?_
        refine Qy ?_
        refine Qq ?_
        refine Qy ?_
        refine Qq ?_
        refine Qy ?_
        refine Qq ?_
        refine Qy ?_
        refine Qq ?_
        refine Qy ?_
        refine Qq ?_
        refine Qy ?_
        refine Qcall ?_
        refine ACall_eq (rchk_ok _ _ rows per balls l) ⟨rfl, ?_⟩
        refine Qy ?_
        refine Qq ?_
        refine Qq ?_
        refine Qq ?_
        refine Q_nil ?_
        have tr : ∀ y0 y1 y2 y3 y4 y5 y6 y8 y14 z0 z1 z2 z3 z4 z5 z6 z7 z8 z9 z10 z11 z12 z13 z14 z15 z16 z17 z18 z19 z20 z21 z22 z23 z24 z25 z26 z27 z28 z29 : AV, trim [(2, z29), (67, z28), (66, z27), (65, z26), (64, z25), (63, z24), (62, z23), (61, z22), (60, z21), (59, z20), (58, z19), (57, z18), (56, z17), (55, z16), (54, z15), (53, z14), (52, z13), (51, z12), (50, z11), (49, z10), (48, z9), (47, z8), (46, z7), (45, z6), (44, z5), (43, z4), (42, z3), (41, z2), (40, z1), (39, z0), (0, y0), (1, y1), (2, y2), (3, y3), (4, y4), (5, y5), (6, y6), (8, y8), (14, y14)] [(0, y0), (1, y1), (2, y2), (3, y3), (4, y4), (5, y5), (6, y6), (8, y8), (14, y14)] = [(0, y0), (1, y1), (2, z29), (3, y3), (4, y4), (5, y5), (6, y6), (8, y8), (14, y14)] := fun y0 y1 y2 y3 y4 y5 y6 y8 y14 z0 z1 z2 z3 z4 z5 z6 z7 z8 z9 z10 z11 z12 z13 z14 z15 z16 z17 z18 z19 z20 z21 z22 z23 z24 z25 z26 z27 z28 z29 => rfl
        refine R_nil (tr _ _ _ _ _ _ _ _ _ _ _ _ _ _ _ _ _ _ _ _ _ _ _ _ _ _ _ _ _ _ _ _ _ _ _ _ _ _ _) ?_; clear tr
        refine then_n ?_
        refine at_ret rfl ?_
        refine fpure ?_
        first | rfl | simp
      · try simp only [decide_eq_true_eq, decide_eq_false_iff_not, Bool.not_eq_true', Bool.not_eq_false', beq_iff_eq, beq_eq_false_iff_ne, ne_eq] at h3
        first | omega | exact absurd trivial (by assumption)
    · try simp only [decide_eq_true_eq, decide_eq_false_iff_not, Bool.not_eq_true', Bool.not_eq_false', beq_iff_eq, beq_eq_false_iff_ne, ne_eq] at h2
      first | omega | exact absurd trivial (by assumption)

theorem rtakes_ok (rows : Tb) (per : Int) (s : Stp) : ACall sig 0 10 [.agg [rowsAV rows], AV.i per, .agg (stC s)] [] fun r _ => r = .v (.bool true) := by
  refine ACall_pure (fa := fa10) rfl rfl rfl rfl ?_
  have tr : ∀ a0 a1 a2 : AV, env0 fa10.keep [a0, a1, a2] = [(0, a0), (1, a1), (2, a2), (3, .any), (5, .any), (6, .any), (7, .any), (8, .any), (9, .any), (10, .any), (12, .any), (15, .any)] := fun a0 a1 a2 => rfl
  refine W_to (tr _ _ _) ?_; clear tr
  refine at_seq rfl ?_
  refine rg rfl ?_
  refine R_box rfl (by simp (disch := first | omega | (simp only [List.length_map, List.length_append, List.length_set, List.length_cons, List.length_nil, List.length_take, List.length_drop]; omega)) only [go_sem, ↓reduceIte, Nat.reduceEqDiff, reduceCtorEq]; rfl) rfl rfl ?_
  refine R_box rfl (by simp (disch := first | omega | (simp only [List.length_map, List.length_append, List.length_set, List.length_cons, List.length_nil, List.length_take, List.length_drop]; omega)) only [go_sem, ↓reduceIte, Nat.reduceEqDiff, reduceCtorEq]; rfl) rfl rfl ?_
  refine Rq ?_
  have tr : ∀ y0 y1 y2 y3 y5 y6 y7 y8 y9 y10 y12 y15 z0 z1 z2 : AV, trim [(6, z2), (5, z1), (3, z0), (0, y0), (1, y1), (2, y2), (3, y3), (5, y5), (6, y6), (7, y7), (8, y8), (9, y9), (10, y10), (12, y12), (15, y15)] [(0, y0), (1, y1), (2, y2), (3, y3), (5, y5), (6, y6), (7, y7), (8, y8), (9, y9), (10, y10), (12, y12), (15, y15)] = [(0, y0), (1, y1), (2, y2), (3, z0), (5, z1), (6, z2), (7, y7), (8, y8), (9, y9), (10, y10), (12, y12), (15, y15)] := fun y0 y1 y2 y3 y5 y6 y7 y8 y9 y10 y12 y15 z0 z1 z2 => rfl
  refine R_nil (tr _ _ _ _ _ _ _ _ _ _ _ _ _ _ _) ?_; clear tr
  refine then_n ?_
  refine at_seq rfl ?_
  refine at_seq rfl ?_
  refine rg rfl ?_
  refine Rcall ?_
  refine ACall_eval 300 (awake_t _ _ _ _ _) ?_
  refine Rq ?_
  have tr : ∀ y0 y1 y2 y3 y5 y6 y7 y8 y9 y10 y12 y15 z0 z1 : AV, trim [(12, z1), (11, z0), (0, y0), (1, y1), (2, y2), (3, y3), (5, y5), (6, y6), (7, y7), (8, y8), (9, y9), (10, y10), (12, y12), (15, y15)] [(0, y0), (1, y1), (2, y2), (3, y3), (5, y5), (6, y6), (7, y7), (8, y8), (9, y9), (10, y10), (12, y12), (15, y15)] = [(0, y0), (1, y1), (2, y2), (3, y3), (5, y5), (6, y6), (7, y7), (8, y8), (9, y9), (10, y10), (12, z1), (15, y15)] := fun y0 y1 y2 y3 y5 y6 y7 y8 y9 y10 y12 y15 z0 z1 => rfl
  refine R_nil (tr _ _ _ _ _ _ _ _ _ _ _ _ _ _) ?_; clear tr
  refine then_n ?_
  refine cdf ?_
  refine at_skip rfl ?_
  refine then_n ?_
  refine at_seq rfl ?_
  refine at_seq rfl ?_
  refine rg rfl ?_
  refine Rq ?_
  refine Rcall ?_
  refine ACall_mono (small_nil _ _ rows) ?_
  rintro r H6 ⟨⟨b, rfl⟩, rfl⟩
  refine Rq ?_
  have tr : ∀ y0 y1 y2 y3 y5 y6 y7 y8 y9 y10 y12 y15 z0 z1 z2 : AV, trim [(15, z2), (14, z1), (13, z0), (0, y0), (1, y1), (2, y2), (3, y3), (5, y5), (6, y6), (7, y7), (8, y8), (9, y9), (10, y10), (12, y12), (15, y15)] [(0, y0), (1, y1), (2, y2), (3, y3), (5, y5), (6, y6), (7, y7), (8, y8), (9, y9), (10, y10), (12, y12), (15, y15)] = [(0, y0), (1, y1), (2, y2), (3, y3), (5, y5), (6, y6), (7, y7), (8, y8), (9, y9), (10, y10), (12, y12), (15, z2)] := fun y0 y1 y2 y3 y5 y6 y7 y8 y9 y10 y12 y15 z0 z1 z2 => rfl
  refine R_nil (tr _ _ _ _ _ _ _ _ _ _ _ _ _ _ _) ?_; clear tr
  refine then_n ?_
  refine cdd (fun h1 => ?_) (fun h1 => ?_)
  · try simp only [decide_eq_true_eq, decide_eq_false_iff_not, Bool.not_eq_true', Bool.not_eq_false', beq_iff_eq, beq_eq_false_iff_ne, ne_eq] at h1
    refine at_seq rfl ?_
    refine rg rfl ?_
    refine Rq ?_
    have tr : ∀ y0 y1 y2 y3 y5 y6 y7 y8 y9 y10 y12 y15 z0 : AV, trim [(6, z0), (0, y0), (1, y1), (2, y2), (3, y3), (5, y5), (6, y6), (7, y7), (8, y8), (9, y9), (10, y10), (12, y12), (15, y15)] [(0, y0), (1, y1), (2, y2), (3, y3), (5, y5), (6, y6), (7, y7), (8, y8), (9, y9), (10, y10), (12, y12), (15, y15)] = [(0, y0), (1, y1), (2, y2), (3, y3), (5, y5), (6, z0), (7, y7), (8, y8), (9, y9), (10, y10), (12, y12), (15, y15)] := fun y0 y1 y2 y3 y5 y6 y7 y8 y9 y10 y12 y15 z0 => rfl
    refine R_nil (tr _ _ _ _ _ _ _ _ _ _ _ _ _) ?_; clear tr
    refine then_n ?_
    refine at_ret rfl ?_
    refine then_r ?_
    refine fpure ?_
    first | rfl | simp
  · try simp only [decide_eq_true_eq, decide_eq_false_iff_not, Bool.not_eq_true', Bool.not_eq_false', beq_iff_eq, beq_eq_false_iff_ne, ne_eq] at h1
    refine at_skip rfl ?_
    refine then_n ?_
    refine at_seq rfl ?_
    refine rg rfl ?_
    refine Rq ?_
    refine Rq ?_
    refine Rq ?_
    refine Rcall ?_
    refine ACall_eq (lost_ok _ _ rows per s) ?_
    refine Rq ?_
    refine Rq ?_
    refine Rq ?_
    refine Rq ?_
    refine Rq ?_
    have tr : ∀ y0 y1 y2 y3 y5 y6 y7 y8 y9 y10 y12 y15 z0 z1 z2 z3 z4 z5 z6 z7 z8 : AV, trim [(8, z8), (7, z7), (22, z6), (21, z5), (16, z4), (20, z3), (19, z2), (18, z1), (17, z0), (0, y0), (1, y1), (2, y2), (3, y3), (5, y5), (6, y6), (7, y7), (8, y8), (9, y9), (10, y10), (12, y12), (15, y15)] [(0, y0), (1, y1), (2, y2), (3, y3), (5, y5), (6, y6), (7, y7), (8, y8), (9, y9), (10, y10), (12, y12), (15, y15)] = [(0, y0), (1, y1), (2, y2), (3, y3), (5, y5), (6, y6), (7, z7), (8, z8), (9, y9), (10, y10), (12, y12), (15, y15)] := fun y0 y1 y2 y3 y5 y6 y7 y8 y9 y10 y12 y15 z0 z1 z2 z3 z4 z5 z6 z7 z8 => rfl
    refine R_nil (tr _ _ _ _ _ _ _ _ _ _ _ _ _ _ _ _ _ _ _ _ _) ?_; clear tr
    refine then_n ?_
    refine at_seq rfl ?_
    refine rg rfl ?_
    refine Rq ?_
    refine Rq ?_
    refine Rq ?_
    refine Rcall ?_
    refine ACall_eq (rlost_ok _ _ rows per s) ?_
    refine Rq ?_
    refine Rq ?_
    refine Rq ?_
    refine Rq ?_
    refine Rq ?_
    have tr : ∀ y0 y1 y2 y3 y5 y6 y7 y8 y9 y10 y12 y15 z0 z1 z2 z3 z4 z5 z6 z7 z8 : AV, trim [(10, z8), (9, z7), (29, z6), (28, z5), (23, z4), (27, z3), (26, z2), (25, z1), (24, z0), (0, y0), (1, y1), (2, y2), (3, y3), (5, y5), (6, y6), (7, y7), (8, y8), (9, y9), (10, y10), (12, y12), (15, y15)] [(0, y0), (1, y1), (2, y2), (3, y3), (5, y5), (6, y6), (7, y7), (8, y8), (9, y9), (10, y10), (12, y12), (15, y15)] = [(0, y0), (1, y1), (2, y2), (3, y3), (5, y5), (6, y6), (7, y7), (8, y8), (9, z7), (10, z8), (12, y12), (15, y15)] := fun y0 y1 y2 y3 y5 y6 y7 y8 y9 y10 y12 y15 z0 z1 z2 z3 z4 z5 z6 z7 z8 => rfl
    refine R_nil (tr _ _ _ _ _ _ _ _ _ _ _ _ _ _ _ _ _ _ _ _ _) ?_; clear tr
    refine then_n ?_
    refine at_seq rfl ?_
    refine rg rfl ?_
    refine Rq ?_
    refine Rq ?_
    refine Rq ?_
    refine Rq ?_
    refine Rp_split (fun h2 => ?_) (fun h2 => ?_)
    · try simp only [decide_eq_true_eq, decide_eq_false_iff_not, Bool.not_eq_true', Bool.not_eq_false', beq_iff_eq, beq_eq_false_iff_ne, ne_eq] at h2
      refine Ry ?_
      refine Rq ?_
      refine Ry ?_
      refine Rq ?_
      refine Ry ?_
      refine Rq ?_
      refine Rq ?_
      refine Rq ?_
      have tr : ∀ y0 y1 y2 y3 y5 y6 y7 y8 y9 y10 y12 y15 z0 z1 z2 z3 z4 z5 z6 z7 z8 : AV, trim [(6, z8), (37, z7), (36, z6), (35, z5), (34, z4), (33, z3), (32, z2), (31, z1), (30, z0), (0, y0), (1, y1), (2, y2), (3, y3), (5, y5), (6, y6), (7, y7), (8, y8), (9, y9), (10, y10), (12, y12), (15, y15)] [(0, y0), (1, y1), (2, y2), (3, y3), (5, y5), (6, y6), (7, y7), (8, y8), (9, y9), (10, y10), (12, y12), (15, y15)] = [(0, y0), (1, y1), (2, y2), (3, y3), (5, y5), (6, z8), (7, y7), (8, y8), (9, y9), (10, y10), (12, y12), (15, y15)] := fun y0 y1 y2 y3 y5 y6 y7 y8 y9 y10 y12 y15 z0 z1 z2 z3 z4 z5 z6 z7 z8 => rfl
      refine R_nil (tr _ _ _ _ _ _ _ _ _ _ _ _ _ _ _ _ _ _ _ _ _) ?_; clear tr
      refine then_n ?_
      refine at_ret rfl ?_
      refine fpure ?_
      first | rfl | simp
    · try simp only [decide_eq_true_eq, decide_eq_false_iff_not, Bool.not_eq_true', Bool.not_eq_false', beq_iff_eq, beq_eq_false_iff_ne, ne_eq] at h2
      first | omega | exact absurd trivial (by assumption)

end Go.Proofs.Ytaoondlakhocnaa
