/-
  Walks of chapters 37, 39 and 40. The steps are written by program (walk.py).
-/
import Derived.Test.YtaoondlakhocnaaRC
set_option linter.unusedSimpArgs false
set_option linter.unusedVariables false
set_option maxHeartbeats 40000000
set_option maxRecDepth 4000
namespace Go.Proofs.Ytaoondlakhocnaa
open Go Go.Am

theorem rends_ok (lim : Nat) (H : Heap) (rows : List (List Int)) :
    ACall sig lim 67 [.agg [rowsAV rows]] H fun r H' => r = AV.i (rawS rows) ∧ H' = H := by
  refine ACall_pure (fa := fa67) rfl rfl rfl rfl ?_
  have tr : ∀ a0 : AV, env0 fa67.keep [a0] = [(0, a0), (1, .any), (2, .any), (3, .any), (5, .any), (9, .any), (14, .any), (15, .any), (16, .any), (17, .any), (21, .any), (33, .any)] := fun a0 => rfl
  refine W_to (tr _) ?_; clear tr
  refine at_seq rfl ?_
  refine rg rfl ?_
  refine R_box rfl (by simp (disch := first | omega | (simp only [List.length_map, List.length_append, List.length_set, List.length_cons, List.length_nil, List.length_take, List.length_drop]; omega)) only [go_sem, ↓reduceIte, Nat.reduceEqDiff, reduceCtorEq]; rfl) rfl rfl ?_
  refine Rq ?_
  have tr : ∀ y0 y1 y2 y3 y5 y9 y14 y15 y16 y17 y21 y33 z0 z1 : AV, trim [(2, z1), (1, z0), (0, y0), (1, y1), (2, y2), (3, y3), (5, y5), (9, y9), (14, y14), (15, y15), (16, y16), (17, y17), (21, y21), (33, y33)] [(0, y0), (1, y1), (2, y2), (3, y3), (5, y5), (9, y9), (14, y14), (15, y15), (16, y16), (17, y17), (21, y21), (33, y33)] = [(0, y0), (1, z0), (2, z1), (3, y3), (5, y5), (9, y9), (14, y14), (15, y15), (16, y16), (17, y17), (21, y21), (33, y33)] := fun y0 y1 y2 y3 y5 y9 y14 y15 y16 y17 y21 y33 z0 z1 => rfl
  refine R_nil (tr _ _ _ _ _ _ _ _ _ _ _ _ _ _) ?_; clear tr
  refine then_n ?_
  refine at_seq rfl ?_
  refine at_seq rfl ?_
  refine rg rfl ?_
  refine Rq ?_
  refine Rcall ?_
  refine ACall_eq (rshape_ok _ _ _) ?_
  refine Rq ?_
  have tr : ∀ y0 y1 y2 y3 y5 y9 y14 y15 y16 y17 y21 y33 z0 z1 z2 : AV, trim [(3, z2), (7, z1), (6, z0), (0, y0), (1, y1), (2, y2), (3, y3), (5, y5), (9, y9), (14, y14), (15, y15), (16, y16), (17, y17), (21, y21), (33, y33)] [(0, y0), (1, y1), (2, y2), (3, y3), (5, y5), (9, y9), (14, y14), (15, y15), (16, y16), (17, y17), (21, y21), (33, y33)] = [(0, y0), (1, y1), (2, y2), (3, z2), (5, y5), (9, y9), (14, y14), (15, y15), (16, y16), (17, y17), (21, y21), (33, y33)] := fun y0 y1 y2 y3 y5 y9 y14 y15 y16 y17 y21 y33 z0 z1 z2 => rfl
  refine R_nil (tr _ _ _ _ _ _ _ _ _ _ _ _ _ _ _) ?_; clear tr
  refine then_n ?_
  refine at_seq rfl ?_
  refine rg rfl ?_
  refine Rq ?_
  refine Rq ?_
  have tr : ∀ y0 y1 y2 y3 y5 y9 y14 y15 y16 y17 y21 y33 z0 z1 : AV, trim [(9, z1), (8, z0), (0, y0), (1, y1), (2, y2), (3, y3), (5, y5), (9, y9), (14, y14), (15, y15), (16, y16), (17, y17), (21, y21), (33, y33)] [(0, y0), (1, y1), (2, y2), (3, y3), (5, y5), (9, y9), (14, y14), (15, y15), (16, y16), (17, y17), (21, y21), (33, y33)] = [(0, y0), (1, y1), (2, y2), (3, y3), (5, y5), (9, z1), (14, y14), (15, y15), (16, y16), (17, y17), (21, y21), (33, y33)] := fun y0 y1 y2 y3 y5 y9 y14 y15 y16 y17 y21 y33 z0 z1 => rfl
  refine R_nil (tr _ _ _ _ _ _ _ _ _ _ _ _ _ _) ?_; clear tr
  refine then_n ?_
  refine cdd (fun h1 => ?_) (fun h1 => ?_)
  · try simp only [decide_eq_true_eq, decide_eq_false_iff_not, Bool.not_eq_true', Bool.not_eq_false', beq_iff_eq, beq_eq_false_iff_ne, ne_eq] at h1
    refine at_seq rfl ?_
    refine rg rfl ?_
    refine Rq ?_
    refine Rq ?_
    have tr : ∀ y0 y1 y2 y3 y5 y9 y14 y15 y16 y17 y21 y33 z0 z1 : AV, trim [(2, z1), (10, z0), (0, y0), (1, y1), (2, y2), (3, y3), (5, y5), (9, y9), (14, y14), (15, y15), (16, y16), (17, y17), (21, y21), (33, y33)] [(0, y0), (1, y1), (2, y2), (3, y3), (5, y5), (9, y9), (14, y14), (15, y15), (16, y16), (17, y17), (21, y21), (33, y33)] = [(0, y0), (1, y1), (2, z1), (3, y3), (5, y5), (9, y9), (14, y14), (15, y15), (16, y16), (17, y17), (21, y21), (33, y33)] := fun y0 y1 y2 y3 y5 y9 y14 y15 y16 y17 y21 y33 z0 z1 => rfl
    refine R_nil (tr _ _ _ _ _ _ _ _ _ _ _ _ _ _) ?_; clear tr
    refine then_n ?_
    refine at_ret rfl ?_
    refine then_r ?_
    refine fpure ?_
    refine ⟨?_, rfl⟩
    rw [rawS, if_pos h1]
  · try simp only [decide_eq_true_eq, decide_eq_false_iff_not, Bool.not_eq_true', Bool.not_eq_false', beq_iff_eq, beq_eq_false_iff_ne, ne_eq] at h1
    refine at_skip rfl ?_
    refine then_n ?_
    refine at_seq rfl ?_
    refine at_seq rfl ?_
    refine rg rfl ?_
    obtain ⟨g2, g91, g1, g10, gl, gr⟩ := shaped_of h1
    have gl1 := gl (rows.length - 1) (by omega)
    refine Rq ?_
    refine Rq ?_
    refine Rq ?_
    refine Rq ?_
    refine Rq ?_
    refine Rq ?_
    have tr : ∀ y0 y1 y2 y3 y5 y9 y14 y15 y16 y17 y21 y33 z0 z1 z2 z3 z4 z5 : AV, trim [(16, z5), (15, z4), (14, z3), (13, z2), (12, z1), (11, z0), (0, y0), (1, y1), (2, y2), (3, y3), (5, y5), (9, y9), (14, y14), (15, y15), (16, y16), (17, y17), (21, y21), (33, y33)] [(0, y0), (1, y1), (2, y2), (3, y3), (5, y5), (9, y9), (14, y14), (15, y15), (16, y16), (17, y17), (21, y21), (33, y33)] = [(0, y0), (1, y1), (2, y2), (3, y3), (5, y5), (9, y9), (14, z3), (15, z4), (16, z5), (17, y17), (21, y21), (33, y33)] := fun y0 y1 y2 y3 y5 y9 y14 y15 y16 y17 y21 y33 z0 z1 z2 z3 z4 z5 => rfl
    refine R_nil (tr _ _ _ _ _ _ _ _ _ _ _ _ _ _ _ _ _ _) ?_; clear tr
    refine then_n ?_
    refine at_block rfl ?_
    refine loop_n rfl (fun mm kv H' => ∃ w : Nat, ∃ x2 x5 x17 x21 : AV, (kv = [(2, x2), (5, x5), (16, AV.i w), (17, x17), (21, x21)]) ∧ (mm = (gt rows 0).length - w) ∧ (H' = H ++ [some [rowsAV rows]]) ∧ (w ≤ (gt rows 0).length) ∧ (∀ j, j < w → gt (gt rows 0) j = 0)) ⟨0, _, _, _, _, rfl, rfl, rfl, by omega, by intro i hi; omega⟩ (by rfl) ?_
    rintro mm kv H' ⟨w, x2, x5, x17, x21, rfl, rfl, rfl, hw, hz⟩
    have tr : ∀ y0 y1 y2 y3 y5 y9 y14 y15 y16 y17 y21 y33 z2 z5 z16 z17 z21 : AV, upd [(0, y0), (1, y1), (2, y2), (3, y3), (5, y5), (9, y9), (14, y14), (15, y15), (16, y16), (17, y17), (21, y21), (33, y33)] [(2, z2), (5, z5), (16, z16), (17, z17), (21, z21)] = [(0, y0), (1, y1), (2, z2), (3, y3), (5, z5), (9, y9), (14, y14), (15, y15), (16, z16), (17, z17), (21, z21), (33, y33)] := fun y0 y1 y2 y3 y5 y9 y14 y15 y16 y17 y21 y33 z2 z5 z16 z17 z21 => rfl
    refine W_to (tr _ _ _ _ _ _ _ _ _ _ _ _ _ _ _ _ _) ?_; clear tr
    refine at_seq rfl ?_
    refine rg rfl ?_
    refine Rq ?_
    have tr : ∀ y0 y1 y2 y3 y5 y9 y14 y15 y16 y17 y21 y33 z0 : AV, trim [(17, z0), (0, y0), (1, y1), (2, y2), (3, y3), (5, y5), (9, y9), (14, y14), (15, y15), (16, y16), (17, y17), (21, y21), (33, y33)] [(0, y0), (1, y1), (2, y2), (3, y3), (5, y5), (9, y9), (14, y14), (15, y15), (16, y16), (17, y17), (21, y21), (33, y33)] = [(0, y0), (1, y1), (2, y2), (3, y3), (5, y5), (9, y9), (14, y14), (15, y15), (16, y16), (17, z0), (21, y21), (33, y33)] := fun y0 y1 y2 y3 y5 y9 y14 y15 y16 y17 y21 y33 z0 => rfl
    refine R_nil (tr _ _ _ _ _ _ _ _ _ _ _ _ _) ?_; clear tr
    refine then_n ?_
    refine at_seq rfl ?_
    refine cdd (fun h2 => ?_) (fun h2 => ?_)
    · try simp only [decide_eq_true_eq, decide_eq_false_iff_not, Bool.not_eq_true', Bool.not_eq_false', beq_iff_eq, beq_eq_false_iff_ne, ne_eq] at h2
      refine at_skip rfl ?_
      refine then_n ?_
      refine at_seq rfl ?_
      refine at_block rfl ?_
      refine at_seq rfl ?_
      refine rg rfl ?_
      refine Rq ?_
      refine Rq ?_
      refine Rq ?_
      have tr : ∀ y0 y1 y2 y3 y5 y9 y14 y15 y16 y17 y21 y33 z0 z1 z2 : AV, trim [(5, z2), (19, z1), (18, z0), (0, y0), (1, y1), (2, y2), (3, y3), (5, y5), (9, y9), (14, y14), (15, y15), (16, y16), (17, y17), (21, y21), (33, y33)] [(0, y0), (1, y1), (2, y2), (3, y3), (5, y5), (9, y9), (14, y14), (15, y15), (16, y16), (17, y17), (21, y21), (33, y33)] = [(0, y0), (1, y1), (2, y2), (3, y3), (5, z2), (9, y9), (14, y14), (15, y15), (16, y16), (17, y17), (21, y21), (33, y33)] := fun y0 y1 y2 y3 y5 y9 y14 y15 y16 y17 y21 y33 z0 z1 z2 => rfl
      refine R_nil (tr _ _ _ _ _ _ _ _ _ _ _ _ _ _ _) ?_; clear tr
      refine then_n ?_
      refine at_seq rfl ?_
      refine rg rfl ?_
      refine Rq ?_
      refine Rq ?_
      have tr : ∀ y0 y1 y2 y3 y5 y9 y14 y15 y16 y17 y21 y33 z0 z1 : AV, trim [(21, z1), (20, z0), (0, y0), (1, y1), (2, y2), (3, y3), (5, y5), (9, y9), (14, y14), (15, y15), (16, y16), (17, y17), (21, y21), (33, y33)] [(0, y0), (1, y1), (2, y2), (3, y3), (5, y5), (9, y9), (14, y14), (15, y15), (16, y16), (17, y17), (21, y21), (33, y33)] = [(0, y0), (1, y1), (2, y2), (3, y3), (5, y5), (9, y9), (14, y14), (15, y15), (16, y16), (17, y17), (21, z1), (33, y33)] := fun y0 y1 y2 y3 y5 y9 y14 y15 y16 y17 y21 y33 z0 z1 => rfl
      refine R_nil (tr _ _ _ _ _ _ _ _ _ _ _ _ _ _) ?_; clear tr
      refine then_n ?_
      refine cdd (fun h3 => ?_) (fun h3 => ?_)
      · try simp only [decide_eq_true_eq, decide_eq_false_iff_not, Bool.not_eq_true', Bool.not_eq_false', beq_iff_eq, beq_eq_false_iff_ne, ne_eq] at h3
        refine at_seq rfl ?_
        refine rg rfl ?_
        refine Rq ?_
        have tr : ∀ y0 y1 y2 y3 y5 y9 y14 y15 y16 y17 y21 y33 z0 : AV, trim [(2, z0), (0, y0), (1, y1), (2, y2), (3, y3), (5, y5), (9, y9), (14, y14), (15, y15), (16, y16), (17, y17), (21, y21), (33, y33)] [(0, y0), (1, y1), (2, y2), (3, y3), (5, y5), (9, y9), (14, y14), (15, y15), (16, y16), (17, y17), (21, y21), (33, y33)] = [(0, y0), (1, y1), (2, z0), (3, y3), (5, y5), (9, y9), (14, y14), (15, y15), (16, y16), (17, y17), (21, y21), (33, y33)] := fun y0 y1 y2 y3 y5 y9 y14 y15 y16 y17 y21 y33 z0 => rfl
        refine R_nil (tr _ _ _ _ _ _ _ _ _ _ _ _ _) ?_; clear tr
        refine then_n ?_
        refine at_ret rfl ?_
        refine blk_r ?_
        refine then_r ?_
        refine then_r ?_
        refine blk_r ?_
        refine then_r ?_
        refine fpure ?_
        refine ⟨?_, rfl⟩
        rw [rawS, if_neg (fun hh => hh h1), endsS, if_pos (fun hh => absurd (hh w (by omega)) (by omega))]
      · try simp only [decide_eq_true_eq, decide_eq_false_iff_not, Bool.not_eq_true', Bool.not_eq_false', beq_iff_eq, beq_eq_false_iff_ne, ne_eq] at h3
        refine at_skip rfl ?_
        refine blk_n ?_
        refine then_n ?_
        refine rg rfl ?_
        refine Rq ?_
        refine Rq ?_
        have tr : ∀ y0 y1 y2 y3 y5 y9 y14 y15 y16 y17 y21 y33 z0 z1 : AV, trim [(16, z1), (22, z0), (0, y0), (1, y1), (2, y2), (3, y3), (5, y5), (9, y9), (14, y14), (15, y15), (16, y16), (17, y17), (21, y21), (33, y33)] [(0, y0), (1, y1), (2, y2), (3, y3), (5, y5), (9, y9), (14, y14), (15, y15), (16, y16), (17, y17), (21, y21), (33, y33)] = [(0, y0), (1, y1), (2, y2), (3, y3), (5, y5), (9, y9), (14, y14), (15, y15), (16, z1), (17, y17), (21, y21), (33, y33)] := fun y0 y1 y2 y3 y5 y9 y14 y15 y16 y17 y21 y33 z0 z1 => rfl
        refine R_nil (tr _ _ _ _ _ _ _ _ _ _ _ _ _ _) ?_; clear tr
        refine then_n ?_
        exact ⟨_, _, ⟨w + 1, _, _, _, _, rfl, rfl, rfl, by omega, by exact all_step hz (by omega)⟩, by rfl, by omega⟩
    · try simp only [decide_eq_true_eq, decide_eq_false_iff_not, Bool.not_eq_true', Bool.not_eq_false', beq_iff_eq, beq_eq_false_iff_ne, ne_eq] at h2
      refine at_exit rfl ?_
      refine then_x ?_
      refine then_x ?_
      refine blk_x ?_
      refine then_n ?_
      refine at_seq rfl ?_
      refine at_seq rfl ?_
      refine rg rfl ?_
      refine Rq ?_
      refine Rq ?_
      refine Rq ?_
      refine Rq ?_
      refine Rq ?_
      refine Rq ?_
      refine Rq ?_
      refine Rq ?_
      refine Rq ?_
      refine Rq ?_
      refine Rq ?_
      have tr : ∀ y0 y1 y2 y3 y5 y9 y14 y15 y16 y17 y21 y33 z0 z1 z2 z3 z4 z5 z6 z7 z8 z9 z10 : AV, trim [(33, z10), (32, z9), (31, z8), (30, z7), (29, z6), (28, z5), (27, z4), (26, z3), (25, z2), (24, z1), (23, z0), (0, y0), (1, y1), (2, y2), (3, y3), (5, y5), (9, y9), (14, y14), (15, y15), (16, y16), (17, y17), (21, y21), (33, y33)] [(0, y0), (1, y1), (2, y2), (3, y3), (5, y5), (9, y9), (14, y14), (15, y15), (16, y16), (17, y17), (21, y21), (33, y33)] = [(0, y0), (1, y1), (2, y2), (3, y3), (5, y5), (9, y9), (14, y14), (15, y15), (16, y16), (17, y17), (21, y21), (33, z10)] := fun y0 y1 y2 y3 y5 y9 y14 y15 y16 y17 y21 y33 z0 z1 z2 z3 z4 z5 z6 z7 z8 z9 z10 => rfl
      refine R_nil (tr _ _ _ _ _ _ _ _ _ _ _ _ _ _ _ _ _ _ _ _ _ _ _) ?_; clear tr
      refine then_n ?_
      refine cdd (fun h4 => ?_) (fun h4 => ?_)
      · try simp only [decide_eq_true_eq, decide_eq_false_iff_not, Bool.not_eq_true', Bool.not_eq_false', beq_iff_eq, beq_eq_false_iff_ne, ne_eq] at h4
        refine at_seq rfl ?_
        refine rg rfl ?_
        refine Rq ?_
        have tr : ∀ y0 y1 y2 y3 y5 y9 y14 y15 y16 y17 y21 y33 z0 : AV, trim [(2, z0), (0, y0), (1, y1), (2, y2), (3, y3), (5, y5), (9, y9), (14, y14), (15, y15), (16, y16), (17, y17), (21, y21), (33, y33)] [(0, y0), (1, y1), (2, y2), (3, y3), (5, y5), (9, y9), (14, y14), (15, y15), (16, y16), (17, y17), (21, y21), (33, y33)] = [(0, y0), (1, y1), (2, z0), (3, y3), (5, y5), (9, y9), (14, y14), (15, y15), (16, y16), (17, y17), (21, y21), (33, y33)] := fun y0 y1 y2 y3 y5 y9 y14 y15 y16 y17 y21 y33 z0 => rfl
        refine R_nil (tr _ _ _ _ _ _ _ _ _ _ _ _ _) ?_; clear tr
        refine then_n ?_
        refine at_ret rfl ?_
        refine then_r ?_
        refine fpure ?_
        refine ⟨?_, rfl⟩
        rw [rawS, if_neg (fun hh => hh h1), endsS, if_neg (fun hh => hh fun i hi => hz i (by omega)), if_pos (by omega)]
      · try simp only [decide_eq_true_eq, decide_eq_false_iff_not, Bool.not_eq_true', Bool.not_eq_false', beq_iff_eq, beq_eq_false_iff_ne, ne_eq] at h4
        refine at_skip rfl ?_
        refine then_n ?_
        refine at_seq rfl ?_
        refine rg rfl ?_
        refine Rq ?_
        have tr : ∀ y0 y1 y2 y3 y5 y9 y14 y15 y16 y17 y21 y33 z0 : AV, trim [(2, z0), (0, y0), (1, y1), (2, y2), (3, y3), (5, y5), (9, y9), (14, y14), (15, y15), (16, y16), (17, y17), (21, y21), (33, y33)] [(0, y0), (1, y1), (2, y2), (3, y3), (5, y5), (9, y9), (14, y14), (15, y15), (16, y16), (17, y17), (21, y21), (33, y33)] = [(0, y0), (1, y1), (2, z0), (3, y3), (5, y5), (9, y9), (14, y14), (15, y15), (16, y16), (17, y17), (21, y21), (33, y33)] := fun y0 y1 y2 y3 y5 y9 y14 y15 y16 y17 y21 y33 z0 => rfl
        refine R_nil (tr _ _ _ _ _ _ _ _ _ _ _ _ _) ?_; clear tr
        refine then_n ?_
        refine at_ret rfl ?_
        refine fpure ?_
        refine ⟨?_, rfl⟩
        rw [rawS, if_neg (fun hh => hh h1), endsS, if_neg (fun hh => hh fun i hi => hz i (by omega)), if_neg (by omega)]

end Go.Proofs.Ytaoondlakhocnaa
