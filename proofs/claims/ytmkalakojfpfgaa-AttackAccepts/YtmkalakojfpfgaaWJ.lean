/-
  Walks of chapter 46. The steps are written by program (walk.py).
-/
import Derived.Test.YtmkalakojfpfgaaQ7
set_option linter.unusedSimpArgs false
set_option linter.unusedVariables false
set_option maxHeartbeats 40000000
set_option maxRecDepth 4000
namespace Go.Proofs.Ytmkalakojfpfgaa
open Go Go.Am

theorem small_ok (lim : Nat) (H : Heap) (rows : Tb) (q la : Int) (hL : rows.length ≤ 9223372036854775807) :
    ACall sig lim 15 [.agg [rowsAV rows, AV.i q, AV.i la]] H fun r H' => (∃ b, r = .v (.bool b)) ∧ H' = H := by
  refine ACall_pure (fa := fa15) rfl rfl rfl rfl ?_
  have tr : ∀ a0 : AV, env0 fa15.keep [a0] = [(0, a0), (1, .any), (2, .any), (4, .any), (13, .any), (15, .any), (16, .any), (17, .any), (18, .any), (23, .any)] := fun a0 => rfl
  refine W_to (tr _) ?_; clear tr
  refine at_seq rfl ?_
  refine rg rfl ?_
  refine R_box rfl (by simp (disch := first | omega | (simp only [List.length_map, List.length_append, List.length_set, List.length_cons, List.length_nil, List.length_take, List.length_drop]; omega)) only [go_sem, ↓reduceIte, Nat.reduceEqDiff, reduceCtorEq]; rfl) rfl rfl ?_
  refine Rq ?_
  have tr : ∀ y0 y1 y2 y4 y13 y15 y16 y17 y18 y23 z0 z1 : AV, trim [(2, z1), (1, z0), (0, y0), (1, y1), (2, y2), (4, y4), (13, y13), (15, y15), (16, y16), (17, y17), (18, y18), (23, y23)] [(0, y0), (1, y1), (2, y2), (4, y4), (13, y13), (15, y15), (16, y16), (17, y17), (18, y18), (23, y23)] = [(0, y0), (1, z0), (2, z1), (4, y4), (13, y13), (15, y15), (16, y16), (17, y17), (18, y18), (23, y23)] := fun y0 y1 y2 y4 y13 y15 y16 y17 y18 y23 z0 z1 => rfl
  refine R_nil (tr _ _ _ _ _ _ _ _ _ _ _ _) ?_; clear tr
  refine then_n ?_
  refine at_seq rfl ?_
  refine at_seq rfl ?_
  refine rg rfl ?_
  refine Rq ?_
  refine Rq ?_
  refine Rq ?_
  refine Rq ?_
  refine Rq ?_
  refine Rp_split (fun h1 => ?_) (fun h1 => ?_)
  · try simp only [decide_eq_true_eq, decide_eq_false_iff_not, Bool.not_eq_true', Bool.not_eq_false', beq_iff_eq, beq_eq_false_iff_ne, ne_eq] at h1
    refine Rn ?_
    refine Rn ?_
    refine Rn ?_
    refine Rq ?_
    have tr : ∀ y0 y1 y2 y4 y13 y15 y16 y17 y18 y23 z0 z1 z2 z3 z4 z5 z6 z7 z8 : AV, trim [(13, z8), (12, z7), (11, z6), (10, z5), (9, z4), (8, z3), (7, z2), (6, z1), (5, z0), (0, y0), (1, y1), (2, y2), (4, y4), (13, y13), (15, y15), (16, y16), (17, y17), (18, y18), (23, y23)] [(0, y0), (1, y1), (2, y2), (4, y4), (13, y13), (15, y15), (16, y16), (17, y17), (18, y18), (23, y23)] = [(0, y0), (1, y1), (2, y2), (4, y4), (13, z8), (15, y15), (16, y16), (17, y17), (18, y18), (23, y23)] := fun y0 y1 y2 y4 y13 y15 y16 y17 y18 y23 z0 z1 z2 z3 z4 z5 z6 z7 z8 => rfl
    refine R_nil (tr _ _ _ _ _ _ _ _ _ _ _ _ _ _ _ _ _ _ _) ?_; clear tr
    refine then_n ?_
    refine cdt ?_
    refine at_seq rfl ?_
    refine rg rfl ?_
    refine Rq ?_
    have tr : ∀ y0 y1 y2 y4 y13 y15 y16 y17 y18 y23 z0 : AV, trim [(2, z0), (0, y0), (1, y1), (2, y2), (4, y4), (13, y13), (15, y15), (16, y16), (17, y17), (18, y18), (23, y23)] [(0, y0), (1, y1), (2, y2), (4, y4), (13, y13), (15, y15), (16, y16), (17, y17), (18, y18), (23, y23)] = [(0, y0), (1, y1), (2, z0), (4, y4), (13, y13), (15, y15), (16, y16), (17, y17), (18, y18), (23, y23)] := fun y0 y1 y2 y4 y13 y15 y16 y17 y18 y23 z0 => rfl
    refine R_nil (tr _ _ _ _ _ _ _ _ _ _ _) ?_; clear tr
    refine then_n ?_
    refine at_ret rfl ?_
    refine then_r ?_
    refine fpure ?_
    exact ⟨⟨_, rfl⟩, rfl⟩
  · try simp only [decide_eq_true_eq, decide_eq_false_iff_not, Bool.not_eq_true', Bool.not_eq_false', beq_iff_eq, beq_eq_false_iff_ne, ne_eq] at h1
    refine Ry ?_
    refine Rq ?_
    refine Ry ?_
    refine Rq ?_
    refine Ry ?_
    refine Rq ?_
    refine Rq ?_
    have tr : ∀ y0 y1 y2 y4 y13 y15 y16 y17 y18 y23 z0 z1 z2 z3 z4 z5 z6 z7 z8 : AV, trim [(13, z8), (12, z7), (11, z6), (10, z5), (9, z4), (8, z3), (7, z2), (6, z1), (5, z0), (0, y0), (1, y1), (2, y2), (4, y4), (13, y13), (15, y15), (16, y16), (17, y17), (18, y18), (23, y23)] [(0, y0), (1, y1), (2, y2), (4, y4), (13, y13), (15, y15), (16, y16), (17, y17), (18, y18), (23, y23)] = [(0, y0), (1, y1), (2, y2), (4, y4), (13, z8), (15, y15), (16, y16), (17, y17), (18, y18), (23, y23)] := fun y0 y1 y2 y4 y13 y15 y16 y17 y18 y23 z0 z1 z2 z3 z4 z5 z6 z7 z8 => rfl
    refine R_nil (tr _ _ _ _ _ _ _ _ _ _ _ _ _ _ _ _ _ _ _) ?_; clear tr
    refine then_n ?_
    refine cdd (fun h2 => ?_) (fun h2 => ?_)
    · try simp only [decide_eq_true_eq, decide_eq_false_iff_not, Bool.not_eq_true', Bool.not_eq_false', beq_iff_eq, beq_eq_false_iff_ne, ne_eq] at h2
      refine at_seq rfl ?_
      refine rg rfl ?_
      refine Rq ?_
      have tr : ∀ y0 y1 y2 y4 y13 y15 y16 y17 y18 y23 z0 : AV, trim [(2, z0), (0, y0), (1, y1), (2, y2), (4, y4), (13, y13), (15, y15), (16, y16), (17, y17), (18, y18), (23, y23)] [(0, y0), (1, y1), (2, y2), (4, y4), (13, y13), (15, y15), (16, y16), (17, y17), (18, y18), (23, y23)] = [(0, y0), (1, y1), (2, z0), (4, y4), (13, y13), (15, y15), (16, y16), (17, y17), (18, y18), (23, y23)] := fun y0 y1 y2 y4 y13 y15 y16 y17 y18 y23 z0 => rfl
      refine R_nil (tr _ _ _ _ _ _ _ _ _ _ _) ?_; clear tr
      refine then_n ?_
      refine at_ret rfl ?_
      refine then_r ?_
      refine fpure ?_
      exact ⟨⟨_, rfl⟩, rfl⟩
    · try simp only [decide_eq_true_eq, decide_eq_false_iff_not, Bool.not_eq_true', Bool.not_eq_false', beq_iff_eq, beq_eq_false_iff_ne, ne_eq] at h2
      refine at_skip rfl ?_
      refine then_n ?_
      refine at_seq rfl ?_
      refine at_seq rfl ?_
      refine rg rfl ?_
      refine Rq ?_
      refine Rq ?_
      refine Rq ?_
      refine Rq ?_
      have tr : ∀ y0 y1 y2 y4 y13 y15 y16 y17 y18 y23 z0 z1 z2 z3 : AV, trim [(17, z3), (16, z2), (15, z1), (14, z0), (0, y0), (1, y1), (2, y2), (4, y4), (13, y13), (15, y15), (16, y16), (17, y17), (18, y18), (23, y23)] [(0, y0), (1, y1), (2, y2), (4, y4), (13, y13), (15, y15), (16, y16), (17, y17), (18, y18), (23, y23)] = [(0, y0), (1, y1), (2, y2), (4, y4), (13, y13), (15, z1), (16, z2), (17, z3), (18, y18), (23, y23)] := fun y0 y1 y2 y4 y13 y15 y16 y17 y18 y23 z0 z1 z2 z3 => rfl
      refine R_nil (tr _ _ _ _ _ _ _ _ _ _ _ _ _ _) ?_; clear tr
      refine then_n ?_
      refine at_block rfl ?_
      refine loop_n rfl (fun mm kv H' => ∃ u : Nat, ∃ x2 x4 x18 x23 : AV, (kv = [(2, x2), (4, x4), (17, AV.i u), (18, x18), (23, x23)]) ∧ (mm = rows.length - u) ∧ (H' = H ++ [some [rowsAV rows, AV.i q, AV.i la]]) ∧ (u ≤ rows.length)) ⟨0, _, _, _, _, rfl, rfl, rfl, by omega⟩ (by rfl) ?_
      rintro mm kv H' ⟨u, x2, x4, x18, x23, rfl, rfl, rfl, hu⟩
      have tr : ∀ y0 y1 y2 y4 y13 y15 y16 y17 y18 y23 z2 z4 z17 z18 z23 : AV, upd [(0, y0), (1, y1), (2, y2), (4, y4), (13, y13), (15, y15), (16, y16), (17, y17), (18, y18), (23, y23)] [(2, z2), (4, z4), (17, z17), (18, z18), (23, z23)] = [(0, y0), (1, y1), (2, z2), (4, z4), (13, y13), (15, y15), (16, y16), (17, z17), (18, z18), (23, z23)] := fun y0 y1 y2 y4 y13 y15 y16 y17 y18 y23 z2 z4 z17 z18 z23 => rfl
      refine W_to (tr _ _ _ _ _ _ _ _ _ _ _ _ _ _ _) ?_; clear tr
      refine at_seq rfl ?_
      refine rg rfl ?_
      refine Rq ?_
      have tr : ∀ y0 y1 y2 y4 y13 y15 y16 y17 y18 y23 z0 : AV, trim [(18, z0), (0, y0), (1, y1), (2, y2), (4, y4), (13, y13), (15, y15), (16, y16), (17, y17), (18, y18), (23, y23)] [(0, y0), (1, y1), (2, y2), (4, y4), (13, y13), (15, y15), (16, y16), (17, y17), (18, y18), (23, y23)] = [(0, y0), (1, y1), (2, y2), (4, y4), (13, y13), (15, y15), (16, y16), (17, y17), (18, z0), (23, y23)] := fun y0 y1 y2 y4 y13 y15 y16 y17 y18 y23 z0 => rfl
      refine R_nil (tr _ _ _ _ _ _ _ _ _ _ _) ?_; clear tr
      refine then_n ?_
      refine at_seq rfl ?_
      refine cdd (fun h3 => ?_) (fun h3 => ?_)
      · try simp only [decide_eq_true_eq, decide_eq_false_iff_not, Bool.not_eq_true', Bool.not_eq_false', beq_iff_eq, beq_eq_false_iff_ne, ne_eq] at h3
        refine at_skip rfl ?_
        refine then_n ?_
        refine at_seq rfl ?_
        refine at_block rfl ?_
        refine at_seq rfl ?_
        refine rg rfl ?_
        refine Rq ?_
        refine Rq ?_
        refine Rq ?_
        have tr : ∀ y0 y1 y2 y4 y13 y15 y16 y17 y18 y23 z0 z1 z2 : AV, trim [(4, z2), (20, z1), (19, z0), (0, y0), (1, y1), (2, y2), (4, y4), (13, y13), (15, y15), (16, y16), (17, y17), (18, y18), (23, y23)] [(0, y0), (1, y1), (2, y2), (4, y4), (13, y13), (15, y15), (16, y16), (17, y17), (18, y18), (23, y23)] = [(0, y0), (1, y1), (2, y2), (4, z2), (13, y13), (15, y15), (16, y16), (17, y17), (18, y18), (23, y23)] := fun y0 y1 y2 y4 y13 y15 y16 y17 y18 y23 z0 z1 z2 => rfl
        refine R_nil (tr _ _ _ _ _ _ _ _ _ _ _ _ _) ?_; clear tr
        refine then_n ?_
        refine at_seq rfl ?_
        refine rg rfl ?_
        refine Rq ?_
        refine Rq ?_
        refine Rq ?_
        have tr : ∀ y0 y1 y2 y4 y13 y15 y16 y17 y18 y23 z0 z1 z2 : AV, trim [(23, z2), (22, z1), (21, z0), (0, y0), (1, y1), (2, y2), (4, y4), (13, y13), (15, y15), (16, y16), (17, y17), (18, y18), (23, y23)] [(0, y0), (1, y1), (2, y2), (4, y4), (13, y13), (15, y15), (16, y16), (17, y17), (18, y18), (23, y23)] = [(0, y0), (1, y1), (2, y2), (4, y4), (13, y13), (15, y15), (16, y16), (17, y17), (18, y18), (23, z2)] := fun y0 y1 y2 y4 y13 y15 y16 y17 y18 y23 z0 z1 z2 => rfl
        refine R_nil (tr _ _ _ _ _ _ _ _ _ _ _ _ _) ?_; clear tr
        refine then_n ?_
        refine cdd (fun h4 => ?_) (fun h4 => ?_)
        · try simp only [decide_eq_true_eq, decide_eq_false_iff_not, Bool.not_eq_true', Bool.not_eq_false', beq_iff_eq, beq_eq_false_iff_ne, ne_eq] at h4
          refine at_seq rfl ?_
          refine rg rfl ?_
          refine Rq ?_
          have tr : ∀ y0 y1 y2 y4 y13 y15 y16 y17 y18 y23 z0 : AV, trim [(2, z0), (0, y0), (1, y1), (2, y2), (4, y4), (13, y13), (15, y15), (16, y16), (17, y17), (18, y18), (23, y23)] [(0, y0), (1, y1), (2, y2), (4, y4), (13, y13), (15, y15), (16, y16), (17, y17), (18, y18), (23, y23)] = [(0, y0), (1, y1), (2, z0), (4, y4), (13, y13), (15, y15), (16, y16), (17, y17), (18, y18), (23, y23)] := fun y0 y1 y2 y4 y13 y15 y16 y17 y18 y23 z0 => rfl
          refine R_nil (tr _ _ _ _ _ _ _ _ _ _ _) ?_; clear tr
          refine then_n ?_
          refine at_ret rfl ?_
          refine blk_r ?_
          refine then_r ?_
          refine then_r ?_
          refine blk_r ?_
          refine then_r ?_
          refine fpure ?_
          exact ⟨⟨_, rfl⟩, rfl⟩
        · try simp only [decide_eq_true_eq, decide_eq_false_iff_not, Bool.not_eq_true', Bool.not_eq_false', beq_iff_eq, beq_eq_false_iff_ne, ne_eq] at h4
          refine at_skip rfl ?_
          refine blk_n ?_
          refine then_n ?_
          refine rg rfl ?_
          refine Rq ?_
          refine Rq ?_
          have tr : ∀ y0 y1 y2 y4 y13 y15 y16 y17 y18 y23 z0 z1 : AV, trim [(17, z1), (24, z0), (0, y0), (1, y1), (2, y2), (4, y4), (13, y13), (15, y15), (16, y16), (17, y17), (18, y18), (23, y23)] [(0, y0), (1, y1), (2, y2), (4, y4), (13, y13), (15, y15), (16, y16), (17, y17), (18, y18), (23, y23)] = [(0, y0), (1, y1), (2, y2), (4, y4), (13, y13), (15, y15), (16, y16), (17, z1), (18, y18), (23, y23)] := fun y0 y1 y2 y4 y13 y15 y16 y17 y18 y23 z0 z1 => rfl
          refine R_nil (tr _ _ _ _ _ _ _ _ _ _ _ _) ?_; clear tr
          refine then_n ?_
          exact ⟨_, _, ⟨u + 1, _, _, _, _, rfl, rfl, rfl, by omega⟩, by rfl, by omega⟩
      · try simp only [decide_eq_true_eq, decide_eq_false_iff_not, Bool.not_eq_true', Bool.not_eq_false', beq_iff_eq, beq_eq_false_iff_ne, ne_eq] at h3
        refine at_exit rfl ?_
        refine then_x ?_
        refine then_x ?_
        refine blk_x ?_
        refine then_n ?_
        refine at_seq rfl ?_
        refine rg rfl ?_
        refine Rq ?_
        have tr : ∀ y0 y1 y2 y4 y13 y15 y16 y17 y18 y23 z0 : AV, trim [(2, z0), (0, y0), (1, y1), (2, y2), (4, y4), (13, y13), (15, y15), (16, y16), (17, y17), (18, y18), (23, y23)] [(0, y0), (1, y1), (2, y2), (4, y4), (13, y13), (15, y15), (16, y16), (17, y17), (18, y18), (23, y23)] = [(0, y0), (1, y1), (2, z0), (4, y4), (13, y13), (15, y15), (16, y16), (17, y17), (18, y18), (23, y23)] := fun y0 y1 y2 y4 y13 y15 y16 y17 y18 y23 z0 => rfl
        refine R_nil (tr _ _ _ _ _ _ _ _ _ _ _) ?_; clear tr
        refine then_n ?_
        refine at_ret rfl ?_
        refine fpure ?_
        exact ⟨⟨_, rfl⟩, rfl⟩

theorem equal_nil (lim : Nat) (H : Heap) : ACall sig lim 18 [planN, planN] H fun r H' => r = .v (.bool true) ∧ H' = H := by
  refine ACall_pure (fa := fa18) rfl rfl rfl rfl ?_
  have tr : ∀ a0 a1 : AV, env0 fa18.keep [a0, a1] = [(0, a0), (1, a1), (2, .any), (3, .any), (4, .any), (5, .any), (6, .any), (29, .any), (32, .any), (33, .any), (34, .any), (46, .any), (50, .any), (51, .any), (52, .any), (64, .any)] := fun a0 a1 => rfl
  refine W_to (tr _ _) ?_; clear tr
  refine at_seq rfl ?_
  refine rg rfl ?_
  refine R_box rfl (by simp (disch := first | omega | (simp only [List.length_map, List.length_append, List.length_set, List.length_cons, List.length_nil, List.length_take, List.length_drop]; omega)) only [go_sem, ↓reduceIte, Nat.reduceEqDiff, reduceCtorEq]; rfl) rfl rfl ?_
  refine R_box rfl (by simp (disch := first | omega | (simp only [List.length_map, List.length_append, List.length_set, List.length_cons, List.length_nil, List.length_take, List.length_drop]; omega)) only [go_sem, ↓reduceIte, Nat.reduceEqDiff, reduceCtorEq]; rfl) rfl rfl ?_
  refine Rq ?_
  have tr : ∀ y0 y1 y2 y3 y4 y5 y6 y29 y32 y33 y34 y46 y50 y51 y52 y64 z0 z1 z2 : AV, trim [(4, z2), (3, z1), (2, z0), (0, y0), (1, y1), (2, y2), (3, y3), (4, y4), (5, y5), (6, y6), (29, y29), (32, y32), (33, y33), (34, y34), (46, y46), (50, y50), (51, y51), (52, y52), (64, y64)] [(0, y0), (1, y1), (2, y2), (3, y3), (4, y4), (5, y5), (6, y6), (29, y29), (32, y32), (33, y33), (34, y34), (46, y46), (50, y50), (51, y51), (52, y52), (64, y64)] = [(0, y0), (1, y1), (2, z0), (3, z1), (4, z2), (5, y5), (6, y6), (29, y29), (32, y32), (33, y33), (34, y34), (46, y46), (50, y50), (51, y51), (52, y52), (64, y64)] := fun y0 y1 y2 y3 y4 y5 y6 y29 y32 y33 y34 y46 y50 y51 y52 y64 z0 z1 z2 => rfl
  refine R_nil (tr _ _ _ _ _ _ _ _ _ _ _ _ _ _ _ _ _ _ _) ?_; clear tr
  refine then_n ?_
  refine at_seq rfl ?_
  refine at_seq rfl ?_
  refine rg rfl ?_
  refine Rq ?_
  refine Rq ?_
  refine Rq ?_
  refine Rq ?_
  refine Rq ?_
  refine Rq ?_
  refine Rp_split (fun h1 => ?_) (fun h1 => ?_)
  · try simp only [decide_eq_true_eq, decide_eq_false_iff_not, Bool.not_eq_true', Bool.not_eq_false', beq_iff_eq, beq_eq_false_iff_ne, ne_eq] at h1
    refine Rn ?_
    refine Rn ?_
    refine Rn ?_
    refine Rn ?_
    refine Rn ?_
    refine Rn ?_
    refine Rn ?_
    refine Rq ?_
    refine Rq ?_
    refine Rn ?_
    refine Rn ?_
    refine Rn ?_
    refine Rn ?_
    refine Rn ?_
    refine Rn ?_
    refine Rn ?_
    refine Rq ?_
    have tr : ∀ y0 y1 y2 y3 y4 y5 y6 y29 y32 y33 y34 y46 y50 y51 y52 y64 z0 z1 z2 z3 z4 z5 z6 z7 z8 z9 z10 z11 z12 z13 z14 z15 z16 z17 z18 z19 z20 z21 z22 : AV, trim [(29, z22), (28, z21), (27, z20), (26, z19), (25, z18), (24, z17), (23, z16), (22, z15), (21, z14), (20, z13), (19, z12), (18, z11), (17, z10), (16, z9), (15, z8), (14, z7), (13, z6), (12, z5), (11, z4), (10, z3), (9, z2), (8, z1), (7, z0), (0, y0), (1, y1), (2, y2), (3, y3), (4, y4), (5, y5), (6, y6), (29, y29), (32, y32), (33, y33), (34, y34), (46, y46), (50, y50), (51, y51), (52, y52), (64, y64)] [(0, y0), (1, y1), (2, y2), (3, y3), (4, y4), (5, y5), (6, y6), (29, y29), (32, y32), (33, y33), (34, y34), (46, y46), (50, y50), (51, y51), (52, y52), (64, y64)] = [(0, y0), (1, y1), (2, y2), (3, y3), (4, y4), (5, y5), (6, y6), (29, z22), (32, y32), (33, y33), (34, y34), (46, y46), (50, y50), (51, y51), (52, y52), (64, y64)] := fun y0 y1 y2 y3 y4 y5 y6 y29 y32 y33 y34 y46 y50 y51 y52 y64 z0 z1 z2 z3 z4 z5 z6 z7 z8 z9 z10 z11 z12 z13 z14 z15 z16 z17 z18 z19 z20 z21 z22 => rfl
    refine R_nil (tr _ _ _ _ _ _ _ _ _ _ _ _ _ _ _ _ _ _ _ _ _ _ _ _ _ _ _ _ _ _ _ _ _ _ _ _ _ _ _) ?_; clear tr
    refine then_n ?_
    refine cdt ?_
    refine at_seq rfl ?_
    refine rg rfl ?_
    refine Rq ?_
    have tr : ∀ y0 y1 y2 y3 y4 y5 y6 y29 y32 y33 y34 y46 y50 y51 y52 y64 z0 : AV, trim [(4, z0), (0, y0), (1, y1), (2, y2), (3, y3), (4, y4), (5, y5), (6, y6), (29, y29), (32, y32), (33, y33), (34, y34), (46, y46), (50, y50), (51, y51), (52, y52), (64, y64)] [(0, y0), (1, y1), (2, y2), (3, y3), (4, y4), (5, y5), (6, y6), (29, y29), (32, y32), (33, y33), (34, y34), (46, y46), (50, y50), (51, y51), (52, y52), (64, y64)] = [(0, y0), (1, y1), (2, y2), (3, y3), (4, z0), (5, y5), (6, y6), (29, y29), (32, y32), (33, y33), (34, y34), (46, y46), (50, y50), (51, y51), (52, y52), (64, y64)] := fun y0 y1 y2 y3 y4 y5 y6 y29 y32 y33 y34 y46 y50 y51 y52 y64 z0 => rfl
    refine R_nil (tr _ _ _ _ _ _ _ _ _ _ _ _ _ _ _ _ _) ?_; clear tr
    refine then_n ?_
    refine at_ret rfl ?_
    refine then_r ?_
    refine fpure ?_
    first | exact ⟨rfl, rfl⟩ | (exfalso; first | omega | exact absurd rfl (by assumption) | simp_all)
  · try simp only [decide_eq_true_eq, decide_eq_false_iff_not, Bool.not_eq_true', Bool.not_eq_false', beq_iff_eq, beq_eq_false_iff_ne, ne_eq] at h1
    refine Ry ?_
    refine Rq ?_
    refine Ry ?_
    refine Rq ?_
    refine Ry ?_
    refine Rq ?_
    refine Ry ?_
    refine Rq ?_
    refine Ry ?_
    refine Rq ?_
    refine Ry ?_
    refine Rq ?_
    refine Ry ?_
    refine Rq ?_
    refine Rq ?_
    refine Rq ?_
    refine Rp_split (fun h2 => ?_) (fun h2 => ?_)
    · try simp only [decide_eq_true_eq, decide_eq_false_iff_not, Bool.not_eq_true', Bool.not_eq_false', beq_iff_eq, beq_eq_false_iff_ne, ne_eq] at h2
      refine Rn ?_
      refine Rn ?_
      refine Rn ?_
      refine Rn ?_
      refine Rn ?_
      refine Rn ?_
      refine Rn ?_
      refine Rq ?_
      have tr : ∀ y0 y1 y2 y3 y4 y5 y6 y29 y32 y33 y34 y46 y50 y51 y52 y64 z0 z1 z2 z3 z4 z5 z6 z7 z8 z9 z10 z11 z12 z13 z14 z15 z16 z17 z18 z19 z20 z21 z22 : AV, trim [(29, z22), (28, z21), (27, z20), (26, z19), (25, z18), (24, z17), (23, z16), (22, z15), (21, z14), (20, z13), (19, z12), (18, z11), (17, z10), (16, z9), (15, z8), (14, z7), (13, z6), (12, z5), (11, z4), (10, z3), (9, z2), (8, z1), (7, z0), (0, y0), (1, y1), (2, y2), (3, y3), (4, y4), (5, y5), (6, y6), (29, y29), (32, y32), (33, y33), (34, y34), (46, y46), (50, y50), (51, y51), (52, y52), (64, y64)] [(0, y0), (1, y1), (2, y2), (3, y3), (4, y4), (5, y5), (6, y6), (29, y29), (32, y32), (33, y33), (34, y34), (46, y46), (50, y50), (51, y51), (52, y52), (64, y64)] = [(0, y0), (1, y1), (2, y2), (3, y3), (4, y4), (5, y5), (6, y6), (29, z22), (32, y32), (33, y33), (34, y34), (46, y46), (50, y50), (51, y51), (52, y52), (64, y64)] := fun y0 y1 y2 y3 y4 y5 y6 y29 y32 y33 y34 y46 y50 y51 y52 y64 z0 z1 z2 z3 z4 z5 z6 z7 z8 z9 z10 z11 z12 z13 z14 z15 z16 z17 z18 z19 z20 z21 z22 => rfl
      refine R_nil (tr _ _ _ _ _ _ _ _ _ _ _ _ _ _ _ _ _ _ _ _ _ _ _ _ _ _ _ _ _ _ _ _ _ _ _ _ _ _ _) ?_; clear tr
      refine then_n ?_
      refine cdt ?_
      refine at_seq rfl ?_
      refine rg rfl ?_
      refine Rq ?_
      have tr : ∀ y0 y1 y2 y3 y4 y5 y6 y29 y32 y33 y34 y46 y50 y51 y52 y64 z0 : AV, trim [(4, z0), (0, y0), (1, y1), (2, y2), (3, y3), (4, y4), (5, y5), (6, y6), (29, y29), (32, y32), (33, y33), (34, y34), (46, y46), (50, y50), (51, y51), (52, y52), (64, y64)] [(0, y0), (1, y1), (2, y2), (3, y3), (4, y4), (5, y5), (6, y6), (29, y29), (32, y32), (33, y33), (34, y34), (46, y46), (50, y50), (51, y51), (52, y52), (64, y64)] = [(0, y0), (1, y1), (2, y2), (3, y3), (4, z0), (5, y5), (6, y6), (29, y29), (32, y32), (33, y33), (34, y34), (46, y46), (50, y50), (51, y51), (52, y52), (64, y64)] := fun y0 y1 y2 y3 y4 y5 y6 y29 y32 y33 y34 y46 y50 y51 y52 y64 z0 => rfl
      refine R_nil (tr _ _ _ _ _ _ _ _ _ _ _ _ _ _ _ _ _) ?_; clear tr
      refine then_n ?_
      refine at_ret rfl ?_
      refine then_r ?_
      refine fpure ?_
      first | exact ⟨rfl, rfl⟩ | (exfalso; first | omega | exact absurd rfl (by assumption) | simp_all)
    · try simp only [decide_eq_true_eq, decide_eq_false_iff_not, Bool.not_eq_true', Bool.not_eq_false', beq_iff_eq, beq_eq_false_iff_ne, ne_eq] at h2
      refine Ry ?_
      refine Rq ?_
      refine Ry ?_
      refine Rq ?_
      refine Ry ?_
      refine Rq ?_
      refine Ry ?_
      refine Rq ?_
      refine Ry ?_
      refine Rq ?_
      refine Ry ?_
      refine Rq ?_
      refine Ry ?_
      refine Rq ?_
      refine Rq ?_
      have tr : ∀ y0 y1 y2 y3 y4 y5 y6 y29 y32 y33 y34 y46 y50 y51 y52 y64 z0 z1 z2 z3 z4 z5 z6 z7 z8 z9 z10 z11 z12 z13 z14 z15 z16 z17 z18 z19 z20 z21 z22 : AV, trim [(29, z22), (28, z21), (27, z20), (26, z19), (25, z18), (24, z17), (23, z16), (22, z15), (21, z14), (20, z13), (19, z12), (18, z11), (17, z10), (16, z9), (15, z8), (14, z7), (13, z6), (12, z5), (11, z4), (10, z3), (9, z2), (8, z1), (7, z0), (0, y0), (1, y1), (2, y2), (3, y3), (4, y4), (5, y5), (6, y6), (29, y29), (32, y32), (33, y33), (34, y34), (46, y46), (50, y50), (51, y51), (52, y52), (64, y64)] [(0, y0), (1, y1), (2, y2), (3, y3), (4, y4), (5, y5), (6, y6), (29, y29), (32, y32), (33, y33), (34, y34), (46, y46), (50, y50), (51, y51), (52, y52), (64, y64)] = [(0, y0), (1, y1), (2, y2), (3, y3), (4, y4), (5, y5), (6, y6), (29, z22), (32, y32), (33, y33), (34, y34), (46, y46), (50, y50), (51, y51), (52, y52), (64, y64)] := fun y0 y1 y2 y3 y4 y5 y6 y29 y32 y33 y34 y46 y50 y51 y52 y64 z0 z1 z2 z3 z4 z5 z6 z7 z8 z9 z10 z11 z12 z13 z14 z15 z16 z17 z18 z19 z20 z21 z22 => rfl
      refine R_nil (tr _ _ _ _ _ _ _ _ _ _ _ _ _ _ _ _ _ _ _ _ _ _ _ _ _ _ _ _ _ _ _ _ _ _ _ _ _ _ _) ?_; clear tr
      refine then_n ?_
      refine cdd (fun h3 => ?_) (fun h3 => ?_)
      · try simp only [decide_eq_true_eq, decide_eq_false_iff_not, Bool.not_eq_true', Bool.not_eq_false', beq_iff_eq, beq_eq_false_iff_ne, ne_eq] at h3
        refine at_seq rfl ?_
        refine rg rfl ?_
        refine Rq ?_
        have tr : ∀ y0 y1 y2 y3 y4 y5 y6 y29 y32 y33 y34 y46 y50 y51 y52 y64 z0 : AV, trim [(4, z0), (0, y0), (1, y1), (2, y2), (3, y3), (4, y4), (5, y5), (6, y6), (29, y29), (32, y32), (33, y33), (34, y34), (46, y46), (50, y50), (51, y51), (52, y52), (64, y64)] [(0, y0), (1, y1), (2, y2), (3, y3), (4, y4), (5, y5), (6, y6), (29, y29), (32, y32), (33, y33), (34, y34), (46, y46), (50, y50), (51, y51), (52, y52), (64, y64)] = [(0, y0), (1, y1), (2, y2), (3, y3), (4, z0), (5, y5), (6, y6), (29, y29), (32, y32), (33, y33), (34, y34), (46, y46), (50, y50), (51, y51), (52, y52), (64, y64)] := fun y0 y1 y2 y3 y4 y5 y6 y29 y32 y33 y34 y46 y50 y51 y52 y64 z0 => rfl
        refine R_nil (tr _ _ _ _ _ _ _ _ _ _ _ _ _ _ _ _ _) ?_; clear tr
        refine then_n ?_
        refine at_ret rfl ?_
        refine then_r ?_
        refine fpure ?_
        first | exact ⟨rfl, rfl⟩ | (exfalso; first | omega | exact absurd rfl (by assumption) | simp_all)
      · try simp only [decide_eq_true_eq, decide_eq_false_iff_not, Bool.not_eq_true', Bool.not_eq_false', beq_iff_eq, beq_eq_false_iff_ne, ne_eq] at h3
        refine at_skip rfl ?_
        refine then_n ?_
        refine at_seq rfl ?_
        refine at_seq rfl ?_
        refine rg rfl ?_
        refine Rq ?_
        refine Rq ?_
        refine Rq ?_
        refine Rq ?_
        have tr : ∀ y0 y1 y2 y3 y4 y5 y6 y29 y32 y33 y34 y46 y50 y51 y52 y64 z0 z1 z2 z3 : AV, trim [(33, z3), (32, z2), (31, z1), (30, z0), (0, y0), (1, y1), (2, y2), (3, y3), (4, y4), (5, y5), (6, y6), (29, y29), (32, y32), (33, y33), (34, y34), (46, y46), (50, y50), (51, y51), (52, y52), (64, y64)] [(0, y0), (1, y1), (2, y2), (3, y3), (4, y4), (5, y5), (6, y6), (29, y29), (32, y32), (33, y33), (34, y34), (46, y46), (50, y50), (51, y51), (52, y52), (64, y64)] = [(0, y0), (1, y1), (2, y2), (3, y3), (4, y4), (5, y5), (6, y6), (29, y29), (32, z2), (33, z3), (34, y34), (46, y46), (50, y50), (51, y51), (52, y52), (64, y64)] := fun y0 y1 y2 y3 y4 y5 y6 y29 y32 y33 y34 y46 y50 y51 y52 y64 z0 z1 z2 z3 => rfl
        refine R_nil (tr _ _ _ _ _ _ _ _ _ _ _ _ _ _ _ _ _ _ _ _) ?_; clear tr
        refine then_n ?_
        refine at_block rfl ?_
        refine loop_n rfl (fun mm kv H' => ∃ u : Nat, ∃ x4 x5 x34 x46 : AV, (kv = [(4, x4), (5, x5), (33, AV.i u), (34, x34), (46, x46)]) ∧ (mm = 0) ∧ (H' = H ++ [some [nilI, AV.i 0, nilI]] ++ [some [nilI, AV.i 0, nilI]]) ∧ (u = 0)) ⟨0, _, _, _, _, rfl, rfl, rfl, by rfl⟩ (by rfl) ?_
        rintro mm kv H' ⟨u, x4, x5, x34, x46, rfl, rfl, rfl, hu⟩
        have tr : ∀ y0 y1 y2 y3 y4 y5 y6 y29 y32 y33 y34 y46 y50 y51 y52 y64 z4 z5 z33 z34 z46 : AV, upd [(0, y0), (1, y1), (2, y2), (3, y3), (4, y4), (5, y5), (6, y6), (29, y29), (32, y32), (33, y33), (34, y34), (46, y46), (50, y50), (51, y51), (52, y52), (64, y64)] [(4, z4), (5, z5), (33, z33), (34, z34), (46, z46)] = [(0, y0), (1, y1), (2, y2), (3, y3), (4, z4), (5, z5), (6, y6), (29, y29), (32, y32), (33, z33), (34, z34), (46, z46), (50, y50), (51, y51), (52, y52), (64, y64)] := fun y0 y1 y2 y3 y4 y5 y6 y29 y32 y33 y34 y46 y50 y51 y52 y64 z4 z5 z33 z34 z46 => rfl
        refine W_to (tr _ _ _ _ _ _ _ _ _ _ _ _ _ _ _ _ _ _ _ _ _) ?_; clear tr
        refine at_seq rfl ?_
        refine rg rfl ?_
        refine Rq ?_
        have tr : ∀ y0 y1 y2 y3 y4 y5 y6 y29 y32 y33 y34 y46 y50 y51 y52 y64 z0 : AV, trim [(34, z0), (0, y0), (1, y1), (2, y2), (3, y3), (4, y4), (5, y5), (6, y6), (29, y29), (32, y32), (33, y33), (34, y34), (46, y46), (50, y50), (51, y51), (52, y52), (64, y64)] [(0, y0), (1, y1), (2, y2), (3, y3), (4, y4), (5, y5), (6, y6), (29, y29), (32, y32), (33, y33), (34, y34), (46, y46), (50, y50), (51, y51), (52, y52), (64, y64)] = [(0, y0), (1, y1), (2, y2), (3, y3), (4, y4), (5, y5), (6, y6), (29, y29), (32, y32), (33, y33), (34, z0), (46, y46), (50, y50), (51, y51), (52, y52), (64, y64)] := fun y0 y1 y2 y3 y4 y5 y6 y29 y32 y33 y34 y46 y50 y51 y52 y64 z0 => rfl
        refine R_nil (tr _ _ _ _ _ _ _ _ _ _ _ _ _ _ _ _ _) ?_; clear tr
        refine then_n ?_
        refine at_seq rfl ?_
        refine cdd (fun h4 => ?_) (fun h4 => ?_)
        · try simp only [decide_eq_true_eq, decide_eq_false_iff_not, Bool.not_eq_true', Bool.not_eq_false', beq_iff_eq, beq_eq_false_iff_ne, ne_eq] at h4
          refine at_skip rfl ?_
          refine then_n ?_
          refine at_seq rfl ?_
          refine at_block rfl ?_
          refine at_seq rfl ?_
          refine rg rfl ?_
          omega
        · try simp only [decide_eq_true_eq, decide_eq_false_iff_not, Bool.not_eq_true', Bool.not_eq_false', beq_iff_eq, beq_eq_false_iff_ne, ne_eq] at h4
          refine at_exit rfl ?_
          refine then_x ?_
          refine then_x ?_
          refine blk_x ?_
          refine then_n ?_
          refine at_seq rfl ?_
          refine at_seq rfl ?_
          refine rg rfl ?_
          refine Rq ?_
          refine Rq ?_
          refine Rq ?_
          refine Rq ?_
          have tr : ∀ y0 y1 y2 y3 y4 y5 y6 y29 y32 y33 y34 y46 y50 y51 y52 y64 z0 z1 z2 z3 : AV, trim [(51, z3), (50, z2), (49, z1), (48, z0), (0, y0), (1, y1), (2, y2), (3, y3), (4, y4), (5, y5), (6, y6), (29, y29), (32, y32), (33, y33), (34, y34), (46, y46), (50, y50), (51, y51), (52, y52), (64, y64)] [(0, y0), (1, y1), (2, y2), (3, y3), (4, y4), (5, y5), (6, y6), (29, y29), (32, y32), (33, y33), (34, y34), (46, y46), (50, y50), (51, y51), (52, y52), (64, y64)] = [(0, y0), (1, y1), (2, y2), (3, y3), (4, y4), (5, y5), (6, y6), (29, y29), (32, y32), (33, y33), (34, y34), (46, y46), (50, z2), (51, z3), (52, y52), (64, y64)] := fun y0 y1 y2 y3 y4 y5 y6 y29 y32 y33 y34 y46 y50 y51 y52 y64 z0 z1 z2 z3 => rfl
          refine R_nil (tr _ _ _ _ _ _ _ _ _ _ _ _ _ _ _ _ _ _ _ _) ?_; clear tr
          refine then_n ?_
          refine at_block rfl ?_
          refine loop_n rfl (fun mm kv H' => ∃ u : Nat, ∃ x4 x6 x52 x64 : AV, (kv = [(4, x4), (6, x6), (51, AV.i u), (52, x52), (64, x64)]) ∧ (mm = 0) ∧ (H' = H ++ [some [nilI, AV.i 0, nilI]] ++ [some [nilI, AV.i 0, nilI]]) ∧ (u = 0)) ⟨0, _, _, _, _, rfl, rfl, rfl, by rfl⟩ (by rfl) ?_
          rintro mm kv H' ⟨u, x4, x6, x52, x64, rfl, rfl, rfl, hu⟩
          have tr : ∀ y0 y1 y2 y3 y4 y5 y6 y29 y32 y33 y34 y46 y50 y51 y52 y64 z4 z6 z51 z52 z64 : AV, upd [(0, y0), (1, y1), (2, y2), (3, y3), (4, y4), (5, y5), (6, y6), (29, y29), (32, y32), (33, y33), (34, y34), (46, y46), (50, y50), (51, y51), (52, y52), (64, y64)] [(4, z4), (6, z6), (51, z51), (52, z52), (64, z64)] = [(0, y0), (1, y1), (2, y2), (3, y3), (4, z4), (5, y5), (6, z6), (29, y29), (32, y32), (33, y33), (34, y34), (46, y46), (50, y50), (51, z51), (52, z52), (64, z64)] := fun y0 y1 y2 y3 y4 y5 y6 y29 y32 y33 y34 y46 y50 y51 y52 y64 z4 z6 z51 z52 z64 => rfl
          refine W_to (tr _ _ _ _ _ _ _ _ _ _ _ _ _ _ _ _ _ _ _ _ _) ?_; clear tr
          refine at_seq rfl ?_
          refine rg rfl ?_
          refine Rq ?_
          have tr : ∀ y0 y1 y2 y3 y4 y5 y6 y29 y32 y33 y34 y46 y50 y51 y52 y64 z0 : AV, trim [(52, z0), (0, y0), (1, y1), (2, y2), (3, y3), (4, y4), (5, y5), (6, y6), (29, y29), (32, y32), (33, y33), (34, y34), (46, y46), (50, y50), (51, y51), (52, y52), (64, y64)] [(0, y0), (1, y1), (2, y2), (3, y3), (4, y4), (5, y5), (6, y6), (29, y29), (32, y32), (33, y33), (34, y34), (46, y46), (50, y50), (51, y51), (52, y52), (64, y64)] = [(0, y0), (1, y1), (2, y2), (3, y3), (4, y4), (5, y5), (6, y6), (29, y29), (32, y32), (33, y33), (34, y34), (46, y46), (50, y50), (51, y51), (52, z0), (64, y64)] := fun y0 y1 y2 y3 y4 y5 y6 y29 y32 y33 y34 y46 y50 y51 y52 y64 z0 => rfl
          refine R_nil (tr _ _ _ _ _ _ _ _ _ _ _ _ _ _ _ _ _) ?_; clear tr
          refine then_n ?_
          refine at_seq rfl ?_
          refine cdd (fun h5 => ?_) (fun h5 => ?_)
          · try simp only [decide_eq_true_eq, decide_eq_false_iff_not, Bool.not_eq_true', Bool.not_eq_false', beq_iff_eq, beq_eq_false_iff_ne, ne_eq] at h5
            refine at_skip rfl ?_
            refine then_n ?_
            refine at_seq rfl ?_
            refine at_block rfl ?_
            refine at_seq rfl ?_
            refine rg rfl ?_
            omega
          · try simp only [decide_eq_true_eq, decide_eq_false_iff_not, Bool.not_eq_true', Bool.not_eq_false', beq_iff_eq, beq_eq_false_iff_ne, ne_eq] at h5
            refine at_exit rfl ?_
            refine then_x ?_
            refine then_x ?_
            refine blk_x ?_
            refine then_n ?_
            refine at_seq rfl ?_
            refine rg rfl ?_
            refine Rq ?_
            have tr : ∀ y0 y1 y2 y3 y4 y5 y6 y29 y32 y33 y34 y46 y50 y51 y52 y64 z0 : AV, trim [(4, z0), (0, y0), (1, y1), (2, y2), (3, y3), (4, y4), (5, y5), (6, y6), (29, y29), (32, y32), (33, y33), (34, y34), (46, y46), (50, y50), (51, y51), (52, y52), (64, y64)] [(0, y0), (1, y1), (2, y2), (3, y3), (4, y4), (5, y5), (6, y6), (29, y29), (32, y32), (33, y33), (34, y34), (46, y46), (50, y50), (51, y51), (52, y52), (64, y64)] = [(0, y0), (1, y1), (2, y2), (3, y3), (4, z0), (5, y5), (6, y6), (29, y29), (32, y32), (33, y33), (34, y34), (46, y46), (50, y50), (51, y51), (52, y52), (64, y64)] := fun y0 y1 y2 y3 y4 y5 y6 y29 y32 y33 y34 y46 y50 y51 y52 y64 z0 => rfl
            refine R_nil (tr _ _ _ _ _ _ _ _ _ _ _ _ _ _ _ _ _) ?_; clear tr
            refine then_n ?_
            refine at_ret rfl ?_
            refine fpure ?_
            first | exact ⟨rfl, rfl⟩ | (exfalso; first | omega | exact absurd rfl (by assumption) | simp_all)

theorem equal_ints (lim : Nat) (H : Heap) (w K : List Int) (v : Int) (hw : w.length ≤ 200000) (hK : K.length ≤ 200000) : ACall sig lim 18 [planAV w v K, planAV w v K] H fun r H' => r = .v (.bool true) ∧ H' = H := by
  refine ACall_pure (fa := fa18) rfl rfl rfl rfl ?_
  have tr : ∀ a0 a1 : AV, env0 fa18.keep [a0, a1] = [(0, a0), (1, a1), (2, .any), (3, .any), (4, .any), (5, .any), (6, .any), (29, .any), (32, .any), (33, .any), (34, .any), (46, .any), (50, .any), (51, .any), (52, .any), (64, .any)] := fun a0 a1 => rfl
  refine W_to (tr _ _) ?_; clear tr
  refine at_seq rfl ?_
  refine rg rfl ?_
  refine R_box rfl (by simp (disch := first | omega | (simp only [List.length_map, List.length_append, List.length_set, List.length_cons, List.length_nil, List.length_take, List.length_drop]; omega)) only [go_sem, ↓reduceIte, Nat.reduceEqDiff, reduceCtorEq]; rfl) rfl rfl ?_
  refine R_box rfl (by simp (disch := first | omega | (simp only [List.length_map, List.length_append, List.length_set, List.length_cons, List.length_nil, List.length_take, List.length_drop]; omega)) only [go_sem, ↓reduceIte, Nat.reduceEqDiff, reduceCtorEq]; rfl) rfl rfl ?_
  refine Rq ?_
  have tr : ∀ y0 y1 y2 y3 y4 y5 y6 y29 y32 y33 y34 y46 y50 y51 y52 y64 z0 z1 z2 : AV, trim [(4, z2), (3, z1), (2, z0), (0, y0), (1, y1), (2, y2), (3, y3), (4, y4), (5, y5), (6, y6), (29, y29), (32, y32), (33, y33), (34, y34), (46, y46), (50, y50), (51, y51), (52, y52), (64, y64)] [(0, y0), (1, y1), (2, y2), (3, y3), (4, y4), (5, y5), (6, y6), (29, y29), (32, y32), (33, y33), (34, y34), (46, y46), (50, y50), (51, y51), (52, y52), (64, y64)] = [(0, y0), (1, y1), (2, z0), (3, z1), (4, z2), (5, y5), (6, y6), (29, y29), (32, y32), (33, y33), (34, y34), (46, y46), (50, y50), (51, y51), (52, y52), (64, y64)] := fun y0 y1 y2 y3 y4 y5 y6 y29 y32 y33 y34 y46 y50 y51 y52 y64 z0 z1 z2 => rfl
  refine R_nil (tr _ _ _ _ _ _ _ _ _ _ _ _ _ _ _ _ _ _ _) ?_; clear tr
  refine then_n ?_
  refine at_seq rfl ?_
  refine at_seq rfl ?_
  refine rg rfl ?_
  refine Rq ?_
  refine Rq ?_
  refine Rq ?_
  refine Rq ?_
  refine Rq ?_
  refine Rq ?_
  refine Rp_split (fun h1 => ?_) (fun h1 => ?_)
  · try simp only [decide_eq_true_eq, decide_eq_false_iff_not, Bool.not_eq_true', Bool.not_eq_false', beq_iff_eq, beq_eq_false_iff_ne, ne_eq] at h1
    refine Rn ?_
    refine Rn ?_
    refine Rn ?_
    refine Rn ?_
    refine Rn ?_
    refine Rn ?_
    refine Rn ?_
    refine Rq ?_
    refine Rq ?_
    refine Rn ?_
    refine Rn ?_
    refine Rn ?_
    refine Rn ?_
    refine Rn ?_
    refine Rn ?_
    refine Rn ?_
    refine Rq ?_
    have tr : ∀ y0 y1 y2 y3 y4 y5 y6 y29 y32 y33 y34 y46 y50 y51 y52 y64 z0 z1 z2 z3 z4 z5 z6 z7 z8 z9 z10 z11 z12 z13 z14 z15 z16 z17 z18 z19 z20 z21 z22 : AV, trim [(29, z22), (28, z21), (27, z20), (26, z19), (25, z18), (24, z17), (23, z16), (22, z15), (21, z14), (20, z13), (19, z12), (18, z11), (17, z10), (16, z9), (15, z8), (14, z7), (13, z6), (12, z5), (11, z4), (10, z3), (9, z2), (8, z1), (7, z0), (0, y0), (1, y1), (2, y2), (3, y3), (4, y4), (5, y5), (6, y6), (29, y29), (32, y32), (33, y33), (34, y34), (46, y46), (50, y50), (51, y51), (52, y52), (64, y64)] [(0, y0), (1, y1), (2, y2), (3, y3), (4, y4), (5, y5), (6, y6), (29, y29), (32, y32), (33, y33), (34, y34), (46, y46), (50, y50), (51, y51), (52, y52), (64, y64)] = [(0, y0), (1, y1), (2, y2), (3, y3), (4, y4), (5, y5), (6, y6), (29, z22), (32, y32), (33, y33), (34, y34), (46, y46), (50, y50), (51, y51), (52, y52), (64, y64)] := fun y0 y1 y2 y3 y4 y5 y6 y29 y32 y33 y34 y46 y50 y51 y52 y64 z0 z1 z2 z3 z4 z5 z6 z7 z8 z9 z10 z11 z12 z13 z14 z15 z16 z17 z18 z19 z20 z21 z22 => rfl
    refine R_nil (tr _ _ _ _ _ _ _ _ _ _ _ _ _ _ _ _ _ _ _ _ _ _ _ _ _ _ _ _ _ _ _ _ _ _ _ _ _ _ _) ?_; clear tr
    refine then_n ?_
    refine cdt ?_
    refine at_seq rfl ?_
    refine rg rfl ?_
    refine Rq ?_
    have tr : ∀ y0 y1 y2 y3 y4 y5 y6 y29 y32 y33 y34 y46 y50 y51 y52 y64 z0 : AV, trim [(4, z0), (0, y0), (1, y1), (2, y2), (3, y3), (4, y4), (5, y5), (6, y6), (29, y29), (32, y32), (33, y33), (34, y34), (46, y46), (50, y50), (51, y51), (52, y52), (64, y64)] [(0, y0), (1, y1), (2, y2), (3, y3), (4, y4), (5, y5), (6, y6), (29, y29), (32, y32), (33, y33), (34, y34), (46, y46), (50, y50), (51, y51), (52, y52), (64, y64)] = [(0, y0), (1, y1), (2, y2), (3, y3), (4, z0), (5, y5), (6, y6), (29, y29), (32, y32), (33, y33), (34, y34), (46, y46), (50, y50), (51, y51), (52, y52), (64, y64)] := fun y0 y1 y2 y3 y4 y5 y6 y29 y32 y33 y34 y46 y50 y51 y52 y64 z0 => rfl
    refine R_nil (tr _ _ _ _ _ _ _ _ _ _ _ _ _ _ _ _ _) ?_; clear tr
    refine then_n ?_
    refine at_ret rfl ?_
    refine then_r ?_
    refine fpure ?_
    first | exact ⟨rfl, rfl⟩ | (exfalso; first | omega | exact absurd rfl (by assumption) | simp_all)
  · try simp only [decide_eq_true_eq, decide_eq_false_iff_not, Bool.not_eq_true', Bool.not_eq_false', beq_iff_eq, beq_eq_false_iff_ne, ne_eq] at h1
    refine Ry ?_
    refine Rq ?_
    refine Ry ?_
    refine Rq ?_
    refine Ry ?_
    refine Rq ?_
    refine Ry ?_
    refine Rq ?_
    refine Ry ?_
    refine Rq ?_
    refine Ry ?_
    refine Rq ?_
    refine Ry ?_
    refine Rq ?_
    refine Rq ?_
    refine Rq ?_
    refine Rp_split (fun h2 => ?_) (fun h2 => ?_)
    · try simp only [decide_eq_true_eq, decide_eq_false_iff_not, Bool.not_eq_true', Bool.not_eq_false', beq_iff_eq, beq_eq_false_iff_ne, ne_eq] at h2
      refine Rn ?_
      refine Rn ?_
      refine Rn ?_
      refine Rn ?_
      refine Rn ?_
      refine Rn ?_
      refine Rn ?_
      refine Rq ?_
      have tr : ∀ y0 y1 y2 y3 y4 y5 y6 y29 y32 y33 y34 y46 y50 y51 y52 y64 z0 z1 z2 z3 z4 z5 z6 z7 z8 z9 z10 z11 z12 z13 z14 z15 z16 z17 z18 z19 z20 z21 z22 : AV, trim [(29, z22), (28, z21), (27, z20), (26, z19), (25, z18), (24, z17), (23, z16), (22, z15), (21, z14), (20, z13), (19, z12), (18, z11), (17, z10), (16, z9), (15, z8), (14, z7), (13, z6), (12, z5), (11, z4), (10, z3), (9, z2), (8, z1), (7, z0), (0, y0), (1, y1), (2, y2), (3, y3), (4, y4), (5, y5), (6, y6), (29, y29), (32, y32), (33, y33), (34, y34), (46, y46), (50, y50), (51, y51), (52, y52), (64, y64)] [(0, y0), (1, y1), (2, y2), (3, y3), (4, y4), (5, y5), (6, y6), (29, y29), (32, y32), (33, y33), (34, y34), (46, y46), (50, y50), (51, y51), (52, y52), (64, y64)] = [(0, y0), (1, y1), (2, y2), (3, y3), (4, y4), (5, y5), (6, y6), (29, z22), (32, y32), (33, y33), (34, y34), (46, y46), (50, y50), (51, y51), (52, y52), (64, y64)] := fun y0 y1 y2 y3 y4 y5 y6 y29 y32 y33 y34 y46 y50 y51 y52 y64 z0 z1 z2 z3 z4 z5 z6 z7 z8 z9 z10 z11 z12 z13 z14 z15 z16 z17 z18 z19 z20 z21 z22 => rfl
      refine R_nil (tr _ _ _ _ _ _ _ _ _ _ _ _ _ _ _ _ _ _ _ _ _ _ _ _ _ _ _ _ _ _ _ _ _ _ _ _ _ _ _) ?_; clear tr
      refine then_n ?_
      refine cdt ?_
      refine at_seq rfl ?_
      refine rg rfl ?_
      refine Rq ?_
      have tr : ∀ y0 y1 y2 y3 y4 y5 y6 y29 y32 y33 y34 y46 y50 y51 y52 y64 z0 : AV, trim [(4, z0), (0, y0), (1, y1), (2, y2), (3, y3), (4, y4), (5, y5), (6, y6), (29, y29), (32, y32), (33, y33), (34, y34), (46, y46), (50, y50), (51, y51), (52, y52), (64, y64)] [(0, y0), (1, y1), (2, y2), (3, y3), (4, y4), (5, y5), (6, y6), (29, y29), (32, y32), (33, y33), (34, y34), (46, y46), (50, y50), (51, y51), (52, y52), (64, y64)] = [(0, y0), (1, y1), (2, y2), (3, y3), (4, z0), (5, y5), (6, y6), (29, y29), (32, y32), (33, y33), (34, y34), (46, y46), (50, y50), (51, y51), (52, y52), (64, y64)] := fun y0 y1 y2 y3 y4 y5 y6 y29 y32 y33 y34 y46 y50 y51 y52 y64 z0 => rfl
      refine R_nil (tr _ _ _ _ _ _ _ _ _ _ _ _ _ _ _ _ _) ?_; clear tr
      refine then_n ?_
      refine at_ret rfl ?_
      refine then_r ?_
      refine fpure ?_
      first | exact ⟨rfl, rfl⟩ | (exfalso; first | omega | exact absurd rfl (by assumption) | simp_all)
    · try simp only [decide_eq_true_eq, decide_eq_false_iff_not, Bool.not_eq_true', Bool.not_eq_false', beq_iff_eq, beq_eq_false_iff_ne, ne_eq] at h2
      refine Ry ?_
      refine Rq ?_
      refine Ry ?_
      refine Rq ?_
      refine Ry ?_
      refine Rq ?_
      refine Ry ?_
      refine Rq ?_
      refine Ry ?_
      refine Rq ?_
      refine Ry ?_
      refine Rq ?_
      refine Ry ?_
      refine Rq ?_
      refine Rq ?_
      have tr : ∀ y0 y1 y2 y3 y4 y5 y6 y29 y32 y33 y34 y46 y50 y51 y52 y64 z0 z1 z2 z3 z4 z5 z6 z7 z8 z9 z10 z11 z12 z13 z14 z15 z16 z17 z18 z19 z20 z21 z22 : AV, trim [(29, z22), (28, z21), (27, z20), (26, z19), (25, z18), (24, z17), (23, z16), (22, z15), (21, z14), (20, z13), (19, z12), (18, z11), (17, z10), (16, z9), (15, z8), (14, z7), (13, z6), (12, z5), (11, z4), (10, z3), (9, z2), (8, z1), (7, z0), (0, y0), (1, y1), (2, y2), (3, y3), (4, y4), (5, y5), (6, y6), (29, y29), (32, y32), (33, y33), (34, y34), (46, y46), (50, y50), (51, y51), (52, y52), (64, y64)] [(0, y0), (1, y1), (2, y2), (3, y3), (4, y4), (5, y5), (6, y6), (29, y29), (32, y32), (33, y33), (34, y34), (46, y46), (50, y50), (51, y51), (52, y52), (64, y64)] = [(0, y0), (1, y1), (2, y2), (3, y3), (4, y4), (5, y5), (6, y6), (29, z22), (32, y32), (33, y33), (34, y34), (46, y46), (50, y50), (51, y51), (52, y52), (64, y64)] := fun y0 y1 y2 y3 y4 y5 y6 y29 y32 y33 y34 y46 y50 y51 y52 y64 z0 z1 z2 z3 z4 z5 z6 z7 z8 z9 z10 z11 z12 z13 z14 z15 z16 z17 z18 z19 z20 z21 z22 => rfl
      refine R_nil (tr _ _ _ _ _ _ _ _ _ _ _ _ _ _ _ _ _ _ _ _ _ _ _ _ _ _ _ _ _ _ _ _ _ _ _ _ _ _ _) ?_; clear tr
      refine then_n ?_
      refine cdd (fun h3 => ?_) (fun h3 => ?_)
      · try simp only [decide_eq_true_eq, decide_eq_false_iff_not, Bool.not_eq_true', Bool.not_eq_false', beq_iff_eq, beq_eq_false_iff_ne, ne_eq] at h3
        refine at_seq rfl ?_
        refine rg rfl ?_
        refine Rq ?_
        have tr : ∀ y0 y1 y2 y3 y4 y5 y6 y29 y32 y33 y34 y46 y50 y51 y52 y64 z0 : AV, trim [(4, z0), (0, y0), (1, y1), (2, y2), (3, y3), (4, y4), (5, y5), (6, y6), (29, y29), (32, y32), (33, y33), (34, y34), (46, y46), (50, y50), (51, y51), (52, y52), (64, y64)] [(0, y0), (1, y1), (2, y2), (3, y3), (4, y4), (5, y5), (6, y6), (29, y29), (32, y32), (33, y33), (34, y34), (46, y46), (50, y50), (51, y51), (52, y52), (64, y64)] = [(0, y0), (1, y1), (2, y2), (3, y3), (4, z0), (5, y5), (6, y6), (29, y29), (32, y32), (33, y33), (34, y34), (46, y46), (50, y50), (51, y51), (52, y52), (64, y64)] := fun y0 y1 y2 y3 y4 y5 y6 y29 y32 y33 y34 y46 y50 y51 y52 y64 z0 => rfl
        refine R_nil (tr _ _ _ _ _ _ _ _ _ _ _ _ _ _ _ _ _) ?_; clear tr
        refine then_n ?_
        refine at_ret rfl ?_
        refine then_r ?_
        refine fpure ?_
        first | exact ⟨rfl, rfl⟩ | (exfalso; first | omega | exact absurd rfl (by assumption) | simp_all)
      · try simp only [decide_eq_true_eq, decide_eq_false_iff_not, Bool.not_eq_true', Bool.not_eq_false', beq_iff_eq, beq_eq_false_iff_ne, ne_eq] at h3
        refine at_skip rfl ?_
        refine then_n ?_
        refine at_seq rfl ?_
        refine at_seq rfl ?_
        refine rg rfl ?_
        refine Rq ?_
        refine Rq ?_
        refine Rq ?_
        refine Rq ?_
        have tr : ∀ y0 y1 y2 y3 y4 y5 y6 y29 y32 y33 y34 y46 y50 y51 y52 y64 z0 z1 z2 z3 : AV, trim [(33, z3), (32, z2), (31, z1), (30, z0), (0, y0), (1, y1), (2, y2), (3, y3), (4, y4), (5, y5), (6, y6), (29, y29), (32, y32), (33, y33), (34, y34), (46, y46), (50, y50), (51, y51), (52, y52), (64, y64)] [(0, y0), (1, y1), (2, y2), (3, y3), (4, y4), (5, y5), (6, y6), (29, y29), (32, y32), (33, y33), (34, y34), (46, y46), (50, y50), (51, y51), (52, y52), (64, y64)] = [(0, y0), (1, y1), (2, y2), (3, y3), (4, y4), (5, y5), (6, y6), (29, y29), (32, z2), (33, z3), (34, y34), (46, y46), (50, y50), (51, y51), (52, y52), (64, y64)] := fun y0 y1 y2 y3 y4 y5 y6 y29 y32 y33 y34 y46 y50 y51 y52 y64 z0 z1 z2 z3 => rfl
        refine R_nil (tr _ _ _ _ _ _ _ _ _ _ _ _ _ _ _ _ _ _ _ _) ?_; clear tr
        refine then_n ?_
        refine at_block rfl ?_
        refine loop_n rfl (fun mm kv H' => ∃ u : Nat, ∃ x4 x5 x34 x46 : AV, (kv = [(4, x4), (5, x5), (33, AV.i u), (34, x34), (46, x46)]) ∧ (mm = w.length - u) ∧ (H' = H ++ [some [intsAV w, AV.i v, intsAV K]] ++ [some [intsAV w, AV.i v, intsAV K]]) ∧ (u ≤ w.length)) ⟨0, _, _, _, _, rfl, rfl, rfl, by omega⟩ (by rfl) ?_
        rintro mm kv H' ⟨u, x4, x5, x34, x46, rfl, rfl, rfl, hu⟩
        have tr : ∀ y0 y1 y2 y3 y4 y5 y6 y29 y32 y33 y34 y46 y50 y51 y52 y64 z4 z5 z33 z34 z46 : AV, upd [(0, y0), (1, y1), (2, y2), (3, y3), (4, y4), (5, y5), (6, y6), (29, y29), (32, y32), (33, y33), (34, y34), (46, y46), (50, y50), (51, y51), (52, y52), (64, y64)] [(4, z4), (5, z5), (33, z33), (34, z34), (46, z46)] = [(0, y0), (1, y1), (2, y2), (3, y3), (4, z4), (5, z5), (6, y6), (29, y29), (32, y32), (33, z33), (34, z34), (46, z46), (50, y50), (51, y51), (52, y52), (64, y64)] := fun y0 y1 y2 y3 y4 y5 y6 y29 y32 y33 y34 y46 y50 y51 y52 y64 z4 z5 z33 z34 z46 => rfl
        refine W_to (tr _ _ _ _ _ _ _ _ _ _ _ _ _ _ _ _ _ _ _ _ _) ?_; clear tr
        refine at_seq rfl ?_
        refine rg rfl ?_
        refine Rq ?_
        have tr : ∀ y0 y1 y2 y3 y4 y5 y6 y29 y32 y33 y34 y46 y50 y51 y52 y64 z0 : AV, trim [(34, z0), (0, y0), (1, y1), (2, y2), (3, y3), (4, y4), (5, y5), (6, y6), (29, y29), (32, y32), (33, y33), (34, y34), (46, y46), (50, y50), (51, y51), (52, y52), (64, y64)] [(0, y0), (1, y1), (2, y2), (3, y3), (4, y4), (5, y5), (6, y6), (29, y29), (32, y32), (33, y33), (34, y34), (46, y46), (50, y50), (51, y51), (52, y52), (64, y64)] = [(0, y0), (1, y1), (2, y2), (3, y3), (4, y4), (5, y5), (6, y6), (29, y29), (32, y32), (33, y33), (34, z0), (46, y46), (50, y50), (51, y51), (52, y52), (64, y64)] := fun y0 y1 y2 y3 y4 y5 y6 y29 y32 y33 y34 y46 y50 y51 y52 y64 z0 => rfl
        refine R_nil (tr _ _ _ _ _ _ _ _ _ _ _ _ _ _ _ _ _) ?_; clear tr
        refine then_n ?_
        refine at_seq rfl ?_
        refine cdd (fun h4 => ?_) (fun h4 => ?_)
        · try simp only [decide_eq_true_eq, decide_eq_false_iff_not, Bool.not_eq_true', Bool.not_eq_false', beq_iff_eq, beq_eq_false_iff_ne, ne_eq] at h4
          refine at_skip rfl ?_
          refine then_n ?_
          refine at_seq rfl ?_
          refine at_block rfl ?_
          refine at_seq rfl ?_
          refine rg rfl ?_
          refine Rq ?_
          refine Rq ?_
          have tr : ∀ y0 y1 y2 y3 y4 y5 y6 y29 y32 y33 y34 y46 y50 y51 y52 y64 z0 z1 : AV, trim [(5, z1), (35, z0), (0, y0), (1, y1), (2, y2), (3, y3), (4, y4), (5, y5), (6, y6), (29, y29), (32, y32), (33, y33), (34, y34), (46, y46), (50, y50), (51, y51), (52, y52), (64, y64)] [(0, y0), (1, y1), (2, y2), (3, y3), (4, y4), (5, y5), (6, y6), (29, y29), (32, y32), (33, y33), (34, y34), (46, y46), (50, y50), (51, y51), (52, y52), (64, y64)] = [(0, y0), (1, y1), (2, y2), (3, y3), (4, y4), (5, z1), (6, y6), (29, y29), (32, y32), (33, y33), (34, y34), (46, y46), (50, y50), (51, y51), (52, y52), (64, y64)] := fun y0 y1 y2 y3 y4 y5 y6 y29 y32 y33 y34 y46 y50 y51 y52 y64 z0 z1 => rfl
          refine R_nil (tr _ _ _ _ _ _ _ _ _ _ _ _ _ _ _ _ _ _) ?_; clear tr
          refine then_n ?_
          refine at_seq rfl ?_
          refine rd rfl rfl ?_
          refine Qq ?_
          refine Qq ?_
          refine Qq ?_
          refine Qq ?_
          refine Qq ?_
          refine Qq ?_
          refine Qq ?_
          refine Qq ?_
          refine Qq ?_
          refine Qq ?_
          refine Qq ?_
          refine Q_nil ?_
          have tr : ∀ y0 y1 y2 y3 y4 y5 y6 y29 y32 y33 y34 y46 y50 y51 y52 y64 z0 z1 z2 z3 z4 z5 z6 z7 z8 z9 z10 : AV, trim [(46, z10), (45, z9), (44, z8), (43, z7), (42, z6), (41, z5), (40, z4), (39, z3), (38, z2), (37, z1), (36, z0), (0, y0), (1, y1), (2, y2), (3, y3), (4, y4), (5, y5), (6, y6), (29, y29), (32, y32), (33, y33), (34, y34), (46, y46), (50, y50), (51, y51), (52, y52), (64, y64)] [(0, y0), (1, y1), (2, y2), (3, y3), (4, y4), (5, y5), (6, y6), (29, y29), (32, y32), (33, y33), (34, y34), (46, y46), (50, y50), (51, y51), (52, y52), (64, y64)] = [(0, y0), (1, y1), (2, y2), (3, y3), (4, y4), (5, y5), (6, y6), (29, y29), (32, y32), (33, y33), (34, y34), (46, z10), (50, y50), (51, y51), (52, y52), (64, y64)] := fun y0 y1 y2 y3 y4 y5 y6 y29 y32 y33 y34 y46 y50 y51 y52 y64 z0 z1 z2 z3 z4 z5 z6 z7 z8 z9 z10 => rfl
          refine R_nil (tr _ _ _ _ _ _ _ _ _ _ _ _ _ _ _ _ _ _ _ _ _ _ _ _ _ _ _) ?_; clear tr
          refine then_n ?_
          refine cdd (fun h5 => ?_) (fun h5 => ?_)
          · try simp only [decide_eq_true_eq, decide_eq_false_iff_not, Bool.not_eq_true', Bool.not_eq_false', beq_iff_eq, beq_eq_false_iff_ne, ne_eq] at h5
            refine at_seq rfl ?_
            refine rg rfl ?_
            refine Rq ?_
            have tr : ∀ y0 y1 y2 y3 y4 y5 y6 y29 y32 y33 y34 y46 y50 y51 y52 y64 z0 : AV, trim [(4, z0), (0, y0), (1, y1), (2, y2), (3, y3), (4, y4), (5, y5), (6, y6), (29, y29), (32, y32), (33, y33), (34, y34), (46, y46), (50, y50), (51, y51), (52, y52), (64, y64)] [(0, y0), (1, y1), (2, y2), (3, y3), (4, y4), (5, y5), (6, y6), (29, y29), (32, y32), (33, y33), (34, y34), (46, y46), (50, y50), (51, y51), (52, y52), (64, y64)] = [(0, y0), (1, y1), (2, y2), (3, y3), (4, z0), (5, y5), (6, y6), (29, y29), (32, y32), (33, y33), (34, y34), (46, y46), (50, y50), (51, y51), (52, y52), (64, y64)] := fun y0 y1 y2 y3 y4 y5 y6 y29 y32 y33 y34 y46 y50 y51 y52 y64 z0 => rfl
            refine R_nil (tr _ _ _ _ _ _ _ _ _ _ _ _ _ _ _ _ _) ?_; clear tr
            refine then_n ?_
            refine at_ret rfl ?_
            refine blk_r ?_
            refine then_r ?_
            refine then_r ?_
            refine blk_r ?_
            refine then_r ?_
            refine fpure ?_
            first | exact ⟨rfl, rfl⟩ | (exfalso; first | omega | exact absurd rfl (by assumption) | simp_all)
          · try simp only [decide_eq_true_eq, decide_eq_false_iff_not, Bool.not_eq_true', Bool.not_eq_false', beq_iff_eq, beq_eq_false_iff_ne, ne_eq] at h5
            refine at_skip rfl ?_
            refine blk_n ?_
            refine then_n ?_
            refine rg rfl ?_
            refine Rq ?_
            refine Rq ?_
            have tr : ∀ y0 y1 y2 y3 y4 y5 y6 y29 y32 y33 y34 y46 y50 y51 y52 y64 z0 z1 : AV, trim [(33, z1), (47, z0), (0, y0), (1, y1), (2, y2), (3, y3), (4, y4), (5, y5), (6, y6), (29, y29), (32, y32), (33, y33), (34, y34), (46, y46), (50, y50), (51, y51), (52, y52), (64, y64)] [(0, y0), (1, y1), (2, y2), (3, y3), (4, y4), (5, y5), (6, y6), (29, y29), (32, y32), (33, y33), (34, y34), (46, y46), (50, y50), (51, y51), (52, y52), (64, y64)] = [(0, y0), (1, y1), (2, y2), (3, y3), (4, y4), (5, y5), (6, y6), (29, y29), (32, y32), (33, z1), (34, y34), (46, y46), (50, y50), (51, y51), (52, y52), (64, y64)] := fun y0 y1 y2 y3 y4 y5 y6 y29 y32 y33 y34 y46 y50 y51 y52 y64 z0 z1 => rfl
            refine R_nil (tr _ _ _ _ _ _ _ _ _ _ _ _ _ _ _ _ _ _) ?_; clear tr
            refine then_n ?_
            exact ⟨_, _, ⟨u + 1, _, _, _, _, rfl, rfl, rfl, by omega⟩, by rfl, by omega⟩
        · try simp only [decide_eq_true_eq, decide_eq_false_iff_not, Bool.not_eq_true', Bool.not_eq_false', beq_iff_eq, beq_eq_false_iff_ne, ne_eq] at h4
          refine at_exit rfl ?_
          refine then_x ?_
          refine then_x ?_
          refine blk_x ?_
          refine then_n ?_
          refine at_seq rfl ?_
          refine at_seq rfl ?_
          refine rg rfl ?_
          refine Rq ?_
          refine Rq ?_
          refine Rq ?_
          refine Rq ?_
          have tr : ∀ y0 y1 y2 y3 y4 y5 y6 y29 y32 y33 y34 y46 y50 y51 y52 y64 z0 z1 z2 z3 : AV, trim [(51, z3), (50, z2), (49, z1), (48, z0), (0, y0), (1, y1), (2, y2), (3, y3), (4, y4), (5, y5), (6, y6), (29, y29), (32, y32), (33, y33), (34, y34), (46, y46), (50, y50), (51, y51), (52, y52), (64, y64)] [(0, y0), (1, y1), (2, y2), (3, y3), (4, y4), (5, y5), (6, y6), (29, y29), (32, y32), (33, y33), (34, y34), (46, y46), (50, y50), (51, y51), (52, y52), (64, y64)] = [(0, y0), (1, y1), (2, y2), (3, y3), (4, y4), (5, y5), (6, y6), (29, y29), (32, y32), (33, y33), (34, y34), (46, y46), (50, z2), (51, z3), (52, y52), (64, y64)] := fun y0 y1 y2 y3 y4 y5 y6 y29 y32 y33 y34 y46 y50 y51 y52 y64 z0 z1 z2 z3 => rfl
          refine R_nil (tr _ _ _ _ _ _ _ _ _ _ _ _ _ _ _ _ _ _ _ _) ?_; clear tr
          refine then_n ?_
          refine at_block rfl ?_
          refine loop_n rfl (fun mm kv H' => ∃ u : Nat, ∃ x4 x6 x52 x64 : AV, (kv = [(4, x4), (6, x6), (51, AV.i u), (52, x52), (64, x64)]) ∧ (mm = K.length - u) ∧ (H' = H ++ [some [intsAV w, AV.i v, intsAV K]] ++ [some [intsAV w, AV.i v, intsAV K]]) ∧ (u ≤ K.length)) ⟨0, _, _, _, _, rfl, rfl, rfl, by omega⟩ (by rfl) ?_
          rintro mm kv H' ⟨u, x4, x6, x52, x64, rfl, rfl, rfl, hu⟩
          have tr : ∀ y0 y1 y2 y3 y4 y5 y6 y29 y32 y33 y34 y46 y50 y51 y52 y64 z4 z6 z51 z52 z64 : AV, upd [(0, y0), (1, y1), (2, y2), (3, y3), (4, y4), (5, y5), (6, y6), (29, y29), (32, y32), (33, y33), (34, y34), (46, y46), (50, y50), (51, y51), (52, y52), (64, y64)] [(4, z4), (6, z6), (51, z51), (52, z52), (64, z64)] = [(0, y0), (1, y1), (2, y2), (3, y3), (4, z4), (5, y5), (6, z6), (29, y29), (32, y32), (33, y33), (34, y34), (46, y46), (50, y50), (51, z51), (52, z52), (64, z64)] := fun y0 y1 y2 y3 y4 y5 y6 y29 y32 y33 y34 y46 y50 y51 y52 y64 z4 z6 z51 z52 z64 => rfl
          refine W_to (tr _ _ _ _ _ _ _ _ _ _ _ _ _ _ _ _ _ _ _ _ _) ?_; clear tr
          refine at_seq rfl ?_
          refine rg rfl ?_
          refine Rq ?_
          have tr : ∀ y0 y1 y2 y3 y4 y5 y6 y29 y32 y33 y34 y46 y50 y51 y52 y64 z0 : AV, trim [(52, z0), (0, y0), (1, y1), (2, y2), (3, y3), (4, y4), (5, y5), (6, y6), (29, y29), (32, y32), (33, y33), (34, y34), (46, y46), (50, y50), (51, y51), (52, y52), (64, y64)] [(0, y0), (1, y1), (2, y2), (3, y3), (4, y4), (5, y5), (6, y6), (29, y29), (32, y32), (33, y33), (34, y34), (46, y46), (50, y50), (51, y51), (52, y52), (64, y64)] = [(0, y0), (1, y1), (2, y2), (3, y3), (4, y4), (5, y5), (6, y6), (29, y29), (32, y32), (33, y33), (34, y34), (46, y46), (50, y50), (51, y51), (52, z0), (64, y64)] := fun y0 y1 y2 y3 y4 y5 y6 y29 y32 y33 y34 y46 y50 y51 y52 y64 z0 => rfl
          refine R_nil (tr _ _ _ _ _ _ _ _ _ _ _ _ _ _ _ _ _) ?_; clear tr
          refine then_n ?_
          refine at_seq rfl ?_
          refine cdd (fun h6 => ?_) (fun h6 => ?_)
          · try simp only [decide_eq_true_eq, decide_eq_false_iff_not, Bool.not_eq_true', Bool.not_eq_false', beq_iff_eq, beq_eq_false_iff_ne, ne_eq] at h6
            refine at_skip rfl ?_
            refine then_n ?_
            refine at_seq rfl ?_
            refine at_block rfl ?_
            refine at_seq rfl ?_
            refine rg rfl ?_
            refine Rq ?_
            refine Rq ?_
            have tr : ∀ y0 y1 y2 y3 y4 y5 y6 y29 y32 y33 y34 y46 y50 y51 y52 y64 z0 z1 : AV, trim [(6, z1), (53, z0), (0, y0), (1, y1), (2, y2), (3, y3), (4, y4), (5, y5), (6, y6), (29, y29), (32, y32), (33, y33), (34, y34), (46, y46), (50, y50), (51, y51), (52, y52), (64, y64)] [(0, y0), (1, y1), (2, y2), (3, y3), (4, y4), (5, y5), (6, y6), (29, y29), (32, y32), (33, y33), (34, y34), (46, y46), (50, y50), (51, y51), (52, y52), (64, y64)] = [(0, y0), (1, y1), (2, y2), (3, y3), (4, y4), (5, y5), (6, z1), (29, y29), (32, y32), (33, y33), (34, y34), (46, y46), (50, y50), (51, y51), (52, y52), (64, y64)] := fun y0 y1 y2 y3 y4 y5 y6 y29 y32 y33 y34 y46 y50 y51 y52 y64 z0 z1 => rfl
            refine R_nil (tr _ _ _ _ _ _ _ _ _ _ _ _ _ _ _ _ _ _) ?_; clear tr
            refine then_n ?_
            refine at_seq rfl ?_
            refine rd rfl rfl ?_
            refine Qq ?_
            refine Qq ?_
            refine Qq ?_
            refine Qq ?_
            refine Qq ?_
            refine Qq ?_
            refine Qq ?_
            refine Qq ?_
            refine Qq ?_
            refine Qq ?_
            refine Qq ?_
            refine Q_nil ?_
            have tr : ∀ y0 y1 y2 y3 y4 y5 y6 y29 y32 y33 y34 y46 y50 y51 y52 y64 z0 z1 z2 z3 z4 z5 z6 z7 z8 z9 z10 : AV, trim [(64, z10), (63, z9), (62, z8), (61, z7), (60, z6), (59, z5), (58, z4), (57, z3), (56, z2), (55, z1), (54, z0), (0, y0), (1, y1), (2, y2), (3, y3), (4, y4), (5, y5), (6, y6), (29, y29), (32, y32), (33, y33), (34, y34), (46, y46), (50, y50), (51, y51), (52, y52), (64, y64)] [(0, y0), (1, y1), (2, y2), (3, y3), (4, y4), (5, y5), (6, y6), (29, y29), (32, y32), (33, y33), (34, y34), (46, y46), (50, y50), (51, y51), (52, y52), (64, y64)] = [(0, y0), (1, y1), (2, y2), (3, y3), (4, y4), (5, y5), (6, y6), (29, y29), (32, y32), (33, y33), (34, y34), (46, y46), (50, y50), (51, y51), (52, y52), (64, z10)] := fun y0 y1 y2 y3 y4 y5 y6 y29 y32 y33 y34 y46 y50 y51 y52 y64 z0 z1 z2 z3 z4 z5 z6 z7 z8 z9 z10 => rfl
            refine R_nil (tr _ _ _ _ _ _ _ _ _ _ _ _ _ _ _ _ _ _ _ _ _ _ _ _ _ _ _) ?_; clear tr
            refine then_n ?_
            refine cdd (fun h7 => ?_) (fun h7 => ?_)
            · try simp only [decide_eq_true_eq, decide_eq_false_iff_not, Bool.not_eq_true', Bool.not_eq_false', beq_iff_eq, beq_eq_false_iff_ne, ne_eq] at h7
              refine at_seq rfl ?_
              refine rg rfl ?_
              refine Rq ?_
              have tr : ∀ y0 y1 y2 y3 y4 y5 y6 y29 y32 y33 y34 y46 y50 y51 y52 y64 z0 : AV, trim [(4, z0), (0, y0), (1, y1), (2, y2), (3, y3), (4, y4), (5, y5), (6, y6), (29, y29), (32, y32), (33, y33), (34, y34), (46, y46), (50, y50), (51, y51), (52, y52), (64, y64)] [(0, y0), (1, y1), (2, y2), (3, y3), (4, y4), (5, y5), (6, y6), (29, y29), (32, y32), (33, y33), (34, y34), (46, y46), (50, y50), (51, y51), (52, y52), (64, y64)] = [(0, y0), (1, y1), (2, y2), (3, y3), (4, z0), (5, y5), (6, y6), (29, y29), (32, y32), (33, y33), (34, y34), (46, y46), (50, y50), (51, y51), (52, y52), (64, y64)] := fun y0 y1 y2 y3 y4 y5 y6 y29 y32 y33 y34 y46 y50 y51 y52 y64 z0 => rfl
              refine R_nil (tr _ _ _ _ _ _ _ _ _ _ _ _ _ _ _ _ _) ?_; clear tr
              refine then_n ?_
              refine at_ret rfl ?_
              refine blk_r ?_
              refine then_r ?_
              refine then_r ?_
              refine blk_r ?_
              refine then_r ?_
              refine fpure ?_
              first | exact ⟨rfl, rfl⟩ | (exfalso; first | omega | exact absurd rfl (by assumption) | simp_all)
            · try simp only [decide_eq_true_eq, decide_eq_false_iff_not, Bool.not_eq_true', Bool.not_eq_false', beq_iff_eq, beq_eq_false_iff_ne, ne_eq] at h7
              refine at_skip rfl ?_
              refine blk_n ?_
              refine then_n ?_
              refine rg rfl ?_
              refine Rq ?_
              refine Rq ?_
              have tr : ∀ y0 y1 y2 y3 y4 y5 y6 y29 y32 y33 y34 y46 y50 y51 y52 y64 z0 z1 : AV, trim [(51, z1), (65, z0), (0, y0), (1, y1), (2, y2), (3, y3), (4, y4), (5, y5), (6, y6), (29, y29), (32, y32), (33, y33), (34, y34), (46, y46), (50, y50), (51, y51), (52, y52), (64, y64)] [(0, y0), (1, y1), (2, y2), (3, y3), (4, y4), (5, y5), (6, y6), (29, y29), (32, y32), (33, y33), (34, y34), (46, y46), (50, y50), (51, y51), (52, y52), (64, y64)] = [(0, y0), (1, y1), (2, y2), (3, y3), (4, y4), (5, y5), (6, y6), (29, y29), (32, y32), (33, y33), (34, y34), (46, y46), (50, y50), (51, z1), (52, y52), (64, y64)] := fun y0 y1 y2 y3 y4 y5 y6 y29 y32 y33 y34 y46 y50 y51 y52 y64 z0 z1 => rfl
              refine R_nil (tr _ _ _ _ _ _ _ _ _ _ _ _ _ _ _ _ _ _) ?_; clear tr
              refine then_n ?_
              exact ⟨_, _, ⟨u + 1, _, _, _, _, rfl, rfl, rfl, by omega⟩, by rfl, by omega⟩
          · try simp only [decide_eq_true_eq, decide_eq_false_iff_not, Bool.not_eq_true', Bool.not_eq_false', beq_iff_eq, beq_eq_false_iff_ne, ne_eq] at h6
            refine at_exit rfl ?_
            refine then_x ?_
            refine then_x ?_
            refine blk_x ?_
            refine then_n ?_
            refine at_seq rfl ?_
            refine rg rfl ?_
            refine Rq ?_
            have tr : ∀ y0 y1 y2 y3 y4 y5 y6 y29 y32 y33 y34 y46 y50 y51 y52 y64 z0 : AV, trim [(4, z0), (0, y0), (1, y1), (2, y2), (3, y3), (4, y4), (5, y5), (6, y6), (29, y29), (32, y32), (33, y33), (34, y34), (46, y46), (50, y50), (51, y51), (52, y52), (64, y64)] [(0, y0), (1, y1), (2, y2), (3, y3), (4, y4), (5, y5), (6, y6), (29, y29), (32, y32), (33, y33), (34, y34), (46, y46), (50, y50), (51, y51), (52, y52), (64, y64)] = [(0, y0), (1, y1), (2, y2), (3, y3), (4, z0), (5, y5), (6, y6), (29, y29), (32, y32), (33, y33), (34, y34), (46, y46), (50, y50), (51, y51), (52, y52), (64, y64)] := fun y0 y1 y2 y3 y4 y5 y6 y29 y32 y33 y34 y46 y50 y51 y52 y64 z0 => rfl
            refine R_nil (tr _ _ _ _ _ _ _ _ _ _ _ _ _ _ _ _ _) ?_; clear tr
            refine then_n ?_
            refine at_ret rfl ?_
            refine fpure ?_
            first | exact ⟨rfl, rfl⟩ | (exfalso; first | omega | exact absurd rfl (by assumption) | simp_all)

theorem equal_plan (lim : Nat) (H : Heap) {rows : Tb} {q la0 : Int} {r p : AV} {e : Int} (hp : PlanR rows q la0 r) (hr : r = .tup [p, .i e]) : ACall sig lim 18 [p, p] H fun r H' => r = .v (.bool true) ∧ H' = H := by
  cases hp with
  | bad h => cases hr; exact equal_nil lim H
  | none h hp => cases hr; exact equal_nil lim H
  | plan h hp hK hw hl =>
    cases hr
    have g := good_of h
    have h1 := num_bd g
    have h2 := hK.1
    have h3 := g.most
    exact equal_ints lim H _ _ _ (by omega) (by omega)
theorem plan_tup {rows : Tb} {q la0 : Int} {r : AV} (hp : PlanR rows q la0 r) : ∃ x v y e, r = .tup [.agg [x, .i v, y], .i e] ∧ storable x = true ∧ storable y = true := by
  cases hp with
  | bad h => exact ⟨_, _, _, _, rfl, rfl, rfl⟩
  | none h hp => exact ⟨_, _, _, _, rfl, rfl, rfl⟩
  | plan h hp hK hw hl => exact ⟨_, _, _, _, rfl, rfl, rfl⟩
end Go.Proofs.Ytmkalakojfpfgaa
