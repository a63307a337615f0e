/-
  Walks of chapter 46. The steps are written by program (walk.py).
-/
import Derived.Test.YtmkalakojfpfgaaP
set_option linter.unusedSimpArgs false
set_option linter.unusedVariables false
set_option maxHeartbeats 40000000
set_option maxRecDepth 4000
namespace Go.Proofs.Ytmkalakojfpfgaa
open Go Go.Am

theorem tiny_ok (lim : Nat) (H : Heap) (rows : Tb) (q la : Int) (hL : rows.length ≤ 9223372036854775807) :
    ACall sig lim 8 [.agg [rowsAV rows, AV.i q, AV.i la]] H fun r H' => (∃ b, r = .v (.bool b)) ∧ H' = H := by
  refine ACall_pure (fa := fa8) rfl rfl rfl rfl ?_
  have tr : ∀ a0 : AV, env0 fa8.keep [a0] = [(0, a0), (1, .any), (2, .any), (3, .any), (5, .any), (7, .any), (8, .any), (9, .any), (10, .any)] := fun a0 => rfl
  refine W_to (tr _) ?_; clear tr
  refine at_seq rfl ?_
  refine rg rfl ?_
  refine R_box rfl (by simp (disch := first | omega | (simp only [List.length_map, List.length_append, List.length_set, List.length_cons, List.length_nil, List.length_take, List.length_drop]; omega)) only [go_sem, ↓reduceIte, Nat.reduceEqDiff, reduceCtorEq]; rfl) rfl rfl ?_
  refine Rq ?_
  have tr : ∀ y0 y1 y2 y3 y5 y7 y8 y9 y10 z0 z1 : AV, trim [(2, z1), (1, z0), (0, y0), (1, y1), (2, y2), (3, y3), (5, y5), (7, y7), (8, y8), (9, y9), (10, y10)] [(0, y0), (1, y1), (2, y2), (3, y3), (5, y5), (7, y7), (8, y8), (9, y9), (10, y10)] = [(0, y0), (1, z0), (2, z1), (3, y3), (5, y5), (7, y7), (8, y8), (9, y9), (10, y10)] := fun y0 y1 y2 y3 y5 y7 y8 y9 y10 z0 z1 => rfl
  refine R_nil (tr _ _ _ _ _ _ _ _ _ _ _) ?_; clear tr
  refine then_n ?_
  refine at_seq rfl ?_
  refine rg rfl ?_
  refine Rq ?_
  have tr : ∀ y0 y1 y2 y3 y5 y7 y8 y9 y10 z0 : AV, trim [(3, z0), (0, y0), (1, y1), (2, y2), (3, y3), (5, y5), (7, y7), (8, y8), (9, y9), (10, y10)] [(0, y0), (1, y1), (2, y2), (3, y3), (5, y5), (7, y7), (8, y8), (9, y9), (10, y10)] = [(0, y0), (1, y1), (2, y2), (3, z0), (5, y5), (7, y7), (8, y8), (9, y9), (10, y10)] := fun y0 y1 y2 y3 y5 y7 y8 y9 y10 z0 => rfl
  refine R_nil (tr _ _ _ _ _ _ _ _ _ _) ?_; clear tr
  refine then_n ?_
  refine at_seq rfl ?_
  refine at_seq rfl ?_
  refine rg rfl ?_
  refine Rq ?_
  refine Rq ?_
  refine Rq ?_
  refine Rq ?_
  have tr : ∀ y0 y1 y2 y3 y5 y7 y8 y9 y10 z0 z1 z2 z3 : AV, trim [(9, z3), (8, z2), (7, z1), (6, z0), (0, y0), (1, y1), (2, y2), (3, y3), (5, y5), (7, y7), (8, y8), (9, y9), (10, y10)] [(0, y0), (1, y1), (2, y2), (3, y3), (5, y5), (7, y7), (8, y8), (9, y9), (10, y10)] = [(0, y0), (1, y1), (2, y2), (3, y3), (5, y5), (7, z1), (8, z2), (9, z3), (10, y10)] := fun y0 y1 y2 y3 y5 y7 y8 y9 y10 z0 z1 z2 z3 => rfl
  refine R_nil (tr _ _ _ _ _ _ _ _ _ _ _ _ _) ?_; clear tr
  refine then_n ?_
  refine at_block rfl ?_
  refine loop_n rfl (fun mm kv H' => ∃ u : Nat, ∃ n : Int, ∃ x5 x10 : AV, (kv = [(3, AV.i n), (5, x5), (9, AV.i u), (10, x10)]) ∧ (mm = rows.length - u) ∧ (H' = H ++ [some [rowsAV rows, AV.i q, AV.i la]]) ∧ (u ≤ rows.length)) ⟨0, 0, _, _, rfl, rfl, rfl, by omega⟩ (by rfl) ?_
  rintro mm kv H' ⟨u, n, x5, x10, rfl, rfl, rfl, hu⟩
  have tr : ∀ y0 y1 y2 y3 y5 y7 y8 y9 y10 z3 z5 z9 z10 : AV, upd [(0, y0), (1, y1), (2, y2), (3, y3), (5, y5), (7, y7), (8, y8), (9, y9), (10, y10)] [(3, z3), (5, z5), (9, z9), (10, z10)] = [(0, y0), (1, y1), (2, y2), (3, z3), (5, z5), (7, y7), (8, y8), (9, z9), (10, z10)] := fun y0 y1 y2 y3 y5 y7 y8 y9 y10 z3 z5 z9 z10 => rfl
  refine W_to (tr _ _ _ _ _ _ _ _ _ _ _ _ _) ?_; clear tr
  refine at_seq rfl ?_
  refine rg rfl ?_
  refine Rq ?_
  have tr : ∀ y0 y1 y2 y3 y5 y7 y8 y9 y10 z0 : AV, trim [(10, z0), (0, y0), (1, y1), (2, y2), (3, y3), (5, y5), (7, y7), (8, y8), (9, y9), (10, y10)] [(0, y0), (1, y1), (2, y2), (3, y3), (5, y5), (7, y7), (8, y8), (9, y9), (10, y10)] = [(0, y0), (1, y1), (2, y2), (3, y3), (5, y5), (7, y7), (8, y8), (9, y9), (10, z0)] := fun y0 y1 y2 y3 y5 y7 y8 y9 y10 z0 => rfl
  refine R_nil (tr _ _ _ _ _ _ _ _ _ _) ?_; clear tr
  refine then_n ?_
  refine at_seq rfl ?_
  refine cdd (fun h1 => ?_) (fun h1 => ?_)
  · try simp only [decide_eq_true_eq, decide_eq_false_iff_not, Bool.not_eq_true', Bool.not_eq_false', beq_iff_eq, beq_eq_false_iff_ne, ne_eq] at h1
    refine at_skip rfl ?_
    refine then_n ?_
    refine at_seq rfl ?_
    refine at_block rfl ?_
    refine at_seq rfl ?_
    refine rg rfl ?_
    refine Rq ?_
    refine Rq ?_
    refine Rq ?_
    have tr : ∀ y0 y1 y2 y3 y5 y7 y8 y9 y10 z0 z1 z2 : AV, trim [(5, z2), (12, z1), (11, z0), (0, y0), (1, y1), (2, y2), (3, y3), (5, y5), (7, y7), (8, y8), (9, y9), (10, y10)] [(0, y0), (1, y1), (2, y2), (3, y3), (5, y5), (7, y7), (8, y8), (9, y9), (10, y10)] = [(0, y0), (1, y1), (2, y2), (3, y3), (5, z2), (7, y7), (8, y8), (9, y9), (10, y10)] := fun y0 y1 y2 y3 y5 y7 y8 y9 y10 z0 z1 z2 => rfl
    refine R_nil (tr _ _ _ _ _ _ _ _ _ _ _ _) ?_; clear tr
    refine then_n ?_
    refine rg rfl ?_
    refine Rq ?_
    refine Rq ?_
    refine Rq ?_
    refine Rq ?_
    refine Rq ?_
    have tr : ∀ y0 y1 y2 y3 y5 y7 y8 y9 y10 z0 z1 z2 z3 z4 : AV, trim [(3, z4), (16, z3), (15, z2), (14, z1), (13, z0), (0, y0), (1, y1), (2, y2), (3, y3), (5, y5), (7, y7), (8, y8), (9, y9), (10, y10)] [(0, y0), (1, y1), (2, y2), (3, y3), (5, y5), (7, y7), (8, y8), (9, y9), (10, y10)] = [(0, y0), (1, y1), (2, y2), (3, z4), (5, y5), (7, y7), (8, y8), (9, y9), (10, y10)] := fun y0 y1 y2 y3 y5 y7 y8 y9 y10 z0 z1 z2 z3 z4 => rfl
    refine R_nil (tr _ _ _ _ _ _ _ _ _ _ _ _ _ _) ?_; clear tr
    refine blk_n ?_
    refine then_n ?_
    refine rg rfl ?_
    refine Rq ?_
    refine Rq ?_
    have tr : ∀ y0 y1 y2 y3 y5 y7 y8 y9 y10 z0 z1 : AV, trim [(9, z1), (17, z0), (0, y0), (1, y1), (2, y2), (3, y3), (5, y5), (7, y7), (8, y8), (9, y9), (10, y10)] [(0, y0), (1, y1), (2, y2), (3, y3), (5, y5), (7, y7), (8, y8), (9, y9), (10, y10)] = [(0, y0), (1, y1), (2, y2), (3, y3), (5, y5), (7, y7), (8, y8), (9, z1), (10, y10)] := fun y0 y1 y2 y3 y5 y7 y8 y9 y10 z0 z1 => rfl
    refine R_nil (tr _ _ _ _ _ _ _ _ _ _ _) ?_; clear tr
    refine then_n ?_
    exact ⟨_, _, ⟨u + 1, _, _, _, rfl, rfl, rfl, by omega⟩, by rfl, by omega⟩
  · try simp only [decide_eq_true_eq, decide_eq_false_iff_not, Bool.not_eq_true', Bool.not_eq_false', beq_iff_eq, beq_eq_false_iff_ne, ne_eq] at h1
    refine at_exit rfl ?_
    refine then_x ?_
    refine then_x ?_
    refine blk_x ?_
    refine then_n ?_
    refine at_seq rfl ?_
    refine rg rfl ?_
    refine Rq ?_
    refine Rq ?_
    refine Rq ?_
    refine Rq ?_
    refine Rq ?_
    refine Rp_split (fun h2 => ?_) (fun h2 => ?_)
    · try simp only [decide_eq_true_eq, decide_eq_false_iff_not, Bool.not_eq_true', Bool.not_eq_false', beq_iff_eq, beq_eq_false_iff_ne, ne_eq] at h2
      refine Ry ?_
      refine Rq ?_
      refine Ry ?_
      refine Rq ?_
      refine Rq ?_
      refine Rq ?_
      have tr : ∀ y0 y1 y2 y3 y5 y7 y8 y9 y10 z0 z1 z2 z3 z4 z5 z6 z7 z8 : AV, trim [(2, z8), (25, z7), (24, z6), (23, z5), (22, z4), (21, z3), (20, z2), (19, z1), (18, z0), (0, y0), (1, y1), (2, y2), (3, y3), (5, y5), (7, y7), (8, y8), (9, y9), (10, y10)] [(0, y0), (1, y1), (2, y2), (3, y3), (5, y5), (7, y7), (8, y8), (9, y9), (10, y10)] = [(0, y0), (1, y1), (2, z8), (3, y3), (5, y5), (7, y7), (8, y8), (9, y9), (10, y10)] := fun y0 y1 y2 y3 y5 y7 y8 y9 y10 z0 z1 z2 z3 z4 z5 z6 z7 z8 => rfl
      refine R_nil (tr _ _ _ _ _ _ _ _ _ _ _ _ _ _ _ _ _ _) ?_; clear tr
      refine then_n ?_
      refine at_ret rfl ?_
      refine fpure ?_
      exact ⟨⟨_, rfl⟩, rfl⟩
    · try simp only [decide_eq_true_eq, decide_eq_false_iff_not, Bool.not_eq_true', Bool.not_eq_false', beq_iff_eq, beq_eq_false_iff_ne, ne_eq] at h2
      refine Rn ?_
      refine Rn ?_
      refine Rq ?_
      refine Rq ?_
      have tr : ∀ y0 y1 y2 y3 y5 y7 y8 y9 y10 z0 z1 z2 z3 z4 z5 z6 z7 z8 : AV, trim [(2, z8), (25, z7), (24, z6), (23, z5), (22, z4), (21, z3), (20, z2), (19, z1), (18, z0), (0, y0), (1, y1), (2, y2), (3, y3), (5, y5), (7, y7), (8, y8), (9, y9), (10, y10)] [(0, y0), (1, y1), (2, y2), (3, y3), (5, y5), (7, y7), (8, y8), (9, y9), (10, y10)] = [(0, y0), (1, y1), (2, z8), (3, y3), (5, y5), (7, y7), (8, y8), (9, y9), (10, y10)] := fun y0 y1 y2 y3 y5 y7 y8 y9 y10 z0 z1 z2 z3 z4 z5 z6 z7 z8 => rfl
      refine R_nil (tr _ _ _ _ _ _ _ _ _ _ _ _ _ _ _ _ _ _) ?_; clear tr
      refine then_n ?_
      refine at_ret rfl ?_
      refine fpure ?_
      exact ⟨⟨_, rfl⟩, rfl⟩

theorem states_ok (lim : Nat) (H : Heap) (q : Int) (b : Nat) (hq1 : 1 ≤ q) (hq2 : q ≤ 12) (hb1 : 1 ≤ b) (hb2 : b ≤ 6) :
    ACall sig lim 21 [AV.i q, AV.i b] H fun r H' => r = AV.i (stV q ((b : Int) + 1) b) ∧ H' = H := by
  refine ACall_pure (fa := fa21) rfl rfl rfl rfl ?_
  have tr : ∀ a0 a1 : AV, env0 fa21.keep [a0, a1] = [(0, a0), (1, a1), (4, .any), (5, .any), (8, .any), (9, .any), (10, .any), (16, .any)] := fun a0 a1 => rfl
  refine W_to (tr _ _) ?_; clear tr
  refine at_seq rfl ?_
  refine rg rfl ?_
  refine Rq ?_
  have tr : ∀ y0 y1 y4 y5 y8 y9 y10 y16 z0 : AV, trim [(4, z0), (0, y0), (1, y1), (4, y4), (5, y5), (8, y8), (9, y9), (10, y10), (16, y16)] [(0, y0), (1, y1), (4, y4), (5, y5), (8, y8), (9, y9), (10, y10), (16, y16)] = [(0, y0), (1, y1), (4, z0), (5, y5), (8, y8), (9, y9), (10, y10), (16, y16)] := fun y0 y1 y4 y5 y8 y9 y10 y16 z0 => rfl
  refine R_nil (tr _ _ _ _ _ _ _ _ _) ?_; clear tr
  refine then_n ?_
  refine at_seq rfl ?_
  refine rg rfl ?_
  refine Rq ?_
  refine Rq ?_
  refine Rq ?_
  have tr : ∀ y0 y1 y4 y5 y8 y9 y10 y16 z0 z1 z2 : AV, trim [(5, z2), (7, z1), (6, z0), (0, y0), (1, y1), (4, y4), (5, y5), (8, y8), (9, y9), (10, y10), (16, y16)] [(0, y0), (1, y1), (4, y4), (5, y5), (8, y8), (9, y9), (10, y10), (16, y16)] = [(0, y0), (1, y1), (4, y4), (5, z2), (8, y8), (9, y9), (10, y10), (16, y16)] := fun y0 y1 y4 y5 y8 y9 y10 y16 z0 z1 z2 => rfl
  refine R_nil (tr _ _ _ _ _ _ _ _ _ _ _) ?_; clear tr
  refine then_n ?_
  refine at_seq rfl ?_
  refine at_seq rfl ?_
  refine rg rfl ?_
  refine Rq ?_
  refine Rq ?_
  have tr : ∀ y0 y1 y4 y5 y8 y9 y10 y16 z0 z1 : AV, trim [(9, z1), (8, z0), (0, y0), (1, y1), (4, y4), (5, y5), (8, y8), (9, y9), (10, y10), (16, y16)] [(0, y0), (1, y1), (4, y4), (5, y5), (8, y8), (9, y9), (10, y10), (16, y16)] = [(0, y0), (1, y1), (4, y4), (5, y5), (8, z0), (9, z1), (10, y10), (16, y16)] := fun y0 y1 y4 y5 y8 y9 y10 y16 z0 z1 => rfl
  refine R_nil (tr _ _ _ _ _ _ _ _ _ _) ?_; clear tr
  refine then_n ?_
  refine at_block rfl ?_
  refine loop_n rfl (fun mm kv H' => ∃ u : Nat, ∃ n : Int, ∃ x4 x10 x16 : AV, (kv = [(4, x4), (5, AV.i n), (9, AV.i u), (10, x10), (16, x16)]) ∧ (mm = b - u) ∧ (H' = H) ∧ (u ≤ b) ∧ (0 < n) ∧ (n ≤ 200000) ∧ (stV q n (b - u) = stV q ((b : Int) + 1) b)) ⟨0, (b : Int) + 1, _, _, _, rfl, rfl, rfl, by omega, by omega, by omega, by rfl⟩ (by rfl) ?_
  rintro mm kv H' ⟨u, n, x4, x10, x16, rfl, rfl, rfl, hu, hn0, hn1, hs⟩
  have tr : ∀ y0 y1 y4 y5 y8 y9 y10 y16 z4 z5 z9 z10 z16 : AV, upd [(0, y0), (1, y1), (4, y4), (5, y5), (8, y8), (9, y9), (10, y10), (16, y16)] [(4, z4), (5, z5), (9, z9), (10, z10), (16, z16)] = [(0, y0), (1, y1), (4, z4), (5, z5), (8, y8), (9, z9), (10, z10), (16, z16)] := fun y0 y1 y4 y5 y8 y9 y10 y16 z4 z5 z9 z10 z16 => rfl
  refine W_to (tr _ _ _ _ _ _ _ _ _ _ _ _ _) ?_; clear tr
  refine at_seq rfl ?_
  refine rg rfl ?_
  refine Rq ?_
  have tr : ∀ y0 y1 y4 y5 y8 y9 y10 y16 z0 : AV, trim [(10, z0), (0, y0), (1, y1), (4, y4), (5, y5), (8, y8), (9, y9), (10, y10), (16, y16)] [(0, y0), (1, y1), (4, y4), (5, y5), (8, y8), (9, y9), (10, y10), (16, y16)] = [(0, y0), (1, y1), (4, y4), (5, y5), (8, y8), (9, y9), (10, z0), (16, y16)] := fun y0 y1 y4 y5 y8 y9 y10 y16 z0 => rfl
  refine R_nil (tr _ _ _ _ _ _ _ _ _) ?_; clear tr
  refine then_n ?_
  refine at_seq rfl ?_
  refine cdd (fun h1 => ?_) (fun h1 => ?_)
  · try simp only [decide_eq_true_eq, decide_eq_false_iff_not, Bool.not_eq_true', Bool.not_eq_false', beq_iff_eq, beq_eq_false_iff_ne, ne_eq] at h1
    refine at_skip rfl ?_
    refine then_n ?_
    refine at_seq rfl ?_
    refine at_block rfl ?_
    refine at_seq rfl ?_
    refine rg rfl ?_
    have hm := mul_in hn0 hn1 hq1 hq2
    refine Rq ?_
    refine Rq ?_
    refine Rq ?_
    refine Rq ?_
    refine Rq ?_
    have tr : ∀ y0 y1 y4 y5 y8 y9 y10 y16 z0 z1 z2 z3 z4 : AV, trim [(5, z4), (14, z3), (13, z2), (12, z1), (11, z0), (0, y0), (1, y1), (4, y4), (5, y5), (8, y8), (9, y9), (10, y10), (16, y16)] [(0, y0), (1, y1), (4, y4), (5, y5), (8, y8), (9, y9), (10, y10), (16, y16)] = [(0, y0), (1, y1), (4, y4), (5, z4), (8, y8), (9, y9), (10, y10), (16, y16)] := fun y0 y1 y4 y5 y8 y9 y10 y16 z0 z1 z2 z3 z4 => rfl
    refine R_nil (tr _ _ _ _ _ _ _ _ _ _ _ _ _) ?_; clear tr
    refine then_n ?_
    refine at_seq rfl ?_
    refine rg rfl ?_
    refine Rq ?_
    refine Rq ?_
    have tr : ∀ y0 y1 y4 y5 y8 y9 y10 y16 z0 z1 : AV, trim [(16, z1), (15, z0), (0, y0), (1, y1), (4, y4), (5, y5), (8, y8), (9, y9), (10, y10), (16, y16)] [(0, y0), (1, y1), (4, y4), (5, y5), (8, y8), (9, y9), (10, y10), (16, y16)] = [(0, y0), (1, y1), (4, y4), (5, y5), (8, y8), (9, y9), (10, y10), (16, z1)] := fun y0 y1 y4 y5 y8 y9 y10 y16 z0 z1 => rfl
    refine R_nil (tr _ _ _ _ _ _ _ _ _ _) ?_; clear tr
    refine then_n ?_
    refine cdd (fun h2 => ?_) (fun h2 => ?_)
    · try simp only [decide_eq_true_eq, decide_eq_false_iff_not, Bool.not_eq_true', Bool.not_eq_false', beq_iff_eq, beq_eq_false_iff_ne, ne_eq] at h2
      refine at_seq rfl ?_
      refine rg rfl ?_
      refine Rq ?_
      refine Rq ?_
      have tr : ∀ y0 y1 y4 y5 y8 y9 y10 y16 z0 z1 : AV, trim [(4, z1), (17, z0), (0, y0), (1, y1), (4, y4), (5, y5), (8, y8), (9, y9), (10, y10), (16, y16)] [(0, y0), (1, y1), (4, y4), (5, y5), (8, y8), (9, y9), (10, y10), (16, y16)] = [(0, y0), (1, y1), (4, z1), (5, y5), (8, y8), (9, y9), (10, y10), (16, y16)] := fun y0 y1 y4 y5 y8 y9 y10 y16 z0 z1 => rfl
      refine R_nil (tr _ _ _ _ _ _ _ _ _ _) ?_; clear tr
      refine then_n ?_
      refine at_ret rfl ?_
      refine blk_r ?_
      refine then_r ?_
      refine then_r ?_
      refine blk_r ?_
      refine then_r ?_
      refine fpure ?_
      refine ⟨?_, rfl⟩
      rw [← hs, stV_out (by omega) (by omega)]
    · try simp only [decide_eq_true_eq, decide_eq_false_iff_not, Bool.not_eq_true', Bool.not_eq_false', beq_iff_eq, beq_eq_false_iff_ne, ne_eq] at h2
      refine at_skip rfl ?_
      refine blk_n ?_
      refine then_n ?_
      refine rg rfl ?_
      refine Rq ?_
      refine Rq ?_
      have tr : ∀ y0 y1 y4 y5 y8 y9 y10 y16 z0 z1 : AV, trim [(9, z1), (18, z0), (0, y0), (1, y1), (4, y4), (5, y5), (8, y8), (9, y9), (10, y10), (16, y16)] [(0, y0), (1, y1), (4, y4), (5, y5), (8, y8), (9, y9), (10, y10), (16, y16)] = [(0, y0), (1, y1), (4, y4), (5, y5), (8, y8), (9, z1), (10, y10), (16, y16)] := fun y0 y1 y4 y5 y8 y9 y10 y16 z0 z1 => rfl
      refine R_nil (tr _ _ _ _ _ _ _ _ _ _) ?_; clear tr
      refine then_n ?_
      exact ⟨_, _, ⟨u + 1, n * (q + 1), _, _, _, rfl, rfl, rfl, by omega, by exact hm.1, by omega, by rw [stV_step (by omega) (by omega)]; exact hs⟩, by rfl, by omega⟩
  · try simp only [decide_eq_true_eq, decide_eq_false_iff_not, Bool.not_eq_true', Bool.not_eq_false', beq_iff_eq, beq_eq_false_iff_ne, ne_eq] at h1
    refine at_exit rfl ?_
    refine then_x ?_
    refine then_x ?_
    refine blk_x ?_
    refine then_n ?_
    refine at_seq rfl ?_
    refine rg rfl ?_
    refine Rq ?_
    refine Rq ?_
    have tr : ∀ y0 y1 y4 y5 y8 y9 y10 y16 z0 z1 : AV, trim [(4, z1), (19, z0), (0, y0), (1, y1), (4, y4), (5, y5), (8, y8), (9, y9), (10, y10), (16, y16)] [(0, y0), (1, y1), (4, y4), (5, y5), (8, y8), (9, y9), (10, y10), (16, y16)] = [(0, y0), (1, y1), (4, z1), (5, y5), (8, y8), (9, y9), (10, y10), (16, y16)] := fun y0 y1 y4 y5 y8 y9 y10 y16 z0 z1 => rfl
    refine R_nil (tr _ _ _ _ _ _ _ _ _ _) ?_; clear tr
    refine then_n ?_
    refine at_ret rfl ?_
    refine fpure ?_
    refine ⟨?_, rfl⟩
    obtain rfl : u = b := by omega
    rw [← hs, stV_end]

theorem size_ok (lim : Nat) (H : Heap) (rows : Tb) (q la : Int) (hr : 0 < rows.length) (hq1 : 1 ≤ q) (hq2 : q ≤ 12) (hb1 : 1 ≤ (gt rows 0).length) (hb2 : (gt rows 0).length ≤ 6) :
    ACall sig lim 22 [.agg [rowsAV rows, AV.i q, AV.i la]] H fun r H' => r = AV.i (szS rows q) ∧ H' = H := by
  refine ACall_pure (fa := fa22) rfl rfl rfl rfl ?_
  have tr : ∀ a0 : AV, env0 fa22.keep [a0] = [(0, a0), (1, .any), (2, .any), (3, .any), (4, .any), (12, .any), (13, .any), (14, .any), (21, .any)] := fun a0 => rfl
  refine W_to (tr _) ?_; clear tr
  refine at_seq rfl ?_
  refine rg rfl ?_
  refine R_box rfl (by simp (disch := first | omega | (simp only [List.length_map, List.length_append, List.length_set, List.length_cons, List.length_nil, List.length_take, List.length_drop]; omega)) only [go_sem, ↓reduceIte, Nat.reduceEqDiff, reduceCtorEq]; rfl) rfl rfl ?_
  refine Rq ?_
  have tr : ∀ y0 y1 y2 y3 y4 y12 y13 y14 y21 z0 z1 : AV, trim [(2, z1), (1, z0), (0, y0), (1, y1), (2, y2), (3, y3), (4, y4), (12, y12), (13, y13), (14, y14), (21, y21)] [(0, y0), (1, y1), (2, y2), (3, y3), (4, y4), (12, y12), (13, y13), (14, y14), (21, y21)] = [(0, y0), (1, z0), (2, z1), (3, y3), (4, y4), (12, y12), (13, y13), (14, y14), (21, y21)] := fun y0 y1 y2 y3 y4 y12 y13 y14 y21 z0 z1 => rfl
  refine R_nil (tr _ _ _ _ _ _ _ _ _ _ _) ?_; clear tr
  refine then_n ?_
  refine at_seq rfl ?_
  refine rg rfl ?_
  refine Rq ?_
  refine Rq ?_
  refine Rq ?_
  refine Rq ?_
  refine Rq ?_
  refine Rq ?_
  have tr : ∀ y0 y1 y2 y3 y4 y12 y13 y14 y21 z0 z1 z2 z3 z4 z5 : AV, trim [(3, z5), (9, z4), (8, z3), (7, z2), (6, z1), (5, z0), (0, y0), (1, y1), (2, y2), (3, y3), (4, y4), (12, y12), (13, y13), (14, y14), (21, y21)] [(0, y0), (1, y1), (2, y2), (3, y3), (4, y4), (12, y12), (13, y13), (14, y14), (21, y21)] = [(0, y0), (1, y1), (2, y2), (3, z5), (4, y4), (12, y12), (13, y13), (14, y14), (21, y21)] := fun y0 y1 y2 y3 y4 y12 y13 y14 y21 z0 z1 z2 z3 z4 z5 => rfl
  refine R_nil (tr _ _ _ _ _ _ _ _ _ _ _ _ _ _ _) ?_; clear tr
  refine then_n ?_
  refine at_seq rfl ?_
  refine rg rfl ?_
  refine Rq ?_
  refine Rq ?_
  refine Rq ?_
  have tr : ∀ y0 y1 y2 y3 y4 y12 y13 y14 y21 z0 z1 z2 : AV, trim [(4, z2), (11, z1), (10, z0), (0, y0), (1, y1), (2, y2), (3, y3), (4, y4), (12, y12), (13, y13), (14, y14), (21, y21)] [(0, y0), (1, y1), (2, y2), (3, y3), (4, y4), (12, y12), (13, y13), (14, y14), (21, y21)] = [(0, y0), (1, y1), (2, y2), (3, y3), (4, z2), (12, y12), (13, y13), (14, y14), (21, y21)] := fun y0 y1 y2 y3 y4 y12 y13 y14 y21 z0 z1 z2 => rfl
  refine R_nil (tr _ _ _ _ _ _ _ _ _ _ _ _) ?_; clear tr
  refine then_n ?_
  refine at_seq rfl ?_
  refine at_seq rfl ?_
  refine rg rfl ?_
  refine Rq ?_
  refine Rq ?_
  have tr : ∀ y0 y1 y2 y3 y4 y12 y13 y14 y21 z0 z1 : AV, trim [(13, z1), (12, z0), (0, y0), (1, y1), (2, y2), (3, y3), (4, y4), (12, y12), (13, y13), (14, y14), (21, y21)] [(0, y0), (1, y1), (2, y2), (3, y3), (4, y4), (12, y12), (13, y13), (14, y14), (21, y21)] = [(0, y0), (1, y1), (2, y2), (3, y3), (4, y4), (12, z0), (13, z1), (14, y14), (21, y21)] := fun y0 y1 y2 y3 y4 y12 y13 y14 y21 z0 z1 => rfl
  refine R_nil (tr _ _ _ _ _ _ _ _ _ _ _) ?_; clear tr
  refine then_n ?_
  refine at_block rfl ?_
  refine loop_n rfl (fun mm kv H' => ∃ u : Nat, ∃ n : Int, ∃ x2 x14 x21 : AV, (kv = [(2, x2), (4, AV.i n), (13, AV.i u), (14, x14), (21, x21)]) ∧ (mm = (gt rows 0).length - u) ∧ (H' = H ++ [some [rowsAV rows, AV.i q, AV.i la]]) ∧ (u ≤ (gt rows 0).length) ∧ (0 < n) ∧ (n ≤ 200000) ∧ (stV q n ((gt rows 0).length - u) = stN rows q)) ⟨0, ((gt rows 0).length : Int) + 1, _, _, _, rfl, rfl, rfl, by omega, by omega, by omega, by rfl⟩ (by rfl) ?_
  rintro mm kv H' ⟨u, n, x2, x14, x21, rfl, rfl, rfl, hu, hn0, hn1, hs⟩
  have tr : ∀ y0 y1 y2 y3 y4 y12 y13 y14 y21 z2 z4 z13 z14 z21 : AV, upd [(0, y0), (1, y1), (2, y2), (3, y3), (4, y4), (12, y12), (13, y13), (14, y14), (21, y21)] [(2, z2), (4, z4), (13, z13), (14, z14), (21, z21)] = [(0, y0), (1, y1), (2, z2), (3, y3), (4, z4), (12, y12), (13, z13), (14, z14), (21, z21)] := fun y0 y1 y2 y3 y4 y12 y13 y14 y21 z2 z4 z13 z14 z21 => rfl
  refine W_to (tr _ _ _ _ _ _ _ _ _ _ _ _ _ _) ?_; clear tr
  refine at_seq rfl ?_
  refine rg rfl ?_
  refine Rq ?_
  have tr : ∀ y0 y1 y2 y3 y4 y12 y13 y14 y21 z0 : AV, trim [(14, z0), (0, y0), (1, y1), (2, y2), (3, y3), (4, y4), (12, y12), (13, y13), (14, y14), (21, y21)] [(0, y0), (1, y1), (2, y2), (3, y3), (4, y4), (12, y12), (13, y13), (14, y14), (21, y21)] = [(0, y0), (1, y1), (2, y2), (3, y3), (4, y4), (12, y12), (13, y13), (14, z0), (21, y21)] := fun y0 y1 y2 y3 y4 y12 y13 y14 y21 z0 => rfl
  refine R_nil (tr _ _ _ _ _ _ _ _ _ _) ?_; clear tr
  refine then_n ?_
  refine at_seq rfl ?_
  refine cdd (fun h1 => ?_) (fun h1 => ?_)
  · try simp only [decide_eq_true_eq, decide_eq_false_iff_not, Bool.not_eq_true', Bool.not_eq_false', beq_iff_eq, beq_eq_false_iff_ne, ne_eq] at h1
    refine at_skip rfl ?_
    refine then_n ?_
    refine at_seq rfl ?_
    refine at_block rfl ?_
    refine at_seq rfl ?_
    refine rg rfl ?_
    have hm := mul_in hn0 hn1 hq1 hq2
    refine Rq ?_
    refine Rq ?_
    refine Rq ?_
    refine Rq ?_
    refine Rq ?_
    refine Rq ?_
    have tr : ∀ y0 y1 y2 y3 y4 y12 y13 y14 y21 z0 z1 z2 z3 z4 z5 : AV, trim [(4, z5), (19, z4), (18, z3), (17, z2), (16, z1), (15, z0), (0, y0), (1, y1), (2, y2), (3, y3), (4, y4), (12, y12), (13, y13), (14, y14), (21, y21)] [(0, y0), (1, y1), (2, y2), (3, y3), (4, y4), (12, y12), (13, y13), (14, y14), (21, y21)] = [(0, y0), (1, y1), (2, y2), (3, y3), (4, z5), (12, y12), (13, y13), (14, y14), (21, y21)] := fun y0 y1 y2 y3 y4 y12 y13 y14 y21 z0 z1 z2 z3 z4 z5 => rfl
    refine R_nil (tr _ _ _ _ _ _ _ _ _ _ _ _ _ _ _) ?_; clear tr
    refine then_n ?_
    refine at_seq rfl ?_
    refine rg rfl ?_
    refine Rq ?_
    refine Rq ?_
    have tr : ∀ y0 y1 y2 y3 y4 y12 y13 y14 y21 z0 z1 : AV, trim [(21, z1), (20, z0), (0, y0), (1, y1), (2, y2), (3, y3), (4, y4), (12, y12), (13, y13), (14, y14), (21, y21)] [(0, y0), (1, y1), (2, y2), (3, y3), (4, y4), (12, y12), (13, y13), (14, y14), (21, y21)] = [(0, y0), (1, y1), (2, y2), (3, y3), (4, y4), (12, y12), (13, y13), (14, y14), (21, z1)] := fun y0 y1 y2 y3 y4 y12 y13 y14 y21 z0 z1 => rfl
    refine R_nil (tr _ _ _ _ _ _ _ _ _ _ _) ?_; clear tr
    refine then_n ?_
    refine cdd (fun h2 => ?_) (fun h2 => ?_)
    · try simp only [decide_eq_true_eq, decide_eq_false_iff_not, Bool.not_eq_true', Bool.not_eq_false', beq_iff_eq, beq_eq_false_iff_ne, ne_eq] at h2
      refine at_seq rfl ?_
      refine rg rfl ?_
      refine Rq ?_
      have tr : ∀ y0 y1 y2 y3 y4 y12 y13 y14 y21 z0 : AV, trim [(2, z0), (0, y0), (1, y1), (2, y2), (3, y3), (4, y4), (12, y12), (13, y13), (14, y14), (21, y21)] [(0, y0), (1, y1), (2, y2), (3, y3), (4, y4), (12, y12), (13, y13), (14, y14), (21, y21)] = [(0, y0), (1, y1), (2, z0), (3, y3), (4, y4), (12, y12), (13, y13), (14, y14), (21, y21)] := fun y0 y1 y2 y3 y4 y12 y13 y14 y21 z0 => rfl
      refine R_nil (tr _ _ _ _ _ _ _ _ _ _) ?_; clear tr
      refine then_n ?_
      refine at_ret rfl ?_
      refine blk_r ?_
      refine then_r ?_
      refine then_r ?_
      refine blk_r ?_
      refine then_r ?_
      refine fpure ?_
      refine ⟨?_, rfl⟩
      rw [szS, if_pos (by rw [← hs, stV_out (by omega) (by omega)]; omega)]
    · try simp only [decide_eq_true_eq, decide_eq_false_iff_not, Bool.not_eq_true', Bool.not_eq_false', beq_iff_eq, beq_eq_false_iff_ne, ne_eq] at h2
      refine at_skip rfl ?_
      refine blk_n ?_
      refine then_n ?_
      refine rg rfl ?_
      refine Rq ?_
      refine Rq ?_
      have tr : ∀ y0 y1 y2 y3 y4 y12 y13 y14 y21 z0 z1 : AV, trim [(13, z1), (22, z0), (0, y0), (1, y1), (2, y2), (3, y3), (4, y4), (12, y12), (13, y13), (14, y14), (21, y21)] [(0, y0), (1, y1), (2, y2), (3, y3), (4, y4), (12, y12), (13, y13), (14, y14), (21, y21)] = [(0, y0), (1, y1), (2, y2), (3, y3), (4, y4), (12, y12), (13, z1), (14, y14), (21, y21)] := fun y0 y1 y2 y3 y4 y12 y13 y14 y21 z0 z1 => rfl
      refine R_nil (tr _ _ _ _ _ _ _ _ _ _ _) ?_; clear tr
      refine then_n ?_
      exact ⟨_, _, ⟨u + 1, n * (q + 1), _, _, _, rfl, rfl, rfl, by omega, by exact hm.1, by omega, by rw [stV_step (by omega) (by omega)]; exact hs⟩, by rfl, by omega⟩
  · try simp only [decide_eq_true_eq, decide_eq_false_iff_not, Bool.not_eq_true', Bool.not_eq_false', beq_iff_eq, beq_eq_false_iff_ne, ne_eq] at h1
    refine at_exit rfl ?_
    refine then_x ?_
    refine then_x ?_
    refine blk_x ?_
    refine then_n ?_
    refine at_seq rfl ?_
    refine rg rfl ?_
    refine Rq ?_
    refine Rq ?_
    have tr : ∀ y0 y1 y2 y3 y4 y12 y13 y14 y21 z0 z1 : AV, trim [(2, z1), (23, z0), (0, y0), (1, y1), (2, y2), (3, y3), (4, y4), (12, y12), (13, y13), (14, y14), (21, y21)] [(0, y0), (1, y1), (2, y2), (3, y3), (4, y4), (12, y12), (13, y13), (14, y14), (21, y21)] = [(0, y0), (1, y1), (2, z1), (3, y3), (4, y4), (12, y12), (13, y13), (14, y14), (21, y21)] := fun y0 y1 y2 y3 y4 y12 y13 y14 y21 z0 z1 => rfl
    refine R_nil (tr _ _ _ _ _ _ _ _ _ _ _) ?_; clear tr
    refine then_n ?_
    refine at_ret rfl ?_
    refine fpure ?_
    refine ⟨?_, rfl⟩
    have hub : u = (gt rows 0).length := by omega
    rw [hub, stV_end] at hs
    rw [szS, if_neg (by rw [← hs]; omega), ← hs]

end Go.Proofs.Ytmkalakojfpfgaa
