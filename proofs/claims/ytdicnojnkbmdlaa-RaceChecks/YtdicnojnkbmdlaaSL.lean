/-
  Walks of chapters 52 and 53. The steps are written by program (walk.py).
-/
import Derived.Test.YtdicnojnkbmdlaaSI
import Derived.Test.YtdicnojnkbmdlaaS3
set_option linter.unusedSimpArgs false
set_option linter.unusedVariables false
set_option maxHeartbeats 40000000
set_option maxRecDepth 4000
namespace Go.Proofs.Ytdicnojnkbmdlaa
open Go Go.Am

theorem thr_ok (lim : Nat) (H : Heap) (P : List Int) (L : List Pr) (t : Int) :
    ACall sig lim 30 [.agg (raceC P L), AV.i t] H fun r H' => r = .tup [.v (.bool (thruS P L t).1), AV.i (thruS P L t).2.1, AV.i (thruS P L t).2.2] ∧ H' = H := by
  refine ACall_pure (fa := fa30) rfl rfl rfl rfl ?_
  have tr : ∀ a0 a1 : AV, env0 fa30.keep [a0, a1] = [(0, a0), (1, a1), (2, .any), (4, .any), (5, .any), (6, .any), (8, .any), (9, .any), (17, .any), (21, .any), (22, .any), (23, .any), (38, .any)] := fun a0 a1 => rfl
  refine W_to (tr _ _) ?_; clear tr
  refine at_seq rfl ?_
  refine rg rfl ?_
  refine R_box rfl (by simp (disch := first | omega | (simp only [List.length_map, List.length_append, List.length_set, List.length_cons, List.length_nil, List.length_take, List.length_drop]; omega)) only [go_sem, ↓reduceIte, Nat.reduceEqDiff, reduceCtorEq]; rfl) rfl rfl ?_
  refine Rq ?_
  refine Rq ?_
  refine Rq ?_
  have tr : ∀ y0 y1 y2 y4 y5 y6 y8 y9 y17 y21 y22 y23 y38 z0 z1 z2 z3 : AV, trim [(6, z3), (5, z2), (4, z1), (2, z0), (0, y0), (1, y1), (2, y2), (4, y4), (5, y5), (6, y6), (8, y8), (9, y9), (17, y17), (21, y21), (22, y22), (23, y23), (38, y38)] [(0, y0), (1, y1), (2, y2), (4, y4), (5, y5), (6, y6), (8, y8), (9, y9), (17, y17), (21, y21), (22, y22), (23, y23), (38, y38)] = [(0, y0), (1, y1), (2, z0), (4, z1), (5, z2), (6, z3), (8, y8), (9, y9), (17, y17), (21, y21), (22, y22), (23, y23), (38, y38)] := fun y0 y1 y2 y4 y5 y6 y8 y9 y17 y21 y22 y23 y38 z0 z1 z2 z3 => rfl
  refine R_nil (tr _ _ _ _ _ _ _ _ _ _ _ _ _ _ _ _ _) ?_; clear tr
  refine then_n ?_
  refine at_seq rfl ?_
  refine at_seq rfl ?_
  refine rg rfl ?_
  refine Rq ?_
  refine Rq ?_
  refine Rcall ?_
  refine ACall_eq (mst_ok _ _ P L t) ?_
  refine Rq ?_
  refine Rq ?_
  refine Rq ?_
  refine Rq ?_
  refine Rq ?_
  have tr : ∀ y0 y1 y2 y4 y5 y6 y8 y9 y17 y21 y22 y23 y38 z0 z1 z2 z3 z4 z5 z6 z7 : AV, trim [(8, z7), (7, z6), (15, z5), (14, z4), (10, z3), (13, z2), (12, z1), (11, z0), (0, y0), (1, y1), (2, y2), (4, y4), (5, y5), (6, y6), (8, y8), (9, y9), (17, y17), (21, y21), (22, y22), (23, y23), (38, y38)] [(0, y0), (1, y1), (2, y2), (4, y4), (5, y5), (6, y6), (8, y8), (9, y9), (17, y17), (21, y21), (22, y22), (23, y23), (38, y38)] = [(0, y0), (1, y1), (2, y2), (4, y4), (5, y5), (6, y6), (8, z7), (9, y9), (17, y17), (21, y21), (22, y22), (23, y23), (38, y38)] := fun y0 y1 y2 y4 y5 y6 y8 y9 y17 y21 y22 y23 y38 z0 z1 z2 z3 z4 z5 z6 z7 => rfl
  refine R_nil (tr _ _ _ _ _ _ _ _ _ _ _ _ _ _ _ _ _ _ _ _ _) ?_; clear tr
  refine then_n ?_
  refine at_seq rfl ?_
  refine rg rfl ?_
  refine Rq ?_
  refine Rq ?_
  have tr : ∀ y0 y1 y2 y4 y5 y6 y8 y9 y17 y21 y22 y23 y38 z0 z1 : AV, trim [(17, z1), (16, z0), (0, y0), (1, y1), (2, y2), (4, y4), (5, y5), (6, y6), (8, y8), (9, y9), (17, y17), (21, y21), (22, y22), (23, y23), (38, y38)] [(0, y0), (1, y1), (2, y2), (4, y4), (5, y5), (6, y6), (8, y8), (9, y9), (17, y17), (21, y21), (22, y22), (23, y23), (38, y38)] = [(0, y0), (1, y1), (2, y2), (4, y4), (5, y5), (6, y6), (8, y8), (9, y9), (17, z1), (21, y21), (22, y22), (23, y23), (38, y38)] := fun y0 y1 y2 y4 y5 y6 y8 y9 y17 y21 y22 y23 y38 z0 z1 => rfl
  refine R_nil (tr _ _ _ _ _ _ _ _ _ _ _ _ _ _ _) ?_; clear tr
  refine then_n ?_
  refine cdd (fun h1 => ?_) (fun h1 => ?_)
  · try simp only [decide_eq_true_eq, decide_eq_false_iff_not, Bool.not_eq_true', Bool.not_eq_false', beq_iff_eq, beq_eq_false_iff_ne, ne_eq] at h1
    refine at_seq rfl ?_
    refine rg rfl ?_
    refine Rq ?_
    refine Rq ?_
    refine Rq ?_
    refine Rq ?_
    have tr : ∀ y0 y1 y2 y4 y5 y6 y8 y9 y17 y21 y22 y23 y38 z0 z1 z2 z3 : AV, trim [(6, z3), (5, z2), (4, z1), (18, z0), (0, y0), (1, y1), (2, y2), (4, y4), (5, y5), (6, y6), (8, y8), (9, y9), (17, y17), (21, y21), (22, y22), (23, y23), (38, y38)] [(0, y0), (1, y1), (2, y2), (4, y4), (5, y5), (6, y6), (8, y8), (9, y9), (17, y17), (21, y21), (22, y22), (23, y23), (38, y38)] = [(0, y0), (1, y1), (2, y2), (4, z1), (5, z2), (6, z3), (8, y8), (9, y9), (17, y17), (21, y21), (22, y22), (23, y23), (38, y38)] := fun y0 y1 y2 y4 y5 y6 y8 y9 y17 y21 y22 y23 y38 z0 z1 z2 z3 => rfl
    refine R_nil (tr _ _ _ _ _ _ _ _ _ _ _ _ _ _ _ _ _) ?_; clear tr
    refine then_n ?_
    refine at_ret rfl ?_
    refine then_r ?_
    refine fpure ?_
    refine ⟨?_, rfl⟩
    rw [thruS, if_pos (by assumption)]
  · try simp only [decide_eq_true_eq, decide_eq_false_iff_not, Bool.not_eq_true', Bool.not_eq_false', beq_iff_eq, beq_eq_false_iff_ne, ne_eq] at h1
    refine at_skip rfl ?_
    refine then_n ?_
    refine at_seq rfl ?_
    refine at_seq rfl ?_
    refine rg rfl ?_
    have hm0 : (mostS P L t).2 = 0 := by assumption
    obtain ⟨g, ht0, ht1⟩ := most_of hm0
    have g20 := g.n20
    refine Rq ?_
    refine Rq ?_
    refine Rq ?_
    refine Rq ?_
    have tr : ∀ y0 y1 y2 y4 y5 y6 y8 y9 y17 y21 y22 y23 y38 z0 z1 z2 z3 : AV, trim [(22, z3), (21, z2), (20, z1), (19, z0), (0, y0), (1, y1), (2, y2), (4, y4), (5, y5), (6, y6), (8, y8), (9, y9), (17, y17), (21, y21), (22, y22), (23, y23), (38, y38)] [(0, y0), (1, y1), (2, y2), (4, y4), (5, y5), (6, y6), (8, y8), (9, y9), (17, y17), (21, y21), (22, y22), (23, y23), (38, y38)] = [(0, y0), (1, y1), (2, y2), (4, y4), (5, y5), (6, y6), (8, y8), (9, y9), (17, y17), (21, z2), (22, z3), (23, y23), (38, y38)] := fun y0 y1 y2 y4 y5 y6 y8 y9 y17 y21 y22 y23 y38 z0 z1 z2 z3 => rfl
    refine R_nil (tr _ _ _ _ _ _ _ _ _ _ _ _ _ _ _ _ _) ?_; clear tr
    refine then_n ?_
    refine at_block rfl ?_
    refine loop_n rfl (fun mm kv H' => ∃ u : Nat, ∃ x4 x5 x6 x9 x23 x38 : AV, (kv = [(4, x4), (5, x5), (6, x6), (9, x9), (22, AV.i u), (23, x23), (38, x38)]) ∧ (mm = P.length - u) ∧ (H' = H ++ [some (raceC P L)]) ∧ (u ≤ P.length) ∧ (passN P L t u = -1)) ⟨0, _, _, _, _, _, _, rfl, rfl, rfl, by omega, by rfl⟩ (by rfl) ?_
    rintro mm kv H' ⟨u, x4, x5, x6, x9, x23, x38, rfl, rfl, rfl, hu, hq⟩
    have tr : ∀ y0 y1 y2 y4 y5 y6 y8 y9 y17 y21 y22 y23 y38 z4 z5 z6 z9 z22 z23 z38 : AV, upd [(0, y0), (1, y1), (2, y2), (4, y4), (5, y5), (6, y6), (8, y8), (9, y9), (17, y17), (21, y21), (22, y22), (23, y23), (38, y38)] [(4, z4), (5, z5), (6, z6), (9, z9), (22, z22), (23, z23), (38, z38)] = [(0, y0), (1, y1), (2, y2), (4, z4), (5, z5), (6, z6), (8, y8), (9, z9), (17, y17), (21, y21), (22, z22), (23, z23), (38, z38)] := fun y0 y1 y2 y4 y5 y6 y8 y9 y17 y21 y22 y23 y38 z4 z5 z6 z9 z22 z23 z38 => rfl
    refine W_to (tr _ _ _ _ _ _ _ _ _ _ _ _ _ _ _ _ _ _ _ _) ?_; clear tr
    refine at_seq rfl ?_
    refine rg rfl ?_
    refine Rq ?_
    have tr : ∀ y0 y1 y2 y4 y5 y6 y8 y9 y17 y21 y22 y23 y38 z0 : AV, trim [(23, z0), (0, y0), (1, y1), (2, y2), (4, y4), (5, y5), (6, y6), (8, y8), (9, y9), (17, y17), (21, y21), (22, y22), (23, y23), (38, y38)] [(0, y0), (1, y1), (2, y2), (4, y4), (5, y5), (6, y6), (8, y8), (9, y9), (17, y17), (21, y21), (22, y22), (23, y23), (38, y38)] = [(0, y0), (1, y1), (2, y2), (4, y4), (5, y5), (6, y6), (8, y8), (9, y9), (17, y17), (21, y21), (22, y22), (23, z0), (38, y38)] := fun y0 y1 y2 y4 y5 y6 y8 y9 y17 y21 y22 y23 y38 z0 => rfl
    refine R_nil (tr _ _ _ _ _ _ _ _ _ _ _ _ _ _) ?_; clear tr
    refine then_n ?_
    refine at_seq rfl ?_
    refine cdd (fun h2 => ?_) (fun h2 => ?_)
    · try simp only [decide_eq_true_eq, decide_eq_false_iff_not, Bool.not_eq_true', Bool.not_eq_false', beq_iff_eq, beq_eq_false_iff_ne, ne_eq] at h2
      refine at_skip rfl ?_
      refine then_n ?_
      refine at_seq rfl ?_
      refine at_block rfl ?_
      refine at_seq rfl ?_
      refine rg rfl ?_
      refine Rq ?_
      refine Rq ?_
      have tr : ∀ y0 y1 y2 y4 y5 y6 y8 y9 y17 y21 y22 y23 y38 z0 z1 : AV, trim [(9, z1), (24, z0), (0, y0), (1, y1), (2, y2), (4, y4), (5, y5), (6, y6), (8, y8), (9, y9), (17, y17), (21, y21), (22, y22), (23, y23), (38, y38)] [(0, y0), (1, y1), (2, y2), (4, y4), (5, y5), (6, y6), (8, y8), (9, y9), (17, y17), (21, y21), (22, y22), (23, y23), (38, y38)] = [(0, y0), (1, y1), (2, y2), (4, y4), (5, y5), (6, y6), (8, y8), (9, z1), (17, y17), (21, y21), (22, y22), (23, y23), (38, y38)] := fun y0 y1 y2 y4 y5 y6 y8 y9 y17 y21 y22 y23 y38 z0 z1 => rfl
      refine R_nil (tr _ _ _ _ _ _ _ _ _ _ _ _ _ _ _) ?_; clear tr
      refine then_n ?_
      refine at_seq rfl ?_
      refine rd rfl rfl ?_
      refine Qq ?_
      refine Qq ?_
      refine Qq ?_
      refine Qq ?_
      refine Qp_split (fun h3 => ?_) (fun h3 => ?_)
      · try simp only [decide_eq_true_eq, decide_eq_false_iff_not, Bool.not_eq_true', Bool.not_eq_false', beq_iff_eq, beq_eq_false_iff_ne, ne_eq] at h3
        refine Qy ?_
        refine Qq ?_
        refine Qy ?_
        refine Qq ?_
        refine Qy ?_
        refine Qcall ?_
        refine ACall_eq (most_ok _ _ P L u g (by omega) (by omega)) ?_
        refine ⟨rfl, ?_⟩
        refine Qy ?_
        refine Qq ?_
        refine Qy ?_
        refine Qq ?_
        refine Qy ?_
        refine Qq ?_
        refine Qy ?_
        refine Qq ?_
        refine Qy ?_
        refine Qq ?_
        refine Qy ?_
        refine Qq ?_
        refine Qq ?_
        refine Q_nil ?_
        have tr : ∀ y0 y1 y2 y4 y5 y6 y8 y9 y17 y21 y22 y23 y38 z0 z1 z2 z3 z4 z5 z6 z7 z8 z9 z10 z11 z12 z13 : AV, trim [(38, z13), (37, z12), (36, z11), (35, z10), (34, z9), (33, z8), (32, z7), (31, z6), (30, z5), (29, z4), (28, z3), (27, z2), (26, z1), (25, z0), (0, y0), (1, y1), (2, y2), (4, y4), (5, y5), (6, y6), (8, y8), (9, y9), (17, y17), (21, y21), (22, y22), (23, y23), (38, y38)] [(0, y0), (1, y1), (2, y2), (4, y4), (5, y5), (6, y6), (8, y8), (9, y9), (17, y17), (21, y21), (22, y22), (23, y23), (38, y38)] = [(0, y0), (1, y1), (2, y2), (4, y4), (5, y5), (6, y6), (8, y8), (9, y9), (17, y17), (21, y21), (22, y22), (23, y23), (38, z13)] := fun y0 y1 y2 y4 y5 y6 y8 y9 y17 y21 y22 y23 y38 z0 z1 z2 z3 z4 z5 z6 z7 z8 z9 z10 z11 z12 z13 => rfl
        refine R_nil (tr _ _ _ _ _ _ _ _ _ _ _ _ _ _ _ _ _ _ _ _ _ _ _ _ _ _ _) ?_; clear tr
        refine then_n ?_
        refine cdd (fun h4 => ?_) (fun h4 => ?_)
        · try simp only [decide_eq_true_eq, decide_eq_false_iff_not, Bool.not_eq_true', Bool.not_eq_false', beq_iff_eq, beq_eq_false_iff_ne, ne_eq] at h4
          refine at_seq rfl ?_
          refine rg rfl ?_
          refine Rq ?_
          refine Rq ?_
          refine Rq ?_
          refine Rq ?_
          have tr : ∀ y0 y1 y2 y4 y5 y6 y8 y9 y17 y21 y22 y23 y38 z0 z1 z2 z3 : AV, trim [(6, z3), (5, z2), (4, z1), (39, z0), (0, y0), (1, y1), (2, y2), (4, y4), (5, y5), (6, y6), (8, y8), (9, y9), (17, y17), (21, y21), (22, y22), (23, y23), (38, y38)] [(0, y0), (1, y1), (2, y2), (4, y4), (5, y5), (6, y6), (8, y8), (9, y9), (17, y17), (21, y21), (22, y22), (23, y23), (38, y38)] = [(0, y0), (1, y1), (2, y2), (4, z1), (5, z2), (6, z3), (8, y8), (9, y9), (17, y17), (21, y21), (22, y22), (23, y23), (38, y38)] := fun y0 y1 y2 y4 y5 y6 y8 y9 y17 y21 y22 y23 y38 z0 z1 z2 z3 => rfl
          refine R_nil (tr _ _ _ _ _ _ _ _ _ _ _ _ _ _ _ _ _) ?_; clear tr
          refine then_n ?_
          refine at_ret rfl ?_
          refine blk_r ?_
          refine then_r ?_
          refine then_r ?_
          refine blk_r ?_
          refine then_r ?_
          refine fpure ?_
          refine ⟨?_, rfl⟩
          have e := pass_at hq (by omega) (by omega) P.length (by omega)
          rw [thruS, if_neg (fun hh => hh hm0), e, decide_eq_false (by omega)]
        · try simp only [decide_eq_true_eq, decide_eq_false_iff_not, Bool.not_eq_true', Bool.not_eq_false', beq_iff_eq, beq_eq_false_iff_ne, ne_eq] at h4
          refine at_skip rfl ?_
          refine blk_n ?_
          refine then_n ?_
          refine rg rfl ?_
          refine Rq ?_
          refine Rq ?_
          have tr : ∀ y0 y1 y2 y4 y5 y6 y8 y9 y17 y21 y22 y23 y38 z0 z1 : AV, trim [(22, z1), (40, z0), (0, y0), (1, y1), (2, y2), (4, y4), (5, y5), (6, y6), (8, y8), (9, y9), (17, y17), (21, y21), (22, y22), (23, y23), (38, y38)] [(0, y0), (1, y1), (2, y2), (4, y4), (5, y5), (6, y6), (8, y8), (9, y9), (17, y17), (21, y21), (22, y22), (23, y23), (38, y38)] = [(0, y0), (1, y1), (2, y2), (4, y4), (5, y5), (6, y6), (8, y8), (9, y9), (17, y17), (21, y21), (22, z1), (23, y23), (38, y38)] := fun y0 y1 y2 y4 y5 y6 y8 y9 y17 y21 y22 y23 y38 z0 z1 => rfl
          refine R_nil (tr _ _ _ _ _ _ _ _ _ _ _ _ _ _ _) ?_; clear tr
          refine then_n ?_
          exact ⟨_, _, ⟨u + 1, _, _, _, _, _, _, rfl, rfl, rfl, by omega, by exact pass_on hq (by omega)⟩, by rfl, by omega⟩
      · try simp only [decide_eq_true_eq, decide_eq_false_iff_not, Bool.not_eq_true', Bool.not_eq_false', beq_iff_eq, beq_eq_false_iff_ne, ne_eq] at h3
        refine Qn ?_
        refine Qn ?_
        refine Qn ?_
        refine Qn ?_
        refine Qn ?_
        refine Qn ?_
        refine Qn ?_
        refine Qn ?_
        refine Qn ?_
        refine Qq ?_
        refine Q_nil ?_
        have tr : ∀ y0 y1 y2 y4 y5 y6 y8 y9 y17 y21 y22 y23 y38 z0 z1 z2 z3 z4 z5 z6 z7 z8 z9 z10 z11 z12 z13 : AV, trim [(38, z13), (37, z12), (36, z11), (35, z10), (34, z9), (33, z8), (32, z7), (31, z6), (30, z5), (29, z4), (28, z3), (27, z2), (26, z1), (25, z0), (0, y0), (1, y1), (2, y2), (4, y4), (5, y5), (6, y6), (8, y8), (9, y9), (17, y17), (21, y21), (22, y22), (23, y23), (38, y38)] [(0, y0), (1, y1), (2, y2), (4, y4), (5, y5), (6, y6), (8, y8), (9, y9), (17, y17), (21, y21), (22, y22), (23, y23), (38, y38)] = [(0, y0), (1, y1), (2, y2), (4, y4), (5, y5), (6, y6), (8, y8), (9, y9), (17, y17), (21, y21), (22, y22), (23, y23), (38, z13)] := fun y0 y1 y2 y4 y5 y6 y8 y9 y17 y21 y22 y23 y38 z0 z1 z2 z3 z4 z5 z6 z7 z8 z9 z10 z11 z12 z13 => rfl
        refine R_nil (tr _ _ _ _ _ _ _ _ _ _ _ _ _ _ _ _ _ _ _ _ _ _ _ _ _ _ _) ?_; clear tr
        refine then_n ?_
        refine cdf ?_
        refine at_skip rfl ?_
        refine blk_n ?_
        refine then_n ?_
        refine rg rfl ?_
        refine Rq ?_
        refine Rq ?_
        have tr : ∀ y0 y1 y2 y4 y5 y6 y8 y9 y17 y21 y22 y23 y38 z0 z1 : AV, trim [(22, z1), (40, z0), (0, y0), (1, y1), (2, y2), (4, y4), (5, y5), (6, y6), (8, y8), (9, y9), (17, y17), (21, y21), (22, y22), (23, y23), (38, y38)] [(0, y0), (1, y1), (2, y2), (4, y4), (5, y5), (6, y6), (8, y8), (9, y9), (17, y17), (21, y21), (22, y22), (23, y23), (38, y38)] = [(0, y0), (1, y1), (2, y2), (4, y4), (5, y5), (6, y6), (8, y8), (9, y9), (17, y17), (21, y21), (22, z1), (23, y23), (38, y38)] := fun y0 y1 y2 y4 y5 y6 y8 y9 y17 y21 y22 y23 y38 z0 z1 => rfl
        refine R_nil (tr _ _ _ _ _ _ _ _ _ _ _ _ _ _ _) ?_; clear tr
        refine then_n ?_
        exact ⟨_, _, ⟨u + 1, _, _, _, _, _, _, rfl, rfl, rfl, by omega, by exact pass_on hq (by omega)⟩, by rfl, by omega⟩
    · try simp only [decide_eq_true_eq, decide_eq_false_iff_not, Bool.not_eq_true', Bool.not_eq_false', beq_iff_eq, beq_eq_false_iff_ne, ne_eq] at h2
      refine at_exit rfl ?_
      refine then_x ?_
      refine then_x ?_
      refine blk_x ?_
      refine then_n ?_
      refine at_seq rfl ?_
      refine rg rfl ?_
      refine Rq ?_
      refine Rq ?_
      refine Rq ?_
      have tr : ∀ y0 y1 y2 y4 y5 y6 y8 y9 y17 y21 y22 y23 y38 z0 z1 z2 : AV, trim [(6, z2), (5, z1), (4, z0), (0, y0), (1, y1), (2, y2), (4, y4), (5, y5), (6, y6), (8, y8), (9, y9), (17, y17), (21, y21), (22, y22), (23, y23), (38, y38)] [(0, y0), (1, y1), (2, y2), (4, y4), (5, y5), (6, y6), (8, y8), (9, y9), (17, y17), (21, y21), (22, y22), (23, y23), (38, y38)] = [(0, y0), (1, y1), (2, y2), (4, z0), (5, z1), (6, z2), (8, y8), (9, y9), (17, y17), (21, y21), (22, y22), (23, y23), (38, y38)] := fun y0 y1 y2 y4 y5 y6 y8 y9 y17 y21 y22 y23 y38 z0 z1 z2 => rfl
      refine R_nil (tr _ _ _ _ _ _ _ _ _ _ _ _ _ _ _ _) ?_; clear tr
      refine then_n ?_
      refine at_ret rfl ?_
      refine fpure ?_
      refine ⟨?_, rfl⟩
      have e : passN P L t P.length = -1 := by rw [show P.length = u by omega]; exact hq
      rw [thruS, if_neg (fun hh => hh hm0), e]
      rfl

theorem rthr_ok (lim : Nat) (H : Heap) (P : List Int) (L : List Pr) (t : Int) :
    ACall sig lim 42 [.agg (raceC P L), AV.i t] H fun r H' => r = .tup [.v (.bool (thruS P L t).1), AV.i (thruS P L t).2.1, AV.i (thruS P L t).2.2] ∧ H' = H := by
  refine ACall_pure (fa := fa42) rfl rfl rfl rfl ?_
  have tr : ∀ a0 a1 : AV, env0 fa42.keep [a0, a1] = [(0, a0), (1, a1), (2, .any), (4, .any), (5, .any), (6, .any), (8, .any), (9, .any), (17, .any), (21, .any), (22, .any), (23, .any), (38, .any)] := fun a0 a1 => rfl
  refine W_to (tr _ _) ?_; clear tr
  refine at_seq rfl ?_
  refine rg rfl ?_
  refine R_box rfl (by simp (disch := first | omega | (simp only [List.length_map, List.length_append, List.length_set, List.length_cons, List.length_nil, List.length_take, List.length_drop]; omega)) only [go_sem, ↓reduceIte, Nat.reduceEqDiff, reduceCtorEq]; rfl) rfl rfl ?_
  refine Rq ?_
  refine Rq ?_
  refine Rq ?_
  have tr : ∀ y0 y1 y2 y4 y5 y6 y8 y9 y17 y21 y22 y23 y38 z0 z1 z2 z3 : AV, trim [(6, z3), (5, z2), (4, z1), (2, z0), (0, y0), (1, y1), (2, y2), (4, y4), (5, y5), (6, y6), (8, y8), (9, y9), (17, y17), (21, y21), (22, y22), (23, y23), (38, y38)] [(0, y0), (1, y1), (2, y2), (4, y4), (5, y5), (6, y6), (8, y8), (9, y9), (17, y17), (21, y21), (22, y22), (23, y23), (38, y38)] = [(0, y0), (1, y1), (2, z0), (4, z1), (5, z2), (6, z3), (8, y8), (9, y9), (17, y17), (21, y21), (22, y22), (23, y23), (38, y38)] := fun y0 y1 y2 y4 y5 y6 y8 y9 y17 y21 y22 y23 y38 z0 z1 z2 z3 => rfl
  refine R_nil (tr _ _ _ _ _ _ _ _ _ _ _ _ _ _ _ _ _) ?_; clear tr
  refine then_n ?_
  refine at_seq rfl ?_
  refine at_seq rfl ?_
  refine rg rfl ?_
  refine Rq ?_
  refine Rq ?_
  refine Rcall ?_
  refine ACall_eq (rmst_ok _ _ P L t) ?_
  refine Rq ?_
  refine Rq ?_
  refine Rq ?_
  refine Rq ?_
  refine Rq ?_
  have tr : ∀ y0 y1 y2 y4 y5 y6 y8 y9 y17 y21 y22 y23 y38 z0 z1 z2 z3 z4 z5 z6 z7 : AV, trim [(8, z7), (7, z6), (15, z5), (14, z4), (10, z3), (13, z2), (12, z1), (11, z0), (0, y0), (1, y1), (2, y2), (4, y4), (5, y5), (6, y6), (8, y8), (9, y9), (17, y17), (21, y21), (22, y22), (23, y23), (38, y38)] [(0, y0), (1, y1), (2, y2), (4, y4), (5, y5), (6, y6), (8, y8), (9, y9), (17, y17), (21, y21), (22, y22), (23, y23), (38, y38)] = [(0, y0), (1, y1), (2, y2), (4, y4), (5, y5), (6, y6), (8, z7), (9, y9), (17, y17), (21, y21), (22, y22), (23, y23), (38, y38)] := fun y0 y1 y2 y4 y5 y6 y8 y9 y17 y21 y22 y23 y38 z0 z1 z2 z3 z4 z5 z6 z7 => rfl
  refine R_nil (tr _ _ _ _ _ _ _ _ _ _ _ _ _ _ _ _ _ _ _ _ _) ?_; clear tr
  refine then_n ?_
  refine at_seq rfl ?_
  refine rg rfl ?_
  refine Rq ?_
  refine Rq ?_
  have tr : ∀ y0 y1 y2 y4 y5 y6 y8 y9 y17 y21 y22 y23 y38 z0 z1 : AV, trim [(17, z1), (16, z0), (0, y0), (1, y1), (2, y2), (4, y4), (5, y5), (6, y6), (8, y8), (9, y9), (17, y17), (21, y21), (22, y22), (23, y23), (38, y38)] [(0, y0), (1, y1), (2, y2), (4, y4), (5, y5), (6, y6), (8, y8), (9, y9), (17, y17), (21, y21), (22, y22), (23, y23), (38, y38)] = [(0, y0), (1, y1), (2, y2), (4, y4), (5, y5), (6, y6), (8, y8), (9, y9), (17, z1), (21, y21), (22, y22), (23, y23), (38, y38)] := fun y0 y1 y2 y4 y5 y6 y8 y9 y17 y21 y22 y23 y38 z0 z1 => rfl
  refine R_nil (tr _ _ _ _ _ _ _ _ _ _ _ _ _ _ _) ?_; clear tr
  refine then_n ?_
  refine cdd (fun h1 => ?_) (fun h1 => ?_)
  · try simp only [decide_eq_true_eq, decide_eq_false_iff_not, Bool.not_eq_true', Bool.not_eq_false', beq_iff_eq, beq_eq_false_iff_ne, ne_eq] at h1
    refine at_seq rfl ?_
    refine rg rfl ?_
    refine Rq ?_
    refine Rq ?_
    refine Rq ?_
    refine Rq ?_
    have tr : ∀ y0 y1 y2 y4 y5 y6 y8 y9 y17 y21 y22 y23 y38 z0 z1 z2 z3 : AV, trim [(6, z3), (5, z2), (4, z1), (18, z0), (0, y0), (1, y1), (2, y2), (4, y4), (5, y5), (6, y6), (8, y8), (9, y9), (17, y17), (21, y21), (22, y22), (23, y23), (38, y38)] [(0, y0), (1, y1), (2, y2), (4, y4), (5, y5), (6, y6), (8, y8), (9, y9), (17, y17), (21, y21), (22, y22), (23, y23), (38, y38)] = [(0, y0), (1, y1), (2, y2), (4, z1), (5, z2), (6, z3), (8, y8), (9, y9), (17, y17), (21, y21), (22, y22), (23, y23), (38, y38)] := fun y0 y1 y2 y4 y5 y6 y8 y9 y17 y21 y22 y23 y38 z0 z1 z2 z3 => rfl
    refine R_nil (tr _ _ _ _ _ _ _ _ _ _ _ _ _ _ _ _ _) ?_; clear tr
    refine then_n ?_
    refine at_ret rfl ?_
    refine then_r ?_
    refine fpure ?_
    refine ⟨?_, rfl⟩
    rw [thruS, if_pos (by assumption)]
  · try simp only [decide_eq_true_eq, decide_eq_false_iff_not, Bool.not_eq_true', Bool.not_eq_false', beq_iff_eq, beq_eq_false_iff_ne, ne_eq] at h1
    refine at_skip rfl ?_
    refine then_n ?_
    refine at_seq rfl ?_
    refine at_seq rfl ?_
    refine rg rfl ?_
    have hm0 : (mostS P L t).2 = 0 := by assumption
    obtain ⟨g, ht0, ht1⟩ := most_of hm0
    have g20 := g.n20
    refine Rq ?_
    refine Rq ?_
    refine Rq ?_
    refine Rq ?_
    have tr : ∀ y0 y1 y2 y4 y5 y6 y8 y9 y17 y21 y22 y23 y38 z0 z1 z2 z3 : AV, trim [(22, z3), (21, z2), (20, z1), (19, z0), (0, y0), (1, y1), (2, y2), (4, y4), (5, y5), (6, y6), (8, y8), (9, y9), (17, y17), (21, y21), (22, y22), (23, y23), (38, y38)] [(0, y0), (1, y1), (2, y2), (4, y4), (5, y5), (6, y6), (8, y8), (9, y9), (17, y17), (21, y21), (22, y22), (23, y23), (38, y38)] = [(0, y0), (1, y1), (2, y2), (4, y4), (5, y5), (6, y6), (8, y8), (9, y9), (17, y17), (21, z2), (22, z3), (23, y23), (38, y38)] := fun y0 y1 y2 y4 y5 y6 y8 y9 y17 y21 y22 y23 y38 z0 z1 z2 z3 => rfl
    refine R_nil (tr _ _ _ _ _ _ _ _ _ _ _ _ _ _ _ _ _) ?_; clear tr
    refine then_n ?_
    refine at_block rfl ?_
    refine loop_n rfl (fun mm kv H' => ∃ u : Nat, ∃ x4 x5 x6 x9 x23 x38 : AV, (kv = [(4, x4), (5, x5), (6, x6), (9, x9), (22, AV.i u), (23, x23), (38, x38)]) ∧ (mm = P.length - u) ∧ (H' = H ++ [some (raceC P L)]) ∧ (u ≤ P.length) ∧ (passN P L t u = -1)) ⟨0, _, _, _, _, _, _, rfl, rfl, rfl, by omega, by rfl⟩ (by rfl) ?_
    rintro mm kv H' ⟨u, x4, x5, x6, x9, x23, x38, rfl, rfl, rfl, hu, hq⟩
    have tr : ∀ y0 y1 y2 y4 y5 y6 y8 y9 y17 y21 y22 y23 y38 z4 z5 z6 z9 z22 z23 z38 : AV, upd [(0, y0), (1, y1), (2, y2), (4, y4), (5, y5), (6, y6), (8, y8), (9, y9), (17, y17), (21, y21), (22, y22), (23, y23), (38, y38)] [(4, z4), (5, z5), (6, z6), (9, z9), (22, z22), (23, z23), (38, z38)] = [(0, y0), (1, y1), (2, y2), (4, z4), (5, z5), (6, z6), (8, y8), (9, z9), (17, y17), (21, y21), (22, z22), (23, z23), (38, z38)] := fun y0 y1 y2 y4 y5 y6 y8 y9 y17 y21 y22 y23 y38 z4 z5 z6 z9 z22 z23 z38 => rfl
    refine W_to (tr _ _ _ _ _ _ _ _ _ _ _ _ _ _ _ _ _ _ _ _) ?_; clear tr
    refine at_seq rfl ?_
    refine rg rfl ?_
    refine Rq ?_
    have tr : ∀ y0 y1 y2 y4 y5 y6 y8 y9 y17 y21 y22 y23 y38 z0 : AV, trim [(23, z0), (0, y0), (1, y1), (2, y2), (4, y4), (5, y5), (6, y6), (8, y8), (9, y9), (17, y17), (21, y21), (22, y22), (23, y23), (38, y38)] [(0, y0), (1, y1), (2, y2), (4, y4), (5, y5), (6, y6), (8, y8), (9, y9), (17, y17), (21, y21), (22, y22), (23, y23), (38, y38)] = [(0, y0), (1, y1), (2, y2), (4, y4), (5, y5), (6, y6), (8, y8), (9, y9), (17, y17), (21, y21), (22, y22), (23, z0), (38, y38)] := fun y0 y1 y2 y4 y5 y6 y8 y9 y17 y21 y22 y23 y38 z0 => rfl
    refine R_nil (tr _ _ _ _ _ _ _ _ _ _ _ _ _ _) ?_; clear tr
    refine then_n ?_
    refine at_seq rfl ?_
    refine cdd (fun h2 => ?_) (fun h2 => ?_)
    · try simp only [decide_eq_true_eq, decide_eq_false_iff_not, Bool.not_eq_true', Bool.not_eq_false', beq_iff_eq, beq_eq_false_iff_ne, ne_eq] at h2
      refine at_skip rfl ?_
      refine then_n ?_
      refine at_seq rfl ?_
      refine at_block rfl ?_
      refine at_seq rfl ?_
      refine rg rfl ?_
      refine Rq ?_
      refine Rq ?_
      have tr : ∀ y0 y1 y2 y4 y5 y6 y8 y9 y17 y21 y22 y23 y38 z0 z1 : AV, trim [(9, z1), (24, z0), (0, y0), (1, y1), (2, y2), (4, y4), (5, y5), (6, y6), (8, y8), (9, y9), (17, y17), (21, y21), (22, y22), (23, y23), (38, y38)] [(0, y0), (1, y1), (2, y2), (4, y4), (5, y5), (6, y6), (8, y8), (9, y9), (17, y17), (21, y21), (22, y22), (23, y23), (38, y38)] = [(0, y0), (1, y1), (2, y2), (4, y4), (5, y5), (6, y6), (8, y8), (9, z1), (17, y17), (21, y21), (22, y22), (23, y23), (38, y38)] := fun y0 y1 y2 y4 y5 y6 y8 y9 y17 y21 y22 y23 y38 z0 z1 => rfl
      refine R_nil (tr _ _ _ _ _ _ _ _ _ _ _ _ _ _ _) ?_; clear tr
      refine then_n ?_
      refine at_seq rfl ?_
      refine rd rfl rfl ?_
      refine Qq ?_
      refine Qq ?_
      refine Qq ?_
      refine Qq ?_
      refine Qp_split (fun h3 => ?_) (fun h3 => ?_)
      · try simp only [decide_eq_true_eq, decide_eq_false_iff_not, Bool.not_eq_true', Bool.not_eq_false', beq_iff_eq, beq_eq_false_iff_ne, ne_eq] at h3
        refine Qy ?_
        refine Qq ?_
        refine Qy ?_
        refine Qq ?_
        refine Qy ?_
        refine Qcall ?_
        refine ACall_eq (rmost_ok _ _ P L u g (by omega) (by omega)) ?_
        refine ⟨rfl, ?_⟩
        refine Qy ?_
        refine Qq ?_
        refine Qy ?_
        refine Qq ?_
        refine Qy ?_
        refine Qq ?_
        refine Qy ?_
        refine Qq ?_
        refine Qy ?_
        refine Qq ?_
        refine Qy ?_
        refine Qq ?_
        refine Qq ?_
        refine Q_nil ?_
        have tr : ∀ y0 y1 y2 y4 y5 y6 y8 y9 y17 y21 y22 y23 y38 z0 z1 z2 z3 z4 z5 z6 z7 z8 z9 z10 z11 z12 z13 : AV, trim [(38, z13), (37, z12), (36, z11), (35, z10), (34, z9), (33, z8), (32, z7), (31, z6), (30, z5), (29, z4), (28, z3), (27, z2), (26, z1), (25, z0), (0, y0), (1, y1), (2, y2), (4, y4), (5, y5), (6, y6), (8, y8), (9, y9), (17, y17), (21, y21), (22, y22), (23, y23), (38, y38)] [(0, y0), (1, y1), (2, y2), (4, y4), (5, y5), (6, y6), (8, y8), (9, y9), (17, y17), (21, y21), (22, y22), (23, y23), (38, y38)] = [(0, y0), (1, y1), (2, y2), (4, y4), (5, y5), (6, y6), (8, y8), (9, y9), (17, y17), (21, y21), (22, y22), (23, y23), (38, z13)] := fun y0 y1 y2 y4 y5 y6 y8 y9 y17 y21 y22 y23 y38 z0 z1 z2 z3 z4 z5 z6 z7 z8 z9 z10 z11 z12 z13 => rfl
        refine R_nil (tr _ _ _ _ _ _ _ _ _ _ _ _ _ _ _ _ _ _ _ _ _ _ _ _ _ _ _) ?_; clear tr
        refine then_n ?_
        refine cdd (fun h4 => ?_) (fun h4 => ?_)
        · try simp only [decide_eq_true_eq, decide_eq_false_iff_not, Bool.not_eq_true', Bool.not_eq_false', beq_iff_eq, beq_eq_false_iff_ne, ne_eq] at h4
          refine at_seq rfl ?_
          refine rg rfl ?_
          refine Rq ?_
          refine Rq ?_
          refine Rq ?_
          refine Rq ?_
          have tr : ∀ y0 y1 y2 y4 y5 y6 y8 y9 y17 y21 y22 y23 y38 z0 z1 z2 z3 : AV, trim [(6, z3), (5, z2), (4, z1), (39, z0), (0, y0), (1, y1), (2, y2), (4, y4), (5, y5), (6, y6), (8, y8), (9, y9), (17, y17), (21, y21), (22, y22), (23, y23), (38, y38)] [(0, y0), (1, y1), (2, y2), (4, y4), (5, y5), (6, y6), (8, y8), (9, y9), (17, y17), (21, y21), (22, y22), (23, y23), (38, y38)] = [(0, y0), (1, y1), (2, y2), (4, z1), (5, z2), (6, z3), (8, y8), (9, y9), (17, y17), (21, y21), (22, y22), (23, y23), (38, y38)] := fun y0 y1 y2 y4 y5 y6 y8 y9 y17 y21 y22 y23 y38 z0 z1 z2 z3 => rfl
          refine R_nil (tr _ _ _ _ _ _ _ _ _ _ _ _ _ _ _ _ _) ?_; clear tr
          refine then_n ?_
          refine at_ret rfl ?_
          refine blk_r ?_
          refine then_r ?_
          refine then_r ?_
          refine blk_r ?_
          refine then_r ?_
          refine fpure ?_
          refine ⟨?_, rfl⟩
          have e := pass_at hq (by omega) (by omega) P.length (by omega)
          rw [thruS, if_neg (fun hh => hh hm0), e, decide_eq_false (by omega)]
        · try simp only [decide_eq_true_eq, decide_eq_false_iff_not, Bool.not_eq_true', Bool.not_eq_false', beq_iff_eq, beq_eq_false_iff_ne, ne_eq] at h4
          refine at_skip rfl ?_
          refine blk_n ?_
          refine then_n ?_
          refine rg rfl ?_
          refine Rq ?_
          refine Rq ?_
          have tr : ∀ y0 y1 y2 y4 y5 y6 y8 y9 y17 y21 y22 y23 y38 z0 z1 : AV, trim [(22, z1), (40, z0), (0, y0), (1, y1), (2, y2), (4, y4), (5, y5), (6, y6), (8, y8), (9, y9), (17, y17), (21, y21), (22, y22), (23, y23), (38, y38)] [(0, y0), (1, y1), (2, y2), (4, y4), (5, y5), (6, y6), (8, y8), (9, y9), (17, y17), (21, y21), (22, y22), (23, y23), (38, y38)] = [(0, y0), (1, y1), (2, y2), (4, y4), (5, y5), (6, y6), (8, y8), (9, y9), (17, y17), (21, y21), (22, z1), (23, y23), (38, y38)] := fun y0 y1 y2 y4 y5 y6 y8 y9 y17 y21 y22 y23 y38 z0 z1 => rfl
          refine R_nil (tr _ _ _ _ _ _ _ _ _ _ _ _ _ _ _) ?_; clear tr
          refine then_n ?_
          exact ⟨_, _, ⟨u + 1, _, _, _, _, _, _, rfl, rfl, rfl, by omega, by exact pass_on hq (by omega)⟩, by rfl, by omega⟩
      · try simp only [decide_eq_true_eq, decide_eq_false_iff_not, Bool.not_eq_true', Bool.not_eq_false', beq_iff_eq, beq_eq_false_iff_ne, ne_eq] at h3
        refine Qn ?_
        refine Qn ?_
        refine Qn ?_
        refine Qn ?_
        refine Qn ?_
        refine Qn ?_
        refine Qn ?_
        refine Qn ?_
        refine Qn ?_
        refine Qq ?_
        refine Q_nil ?_
        have tr : ∀ y0 y1 y2 y4 y5 y6 y8 y9 y17 y21 y22 y23 y38 z0 z1 z2 z3 z4 z5 z6 z7 z8 z9 z10 z11 z12 z13 : AV, trim [(38, z13), (37, z12), (36, z11), (35, z10), (34, z9), (33, z8), (32, z7), (31, z6), (30, z5), (29, z4), (28, z3), (27, z2), (26, z1), (25, z0), (0, y0), (1, y1), (2, y2), (4, y4), (5, y5), (6, y6), (8, y8), (9, y9), (17, y17), (21, y21), (22, y22), (23, y23), (38, y38)] [(0, y0), (1, y1), (2, y2), (4, y4), (5, y5), (6, y6), (8, y8), (9, y9), (17, y17), (21, y21), (22, y22), (23, y23), (38, y38)] = [(0, y0), (1, y1), (2, y2), (4, y4), (5, y5), (6, y6), (8, y8), (9, y9), (17, y17), (21, y21), (22, y22), (23, y23), (38, z13)] := fun y0 y1 y2 y4 y5 y6 y8 y9 y17 y21 y22 y23 y38 z0 z1 z2 z3 z4 z5 z6 z7 z8 z9 z10 z11 z12 z13 => rfl
        refine R_nil (tr _ _ _ _ _ _ _ _ _ _ _ _ _ _ _ _ _ _ _ _ _ _ _ _ _ _ _) ?_; clear tr
        refine then_n ?_
        refine cdf ?_
        refine at_skip rfl ?_
        refine blk_n ?_
        refine then_n ?_
        refine rg rfl ?_
        refine Rq ?_
        refine Rq ?_
        have tr : ∀ y0 y1 y2 y4 y5 y6 y8 y9 y17 y21 y22 y23 y38 z0 z1 : AV, trim [(22, z1), (40, z0), (0, y0), (1, y1), (2, y2), (4, y4), (5, y5), (6, y6), (8, y8), (9, y9), (17, y17), (21, y21), (22, y22), (23, y23), (38, y38)] [(0, y0), (1, y1), (2, y2), (4, y4), (5, y5), (6, y6), (8, y8), (9, y9), (17, y17), (21, y21), (22, y22), (23, y23), (38, y38)] = [(0, y0), (1, y1), (2, y2), (4, y4), (5, y5), (6, y6), (8, y8), (9, y9), (17, y17), (21, y21), (22, z1), (23, y23), (38, y38)] := fun y0 y1 y2 y4 y5 y6 y8 y9 y17 y21 y22 y23 y38 z0 z1 => rfl
        refine R_nil (tr _ _ _ _ _ _ _ _ _ _ _ _ _ _ _) ?_; clear tr
        refine then_n ?_
        exact ⟨_, _, ⟨u + 1, _, _, _, _, _, _, rfl, rfl, rfl, by omega, by exact pass_on hq (by omega)⟩, by rfl, by omega⟩
    · try simp only [decide_eq_true_eq, decide_eq_false_iff_not, Bool.not_eq_true', Bool.not_eq_false', beq_iff_eq, beq_eq_false_iff_ne, ne_eq] at h2
      refine at_exit rfl ?_
      refine then_x ?_
      refine then_x ?_
      refine blk_x ?_
      refine then_n ?_
      refine at_seq rfl ?_
      refine rg rfl ?_
      refine Rq ?_
      refine Rq ?_
      refine Rq ?_
      have tr : ∀ y0 y1 y2 y4 y5 y6 y8 y9 y17 y21 y22 y23 y38 z0 z1 z2 : AV, trim [(6, z2), (5, z1), (4, z0), (0, y0), (1, y1), (2, y2), (4, y4), (5, y5), (6, y6), (8, y8), (9, y9), (17, y17), (21, y21), (22, y22), (23, y23), (38, y38)] [(0, y0), (1, y1), (2, y2), (4, y4), (5, y5), (6, y6), (8, y8), (9, y9), (17, y17), (21, y21), (22, y22), (23, y23), (38, y38)] = [(0, y0), (1, y1), (2, y2), (4, z0), (5, z1), (6, z2), (8, y8), (9, y9), (17, y17), (21, y21), (22, y22), (23, y23), (38, y38)] := fun y0 y1 y2 y4 y5 y6 y8 y9 y17 y21 y22 y23 y38 z0 z1 z2 => rfl
      refine R_nil (tr _ _ _ _ _ _ _ _ _ _ _ _ _ _ _ _) ?_; clear tr
      refine then_n ?_
      refine at_ret rfl ?_
      refine fpure ?_
      refine ⟨?_, rfl⟩
      have e : passN P L t P.length = -1 := by rw [show P.length = u by omega]; exact hq
      rw [thruS, if_neg (fun hh => hh hm0), e]
      rfl

end Go.Proofs.Ytdicnojnkbmdlaa
