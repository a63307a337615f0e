/-
  Walks of chapters 52 and 53. The steps are written by program (walk.py).
-/
import Derived.Test.YtdicnojnkbmdlaaRC
import Derived.Test.YtdicnojnkbmdlaaQE
set_option linter.unusedSimpArgs false
set_option linter.unusedVariables false
set_option maxHeartbeats 40000000
set_option maxRecDepth 4000
namespace Go.Proofs.Ytdicnojnkbmdlaa
open Go Go.Am

theorem equal_ok (lim : Nat) (H : Heap) (a b : List Bool) (ha : a.length ≤ 4611686018427387904) :
    ACall sig lim 16 [boolsAV a, boolsAV b] H fun r H' => r = .v (.bool (decide (a = b))) ∧ H' = H := by
  refine ACall_pure (fa := fa16) rfl rfl rfl rfl ?_
  have tr : ∀ a0 a1 : AV, env0 fa16.keep [a0, a1] = [(0, a0), (1, a1), (4, .any), (5, .any), (10, .any), (12, .any), (13, .any), (14, .any), (24, .any)] := fun a0 a1 => rfl
  refine W_to (tr _ _) ?_; clear tr
  refine at_seq rfl ?_
  refine rg rfl ?_
  refine Rq ?_
  have tr : ∀ y0 y1 y4 y5 y10 y12 y13 y14 y24 z0 : AV, trim [(4, z0), (0, y0), (1, y1), (4, y4), (5, y5), (10, y10), (12, y12), (13, y13), (14, y14), (24, y24)] [(0, y0), (1, y1), (4, y4), (5, y5), (10, y10), (12, y12), (13, y13), (14, y14), (24, y24)] = [(0, y0), (1, y1), (4, z0), (5, y5), (10, y10), (12, y12), (13, y13), (14, y14), (24, y24)] := fun y0 y1 y4 y5 y10 y12 y13 y14 y24 z0 => rfl
  refine R_nil (tr _ _ _ _ _ _ _ _ _ _) ?_; clear tr
  refine then_n ?_
  refine at_seq rfl ?_
  refine at_seq rfl ?_
  refine rg rfl ?_
  refine Rq ?_
  refine Rq ?_
  refine Rq ?_
  refine Rq ?_
  refine Rq ?_
  have tr : ∀ y0 y1 y4 y5 y10 y12 y13 y14 y24 z0 z1 z2 z3 z4 : AV, trim [(10, z4), (9, z3), (8, z2), (7, z1), (6, z0), (0, y0), (1, y1), (4, y4), (5, y5), (10, y10), (12, y12), (13, y13), (14, y14), (24, y24)] [(0, y0), (1, y1), (4, y4), (5, y5), (10, y10), (12, y12), (13, y13), (14, y14), (24, y24)] = [(0, y0), (1, y1), (4, y4), (5, y5), (10, z4), (12, y12), (13, y13), (14, y14), (24, y24)] := fun y0 y1 y4 y5 y10 y12 y13 y14 y24 z0 z1 z2 z3 z4 => rfl
  refine R_nil (tr _ _ _ _ _ _ _ _ _ _ _ _ _ _) ?_; clear tr
  refine then_n ?_
  refine cdd (fun h1 => ?_) (fun h1 => ?_)
  · try simp only [decide_eq_true_eq, decide_eq_false_iff_not, Bool.not_eq_true', Bool.not_eq_false', beq_iff_eq, beq_eq_false_iff_ne, ne_eq] at h1
    refine at_seq rfl ?_
    refine rg rfl ?_
    refine Rq ?_
    have tr : ∀ y0 y1 y4 y5 y10 y12 y13 y14 y24 z0 : AV, trim [(4, z0), (0, y0), (1, y1), (4, y4), (5, y5), (10, y10), (12, y12), (13, y13), (14, y14), (24, y24)] [(0, y0), (1, y1), (4, y4), (5, y5), (10, y10), (12, y12), (13, y13), (14, y14), (24, y24)] = [(0, y0), (1, y1), (4, z0), (5, y5), (10, y10), (12, y12), (13, y13), (14, y14), (24, y24)] := fun y0 y1 y4 y5 y10 y12 y13 y14 y24 z0 => rfl
    refine R_nil (tr _ _ _ _ _ _ _ _ _ _) ?_; clear tr
    refine then_n ?_
    refine at_ret rfl ?_
    refine then_r ?_
    refine fpure ?_
    refine ⟨?_, rfl⟩
    rw [decide_eq_false (fun hh => by subst hh; omega)]
  · try simp only [decide_eq_true_eq, decide_eq_false_iff_not, Bool.not_eq_true', Bool.not_eq_false', beq_iff_eq, beq_eq_false_iff_ne, ne_eq] at h1
    refine at_skip rfl ?_
    refine then_n ?_
    refine at_seq rfl ?_
    refine at_seq rfl ?_
    refine rg rfl ?_
    refine Rq ?_
    refine Rq ?_
    refine Rq ?_
    have tr : ∀ y0 y1 y4 y5 y10 y12 y13 y14 y24 z0 z1 z2 : AV, trim [(13, z2), (12, z1), (11, z0), (0, y0), (1, y1), (4, y4), (5, y5), (10, y10), (12, y12), (13, y13), (14, y14), (24, y24)] [(0, y0), (1, y1), (4, y4), (5, y5), (10, y10), (12, y12), (13, y13), (14, y14), (24, y24)] = [(0, y0), (1, y1), (4, y4), (5, y5), (10, y10), (12, z1), (13, z2), (14, y14), (24, y24)] := fun y0 y1 y4 y5 y10 y12 y13 y14 y24 z0 z1 z2 => rfl
    refine R_nil (tr _ _ _ _ _ _ _ _ _ _ _ _) ?_; clear tr
    refine then_n ?_
    refine at_block rfl ?_
    refine loop_n rfl (fun mm kv H' => ∃ u : Nat, ∃ x4 x5 x14 x24 : AV, (kv = [(4, x4), (5, x5), (13, AV.i u), (14, x14), (24, x24)]) ∧ (mm = a.length - u) ∧ (H' = H) ∧ (u ≤ a.length) ∧ (∀ i, i < u → gt a i = gt b i)) ⟨0, _, _, _, _, rfl, rfl, rfl, by omega, by intro i hi; omega⟩ (by rfl) ?_
    rintro mm kv H' ⟨u, x4, x5, x14, x24, rfl, rfl, rfl, hu, hq⟩
    have tr : ∀ y0 y1 y4 y5 y10 y12 y13 y14 y24 z4 z5 z13 z14 z24 : AV, upd [(0, y0), (1, y1), (4, y4), (5, y5), (10, y10), (12, y12), (13, y13), (14, y14), (24, y24)] [(4, z4), (5, z5), (13, z13), (14, z14), (24, z24)] = [(0, y0), (1, y1), (4, z4), (5, z5), (10, y10), (12, y12), (13, z13), (14, z14), (24, z24)] := fun y0 y1 y4 y5 y10 y12 y13 y14 y24 z4 z5 z13 z14 z24 => rfl
    refine W_to (tr _ _ _ _ _ _ _ _ _ _ _ _ _ _) ?_; clear tr
    refine at_seq rfl ?_
    refine rg rfl ?_
    refine Rq ?_
    have tr : ∀ y0 y1 y4 y5 y10 y12 y13 y14 y24 z0 : AV, trim [(14, z0), (0, y0), (1, y1), (4, y4), (5, y5), (10, y10), (12, y12), (13, y13), (14, y14), (24, y24)] [(0, y0), (1, y1), (4, y4), (5, y5), (10, y10), (12, y12), (13, y13), (14, y14), (24, y24)] = [(0, y0), (1, y1), (4, y4), (5, y5), (10, y10), (12, y12), (13, y13), (14, z0), (24, y24)] := fun y0 y1 y4 y5 y10 y12 y13 y14 y24 z0 => rfl
    refine R_nil (tr _ _ _ _ _ _ _ _ _ _) ?_; clear tr
    refine then_n ?_
    refine at_seq rfl ?_
    refine cdd (fun h2 => ?_) (fun h2 => ?_)
    · try simp only [decide_eq_true_eq, decide_eq_false_iff_not, Bool.not_eq_true', Bool.not_eq_false', beq_iff_eq, beq_eq_false_iff_ne, ne_eq] at h2
      refine at_skip rfl ?_
      refine then_n ?_
      refine at_seq rfl ?_
      refine at_block rfl ?_
      refine at_seq rfl ?_
      refine rg rfl ?_
      refine Rq ?_
      refine Rq ?_
      have tr : ∀ y0 y1 y4 y5 y10 y12 y13 y14 y24 z0 z1 : AV, trim [(5, z1), (15, z0), (0, y0), (1, y1), (4, y4), (5, y5), (10, y10), (12, y12), (13, y13), (14, y14), (24, y24)] [(0, y0), (1, y1), (4, y4), (5, y5), (10, y10), (12, y12), (13, y13), (14, y14), (24, y24)] = [(0, y0), (1, y1), (4, y4), (5, z1), (10, y10), (12, y12), (13, y13), (14, y14), (24, y24)] := fun y0 y1 y4 y5 y10 y12 y13 y14 y24 z0 z1 => rfl
      refine R_nil (tr _ _ _ _ _ _ _ _ _ _ _) ?_; clear tr
      refine then_n ?_
      refine at_seq rfl ?_
      refine rd rfl rfl ?_
      refine Qq ?_
      refine Qq ?_
      refine Qq ?_
      refine Qq ?_
      refine Qq ?_
      refine Qq ?_
      refine Qq ?_
      refine Qq ?_
      refine Qq ?_
      refine Q_nil ?_
      have tr : ∀ y0 y1 y4 y5 y10 y12 y13 y14 y24 z0 z1 z2 z3 z4 z5 z6 z7 z8 : AV, trim [(24, z8), (23, z7), (22, z6), (21, z5), (20, z4), (19, z3), (18, z2), (17, z1), (16, z0), (0, y0), (1, y1), (4, y4), (5, y5), (10, y10), (12, y12), (13, y13), (14, y14), (24, y24)] [(0, y0), (1, y1), (4, y4), (5, y5), (10, y10), (12, y12), (13, y13), (14, y14), (24, y24)] = [(0, y0), (1, y1), (4, y4), (5, y5), (10, y10), (12, y12), (13, y13), (14, y14), (24, z8)] := fun y0 y1 y4 y5 y10 y12 y13 y14 y24 z0 z1 z2 z3 z4 z5 z6 z7 z8 => rfl
      refine R_nil (tr _ _ _ _ _ _ _ _ _ _ _ _ _ _ _ _ _ _) ?_; clear tr
      refine then_n ?_
      refine cdd (fun h3 => ?_) (fun h3 => ?_)
      · try simp only [decide_eq_true_eq, decide_eq_false_iff_not, Bool.not_eq_true', Bool.not_eq_false', beq_iff_eq, beq_eq_false_iff_ne, ne_eq] at h3
        refine at_seq rfl ?_
        refine rg rfl ?_
        refine Rq ?_
        have tr : ∀ y0 y1 y4 y5 y10 y12 y13 y14 y24 z0 : AV, trim [(4, z0), (0, y0), (1, y1), (4, y4), (5, y5), (10, y10), (12, y12), (13, y13), (14, y14), (24, y24)] [(0, y0), (1, y1), (4, y4), (5, y5), (10, y10), (12, y12), (13, y13), (14, y14), (24, y24)] = [(0, y0), (1, y1), (4, z0), (5, y5), (10, y10), (12, y12), (13, y13), (14, y14), (24, y24)] := fun y0 y1 y4 y5 y10 y12 y13 y14 y24 z0 => rfl
        refine R_nil (tr _ _ _ _ _ _ _ _ _ _) ?_; clear tr
        refine then_n ?_
        refine at_ret rfl ?_
        refine blk_r ?_
        refine then_r ?_
        refine then_r ?_
        refine blk_r ?_
        refine then_r ?_
        refine fpure ?_
        refine ⟨?_, rfl⟩
        rw [decide_eq_false (fun hh => by subst hh; simp_all)]
      · try simp only [decide_eq_true_eq, decide_eq_false_iff_not, Bool.not_eq_true', Bool.not_eq_false', beq_iff_eq, beq_eq_false_iff_ne, ne_eq] at h3
        refine at_skip rfl ?_
        refine blk_n ?_
        refine then_n ?_
        refine rg rfl ?_
        refine Rq ?_
        refine Rq ?_
        have tr : ∀ y0 y1 y4 y5 y10 y12 y13 y14 y24 z0 z1 : AV, trim [(13, z1), (25, z0), (0, y0), (1, y1), (4, y4), (5, y5), (10, y10), (12, y12), (13, y13), (14, y14), (24, y24)] [(0, y0), (1, y1), (4, y4), (5, y5), (10, y10), (12, y12), (13, y13), (14, y14), (24, y24)] = [(0, y0), (1, y1), (4, y4), (5, y5), (10, y10), (12, y12), (13, z1), (14, y14), (24, y24)] := fun y0 y1 y4 y5 y10 y12 y13 y14 y24 z0 z1 => rfl
        refine R_nil (tr _ _ _ _ _ _ _ _ _ _ _) ?_; clear tr
        refine then_n ?_
        exact ⟨_, _, ⟨u + 1, _, _, _, _, rfl, rfl, rfl, by omega, by exact all_step hq (by assumption)⟩, by rfl, by omega⟩
    · try simp only [decide_eq_true_eq, decide_eq_false_iff_not, Bool.not_eq_true', Bool.not_eq_false', beq_iff_eq, beq_eq_false_iff_ne, ne_eq] at h2
      refine at_exit rfl ?_
      refine then_x ?_
      refine then_x ?_
      refine blk_x ?_
      refine then_n ?_
      refine at_seq rfl ?_
      refine rg rfl ?_
      refine Rq ?_
      have tr : ∀ y0 y1 y4 y5 y10 y12 y13 y14 y24 z0 : AV, trim [(4, z0), (0, y0), (1, y1), (4, y4), (5, y5), (10, y10), (12, y12), (13, y13), (14, y14), (24, y24)] [(0, y0), (1, y1), (4, y4), (5, y5), (10, y10), (12, y12), (13, y13), (14, y14), (24, y24)] = [(0, y0), (1, y1), (4, z0), (5, y5), (10, y10), (12, y12), (13, y13), (14, y14), (24, y24)] := fun y0 y1 y4 y5 y10 y12 y13 y14 y24 z0 => rfl
      refine R_nil (tr _ _ _ _ _ _ _ _ _ _) ?_; clear tr
      refine then_n ?_
      refine at_ret rfl ?_
      refine fpure ?_
      refine ⟨?_, rfl⟩
      rw [decide_eq_true (ext_gt (by omega) fun i hi => hq i (by omega))]

theorem equal_nil (lim : Nat) (H : Heap) :
    ACall sig lim 16 [nilA, nilA] H fun r H' => r = .v (.bool true) ∧ H' = H := by
  refine ACall_pure (fa := fa16) rfl rfl rfl rfl ?_
  have tr : ∀ a0 a1 : AV, env0 fa16.keep [a0, a1] = [(0, a0), (1, a1), (4, .any), (5, .any), (10, .any), (12, .any), (13, .any), (14, .any), (24, .any)] := fun a0 a1 => rfl
  refine W_to (tr _ _) ?_; clear tr
  refine at_seq rfl ?_
  refine rg rfl ?_
  refine Rq ?_
  have tr : ∀ y0 y1 y4 y5 y10 y12 y13 y14 y24 z0 : AV, trim [(4, z0), (0, y0), (1, y1), (4, y4), (5, y5), (10, y10), (12, y12), (13, y13), (14, y14), (24, y24)] [(0, y0), (1, y1), (4, y4), (5, y5), (10, y10), (12, y12), (13, y13), (14, y14), (24, y24)] = [(0, y0), (1, y1), (4, z0), (5, y5), (10, y10), (12, y12), (13, y13), (14, y14), (24, y24)] := fun y0 y1 y4 y5 y10 y12 y13 y14 y24 z0 => rfl
  refine R_nil (tr _ _ _ _ _ _ _ _ _ _) ?_; clear tr
  refine then_n ?_
  refine at_seq rfl ?_
  refine at_seq rfl ?_
  refine rg rfl ?_
  refine Rq ?_
  refine Rq ?_
  refine Rq ?_
  refine Rq ?_
  refine Rq ?_
  have tr : ∀ y0 y1 y4 y5 y10 y12 y13 y14 y24 z0 z1 z2 z3 z4 : AV, trim [(10, z4), (9, z3), (8, z2), (7, z1), (6, z0), (0, y0), (1, y1), (4, y4), (5, y5), (10, y10), (12, y12), (13, y13), (14, y14), (24, y24)] [(0, y0), (1, y1), (4, y4), (5, y5), (10, y10), (12, y12), (13, y13), (14, y14), (24, y24)] = [(0, y0), (1, y1), (4, y4), (5, y5), (10, z4), (12, y12), (13, y13), (14, y14), (24, y24)] := fun y0 y1 y4 y5 y10 y12 y13 y14 y24 z0 z1 z2 z3 z4 => rfl
  refine R_nil (tr _ _ _ _ _ _ _ _ _ _ _ _ _ _) ?_; clear tr
  refine then_n ?_
  refine cdd (fun h1 => ?_) (fun h1 => ?_)
  · try simp only [decide_eq_true_eq, decide_eq_false_iff_not, Bool.not_eq_true', Bool.not_eq_false', beq_iff_eq, beq_eq_false_iff_ne, ne_eq] at h1
    first | omega | exact absurd rfl (by assumption) | exact absurd trivial (by assumption)
  · try simp only [decide_eq_true_eq, decide_eq_false_iff_not, Bool.not_eq_true', Bool.not_eq_false', beq_iff_eq, beq_eq_false_iff_ne, ne_eq] at h1
    refine at_skip rfl ?_
    refine then_n ?_
    refine at_seq rfl ?_
    refine at_seq rfl ?_
    refine rg rfl ?_
    refine Rq ?_
    refine Rq ?_
    refine Rq ?_
    have tr : ∀ y0 y1 y4 y5 y10 y12 y13 y14 y24 z0 z1 z2 : AV, trim [(13, z2), (12, z1), (11, z0), (0, y0), (1, y1), (4, y4), (5, y5), (10, y10), (12, y12), (13, y13), (14, y14), (24, y24)] [(0, y0), (1, y1), (4, y4), (5, y5), (10, y10), (12, y12), (13, y13), (14, y14), (24, y24)] = [(0, y0), (1, y1), (4, y4), (5, y5), (10, y10), (12, z1), (13, z2), (14, y14), (24, y24)] := fun y0 y1 y4 y5 y10 y12 y13 y14 y24 z0 z1 z2 => rfl
    refine R_nil (tr _ _ _ _ _ _ _ _ _ _ _ _) ?_; clear tr
    refine then_n ?_
    refine at_block rfl ?_
    refine loop_n rfl (fun mm kv H' => ∃ u : Nat, ∃ x4 x5 x14 x24 : AV, (kv = [(4, x4), (5, x5), (13, AV.i u), (14, x14), (24, x24)]) ∧ (mm = 0) ∧ (H' = H) ∧ (u = 0)) ⟨0, _, _, _, _, rfl, rfl, rfl, by rfl⟩ (by rfl) ?_
    rintro mm kv H' ⟨u, x4, x5, x14, x24, rfl, rfl, rfl, hu⟩
    have tr : ∀ y0 y1 y4 y5 y10 y12 y13 y14 y24 z4 z5 z13 z14 z24 : AV, upd [(0, y0), (1, y1), (4, y4), (5, y5), (10, y10), (12, y12), (13, y13), (14, y14), (24, y24)] [(4, z4), (5, z5), (13, z13), (14, z14), (24, z24)] = [(0, y0), (1, y1), (4, z4), (5, z5), (10, y10), (12, y12), (13, z13), (14, z14), (24, z24)] := fun y0 y1 y4 y5 y10 y12 y13 y14 y24 z4 z5 z13 z14 z24 => rfl
    refine W_to (tr _ _ _ _ _ _ _ _ _ _ _ _ _ _) ?_; clear tr
    refine at_seq rfl ?_
    refine rg rfl ?_
    refine Rq ?_
    have tr : ∀ y0 y1 y4 y5 y10 y12 y13 y14 y24 z0 : AV, trim [(14, z0), (0, y0), (1, y1), (4, y4), (5, y5), (10, y10), (12, y12), (13, y13), (14, y14), (24, y24)] [(0, y0), (1, y1), (4, y4), (5, y5), (10, y10), (12, y12), (13, y13), (14, y14), (24, y24)] = [(0, y0), (1, y1), (4, y4), (5, y5), (10, y10), (12, y12), (13, y13), (14, z0), (24, y24)] := fun y0 y1 y4 y5 y10 y12 y13 y14 y24 z0 => rfl
    refine R_nil (tr _ _ _ _ _ _ _ _ _ _) ?_; clear tr
    refine then_n ?_
    refine at_seq rfl ?_
    refine cdd (fun h2 => ?_) (fun h2 => ?_)
    · try simp only [decide_eq_true_eq, decide_eq_false_iff_not, Bool.not_eq_true', Bool.not_eq_false', beq_iff_eq, beq_eq_false_iff_ne, ne_eq] at h2
      exfalso; omega
    · try simp only [decide_eq_true_eq, decide_eq_false_iff_not, Bool.not_eq_true', Bool.not_eq_false', beq_iff_eq, beq_eq_false_iff_ne, ne_eq] at h2
      refine at_exit rfl ?_
      refine then_x ?_
      refine then_x ?_
      refine blk_x ?_
      refine then_n ?_
      refine at_seq rfl ?_
      refine rg rfl ?_
      refine Rq ?_
      have tr : ∀ y0 y1 y4 y5 y10 y12 y13 y14 y24 z0 : AV, trim [(4, z0), (0, y0), (1, y1), (4, y4), (5, y5), (10, y10), (12, y12), (13, y13), (14, y14), (24, y24)] [(0, y0), (1, y1), (4, y4), (5, y5), (10, y10), (12, y12), (13, y13), (14, y14), (24, y24)] = [(0, y0), (1, y1), (4, z0), (5, y5), (10, y10), (12, y12), (13, y13), (14, y14), (24, y24)] := fun y0 y1 y4 y5 y10 y12 y13 y14 y24 z0 => rfl
      refine R_nil (tr _ _ _ _ _ _ _ _ _ _) ?_; clear tr
      refine then_n ?_
      refine at_ret rfl ?_
      refine fpure ?_
      refine ⟨?_, rfl⟩
      rfl

theorem feas_err (lim : Nat) (H : Heap) (n s t : Int) (E : List Ed) (x : AV) (he : gchkS n s t E ≠ 0) :
    ACall sig lim 23 [.agg (graphC n s t E), x] H fun r H' => r = AV.i (gchkS n s t E) ∧ H' = H := by
  refine ACall_pure (fa := fa23) rfl rfl rfl rfl ?_
  have tr : ∀ a0 a1 : AV, env0 fa23.keep [a0, a1] = [(0, a0), (1, a1), (2, .any), (4, .any), (5, .any), (6, .any), (7, .any), (8, .any), (9, .any), (13, .any), (20, .any), (22, .any), (23, .any), (24, .any), (25, .any), (42, .any), (46, .any), (47, .any), (48, .any), (49, .any), (66, .any)] := fun a0 a1 => rfl
  refine W_to (tr _ _) ?_; clear tr
  refine at_seq rfl ?_
  refine rg rfl ?_
  refine R_box rfl (by simp (disch := first | omega | (simp only [List.length_map, List.length_append, List.length_set, List.length_cons, List.length_nil, List.length_take, List.length_drop]; omega)) only [go_sem, ↓reduceIte, Nat.reduceEqDiff, reduceCtorEq]; rfl) rfl rfl ?_
  refine Rq ?_
  have tr : ∀ y0 y1 y2 y4 y5 y6 y7 y8 y9 y13 y20 y22 y23 y24 y25 y42 y46 y47 y48 y49 y66 z0 z1 : AV, trim [(4, z1), (2, z0), (0, y0), (1, y1), (2, y2), (4, y4), (5, y5), (6, y6), (7, y7), (8, y8), (9, y9), (13, y13), (20, y20), (22, y22), (23, y23), (24, y24), (25, y25), (42, y42), (46, y46), (47, y47), (48, y48), (49, y49), (66, y66)] [(0, y0), (1, y1), (2, y2), (4, y4), (5, y5), (6, y6), (7, y7), (8, y8), (9, y9), (13, y13), (20, y20), (22, y22), (23, y23), (24, y24), (25, y25), (42, y42), (46, y46), (47, y47), (48, y48), (49, y49), (66, y66)] = [(0, y0), (1, y1), (2, z0), (4, z1), (5, y5), (6, y6), (7, y7), (8, y8), (9, y9), (13, y13), (20, y20), (22, y22), (23, y23), (24, y24), (25, y25), (42, y42), (46, y46), (47, y47), (48, y48), (49, y49), (66, y66)] := fun y0 y1 y2 y4 y5 y6 y7 y8 y9 y13 y20 y22 y23 y24 y25 y42 y46 y47 y48 y49 y66 z0 z1 => rfl
  refine R_nil (tr _ _ _ _ _ _ _ _ _ _ _ _ _ _ _ _ _ _ _ _ _ _ _) ?_; clear tr
  refine then_n ?_
  refine at_seq rfl ?_
  refine at_seq rfl ?_
  refine rg rfl ?_
  refine Rq ?_
  refine Rcall ?_
  refine ACall_eq (check_ok _ _ n s t E) ?_
  refine Rq ?_
  have tr : ∀ y0 y1 y2 y4 y5 y6 y7 y8 y9 y13 y20 y22 y23 y24 y25 y42 y46 y47 y48 y49 y66 z0 z1 z2 : AV, trim [(5, z2), (11, z1), (10, z0), (0, y0), (1, y1), (2, y2), (4, y4), (5, y5), (6, y6), (7, y7), (8, y8), (9, y9), (13, y13), (20, y20), (22, y22), (23, y23), (24, y24), (25, y25), (42, y42), (46, y46), (47, y47), (48, y48), (49, y49), (66, y66)] [(0, y0), (1, y1), (2, y2), (4, y4), (5, y5), (6, y6), (7, y7), (8, y8), (9, y9), (13, y13), (20, y20), (22, y22), (23, y23), (24, y24), (25, y25), (42, y42), (46, y46), (47, y47), (48, y48), (49, y49), (66, y66)] = [(0, y0), (1, y1), (2, y2), (4, y4), (5, z2), (6, y6), (7, y7), (8, y8), (9, y9), (13, y13), (20, y20), (22, y22), (23, y23), (24, y24), (25, y25), (42, y42), (46, y46), (47, y47), (48, y48), (49, y49), (66, y66)] := fun y0 y1 y2 y4 y5 y6 y7 y8 y9 y13 y20 y22 y23 y24 y25 y42 y46 y47 y48 y49 y66 z0 z1 z2 => rfl
  refine R_nil (tr _ _ _ _ _ _ _ _ _ _ _ _ _ _ _ _ _ _ _ _ _ _ _ _) ?_; clear tr
  refine then_n ?_
  refine at_seq rfl ?_
  refine rg rfl ?_
  refine Rq ?_
  refine Rq ?_
  have tr : ∀ y0 y1 y2 y4 y5 y6 y7 y8 y9 y13 y20 y22 y23 y24 y25 y42 y46 y47 y48 y49 y66 z0 z1 : AV, trim [(13, z1), (12, z0), (0, y0), (1, y1), (2, y2), (4, y4), (5, y5), (6, y6), (7, y7), (8, y8), (9, y9), (13, y13), (20, y20), (22, y22), (23, y23), (24, y24), (25, y25), (42, y42), (46, y46), (47, y47), (48, y48), (49, y49), (66, y66)] [(0, y0), (1, y1), (2, y2), (4, y4), (5, y5), (6, y6), (7, y7), (8, y8), (9, y9), (13, y13), (20, y20), (22, y22), (23, y23), (24, y24), (25, y25), (42, y42), (46, y46), (47, y47), (48, y48), (49, y49), (66, y66)] = [(0, y0), (1, y1), (2, y2), (4, y4), (5, y5), (6, y6), (7, y7), (8, y8), (9, y9), (13, z1), (20, y20), (22, y22), (23, y23), (24, y24), (25, y25), (42, y42), (46, y46), (47, y47), (48, y48), (49, y49), (66, y66)] := fun y0 y1 y2 y4 y5 y6 y7 y8 y9 y13 y20 y22 y23 y24 y25 y42 y46 y47 y48 y49 y66 z0 z1 => rfl
  refine R_nil (tr _ _ _ _ _ _ _ _ _ _ _ _ _ _ _ _ _ _ _ _ _ _ _) ?_; clear tr
  refine then_n ?_
  refine cdd (fun h1 => ?_) (fun h1 => ?_)
  · try simp only [decide_eq_true_eq, decide_eq_false_iff_not, Bool.not_eq_true', Bool.not_eq_false', beq_iff_eq, beq_eq_false_iff_ne, ne_eq] at h1
    refine at_seq rfl ?_
    refine rg rfl ?_
    refine Rq ?_
    refine Rq ?_
    have tr : ∀ y0 y1 y2 y4 y5 y6 y7 y8 y9 y13 y20 y22 y23 y24 y25 y42 y46 y47 y48 y49 y66 z0 z1 : AV, trim [(4, z1), (14, z0), (0, y0), (1, y1), (2, y2), (4, y4), (5, y5), (6, y6), (7, y7), (8, y8), (9, y9), (13, y13), (20, y20), (22, y22), (23, y23), (24, y24), (25, y25), (42, y42), (46, y46), (47, y47), (48, y48), (49, y49), (66, y66)] [(0, y0), (1, y1), (2, y2), (4, y4), (5, y5), (6, y6), (7, y7), (8, y8), (9, y9), (13, y13), (20, y20), (22, y22), (23, y23), (24, y24), (25, y25), (42, y42), (46, y46), (47, y47), (48, y48), (49, y49), (66, y66)] = [(0, y0), (1, y1), (2, y2), (4, z1), (5, y5), (6, y6), (7, y7), (8, y8), (9, y9), (13, y13), (20, y20), (22, y22), (23, y23), (24, y24), (25, y25), (42, y42), (46, y46), (47, y47), (48, y48), (49, y49), (66, y66)] := fun y0 y1 y2 y4 y5 y6 y7 y8 y9 y13 y20 y22 y23 y24 y25 y42 y46 y47 y48 y49 y66 z0 z1 => rfl
    refine R_nil (tr _ _ _ _ _ _ _ _ _ _ _ _ _ _ _ _ _ _ _ _ _ _ _) ?_; clear tr
    refine then_n ?_
    refine at_ret rfl ?_
    refine then_r ?_
    refine fpure ?_
    refine ⟨?_, rfl⟩
    rfl
  · try simp only [decide_eq_true_eq, decide_eq_false_iff_not, Bool.not_eq_true', Bool.not_eq_false', beq_iff_eq, beq_eq_false_iff_ne, ne_eq] at h1
    exact absurd (by assumption) he

theorem rfeas_err (lim : Nat) (H : Heap) (n s t : Int) (E : List Ed) (x : AV) (he : gchkS n s t E ≠ 0) :
    ACall sig lim 24 [.agg (graphC n s t E), x] H fun r H' => r = AV.i (gchkS n s t E) ∧ H' = H := by
  refine ACall_pure (fa := fa24) rfl rfl rfl rfl ?_
  have tr : ∀ a0 a1 : AV, env0 fa24.keep [a0, a1] = [(0, a0), (1, a1), (2, .any), (4, .any), (5, .any), (6, .any), (7, .any), (8, .any), (9, .any), (13, .any), (20, .any), (22, .any), (23, .any), (24, .any), (25, .any), (42, .any), (46, .any), (47, .any), (48, .any), (49, .any), (66, .any)] := fun a0 a1 => rfl
  refine W_to (tr _ _) ?_; clear tr
  refine at_seq rfl ?_
  refine rg rfl ?_
  refine R_box rfl (by simp (disch := first | omega | (simp only [List.length_map, List.length_append, List.length_set, List.length_cons, List.length_nil, List.length_take, List.length_drop]; omega)) only [go_sem, ↓reduceIte, Nat.reduceEqDiff, reduceCtorEq]; rfl) rfl rfl ?_
  refine Rq ?_
  have tr : ∀ y0 y1 y2 y4 y5 y6 y7 y8 y9 y13 y20 y22 y23 y24 y25 y42 y46 y47 y48 y49 y66 z0 z1 : AV, trim [(4, z1), (2, z0), (0, y0), (1, y1), (2, y2), (4, y4), (5, y5), (6, y6), (7, y7), (8, y8), (9, y9), (13, y13), (20, y20), (22, y22), (23, y23), (24, y24), (25, y25), (42, y42), (46, y46), (47, y47), (48, y48), (49, y49), (66, y66)] [(0, y0), (1, y1), (2, y2), (4, y4), (5, y5), (6, y6), (7, y7), (8, y8), (9, y9), (13, y13), (20, y20), (22, y22), (23, y23), (24, y24), (25, y25), (42, y42), (46, y46), (47, y47), (48, y48), (49, y49), (66, y66)] = [(0, y0), (1, y1), (2, z0), (4, z1), (5, y5), (6, y6), (7, y7), (8, y8), (9, y9), (13, y13), (20, y20), (22, y22), (23, y23), (24, y24), (25, y25), (42, y42), (46, y46), (47, y47), (48, y48), (49, y49), (66, y66)] := fun y0 y1 y2 y4 y5 y6 y7 y8 y9 y13 y20 y22 y23 y24 y25 y42 y46 y47 y48 y49 y66 z0 z1 => rfl
  refine R_nil (tr _ _ _ _ _ _ _ _ _ _ _ _ _ _ _ _ _ _ _ _ _ _ _) ?_; clear tr
  refine then_n ?_
  refine at_seq rfl ?_
  refine at_seq rfl ?_
  refine rg rfl ?_
  refine Rq ?_
  refine Rcall ?_
  refine ACall_eq (rcheck_ok _ _ n s t E) ?_
  refine Rq ?_
  have tr : ∀ y0 y1 y2 y4 y5 y6 y7 y8 y9 y13 y20 y22 y23 y24 y25 y42 y46 y47 y48 y49 y66 z0 z1 z2 : AV, trim [(5, z2), (11, z1), (10, z0), (0, y0), (1, y1), (2, y2), (4, y4), (5, y5), (6, y6), (7, y7), (8, y8), (9, y9), (13, y13), (20, y20), (22, y22), (23, y23), (24, y24), (25, y25), (42, y42), (46, y46), (47, y47), (48, y48), (49, y49), (66, y66)] [(0, y0), (1, y1), (2, y2), (4, y4), (5, y5), (6, y6), (7, y7), (8, y8), (9, y9), (13, y13), (20, y20), (22, y22), (23, y23), (24, y24), (25, y25), (42, y42), (46, y46), (47, y47), (48, y48), (49, y49), (66, y66)] = [(0, y0), (1, y1), (2, y2), (4, y4), (5, z2), (6, y6), (7, y7), (8, y8), (9, y9), (13, y13), (20, y20), (22, y22), (23, y23), (24, y24), (25, y25), (42, y42), (46, y46), (47, y47), (48, y48), (49, y49), (66, y66)] := fun y0 y1 y2 y4 y5 y6 y7 y8 y9 y13 y20 y22 y23 y24 y25 y42 y46 y47 y48 y49 y66 z0 z1 z2 => rfl
  refine R_nil (tr _ _ _ _ _ _ _ _ _ _ _ _ _ _ _ _ _ _ _ _ _ _ _ _) ?_; clear tr
  refine then_n ?_
  refine at_seq rfl ?_
  refine rg rfl ?_
  refine Rq ?_
  refine Rq ?_
  have tr : ∀ y0 y1 y2 y4 y5 y6 y7 y8 y9 y13 y20 y22 y23 y24 y25 y42 y46 y47 y48 y49 y66 z0 z1 : AV, trim [(13, z1), (12, z0), (0, y0), (1, y1), (2, y2), (4, y4), (5, y5), (6, y6), (7, y7), (8, y8), (9, y9), (13, y13), (20, y20), (22, y22), (23, y23), (24, y24), (25, y25), (42, y42), (46, y46), (47, y47), (48, y48), (49, y49), (66, y66)] [(0, y0), (1, y1), (2, y2), (4, y4), (5, y5), (6, y6), (7, y7), (8, y8), (9, y9), (13, y13), (20, y20), (22, y22), (23, y23), (24, y24), (25, y25), (42, y42), (46, y46), (47, y47), (48, y48), (49, y49), (66, y66)] = [(0, y0), (1, y1), (2, y2), (4, y4), (5, y5), (6, y6), (7, y7), (8, y8), (9, y9), (13, z1), (20, y20), (22, y22), (23, y23), (24, y24), (25, y25), (42, y42), (46, y46), (47, y47), (48, y48), (49, y49), (66, y66)] := fun y0 y1 y2 y4 y5 y6 y7 y8 y9 y13 y20 y22 y23 y24 y25 y42 y46 y47 y48 y49 y66 z0 z1 => rfl
  refine R_nil (tr _ _ _ _ _ _ _ _ _ _ _ _ _ _ _ _ _ _ _ _ _ _ _) ?_; clear tr
  refine then_n ?_
  refine cdd (fun h1 => ?_) (fun h1 => ?_)
  · try simp only [decide_eq_true_eq, decide_eq_false_iff_not, Bool.not_eq_true', Bool.not_eq_false', beq_iff_eq, beq_eq_false_iff_ne, ne_eq] at h1
    refine at_seq rfl ?_
    refine rg rfl ?_
    refine Rq ?_
    refine Rq ?_
    have tr : ∀ y0 y1 y2 y4 y5 y6 y7 y8 y9 y13 y20 y22 y23 y24 y25 y42 y46 y47 y48 y49 y66 z0 z1 : AV, trim [(4, z1), (14, z0), (0, y0), (1, y1), (2, y2), (4, y4), (5, y5), (6, y6), (7, y7), (8, y8), (9, y9), (13, y13), (20, y20), (22, y22), (23, y23), (24, y24), (25, y25), (42, y42), (46, y46), (47, y47), (48, y48), (49, y49), (66, y66)] [(0, y0), (1, y1), (2, y2), (4, y4), (5, y5), (6, y6), (7, y7), (8, y8), (9, y9), (13, y13), (20, y20), (22, y22), (23, y23), (24, y24), (25, y25), (42, y42), (46, y46), (47, y47), (48, y48), (49, y49), (66, y66)] = [(0, y0), (1, y1), (2, y2), (4, z1), (5, y5), (6, y6), (7, y7), (8, y8), (9, y9), (13, y13), (20, y20), (22, y22), (23, y23), (24, y24), (25, y25), (42, y42), (46, y46), (47, y47), (48, y48), (49, y49), (66, y66)] := fun y0 y1 y2 y4 y5 y6 y7 y8 y9 y13 y20 y22 y23 y24 y25 y42 y46 y47 y48 y49 y66 z0 z1 => rfl
    refine R_nil (tr _ _ _ _ _ _ _ _ _ _ _ _ _ _ _ _ _ _ _ _ _ _ _) ?_; clear tr
    refine then_n ?_
    refine at_ret rfl ?_
    refine then_r ?_
    refine fpure ?_
    refine ⟨?_, rfl⟩
    rfl
  · try simp only [decide_eq_true_eq, decide_eq_false_iff_not, Bool.not_eq_true', Bool.not_eq_false', beq_iff_eq, beq_eq_false_iff_ne, ne_eq] at h1
    exact absurd (by assumption) he

theorem value_err (lim : Nat) (H : Heap) (n s t : Int) (E : List Ed) (x : AV) (he : gchkS n s t E ≠ 0) :
    ACall sig lim 17 [.agg (graphC n s t E), x] H fun r H' => r = .tup [AV.i 0, AV.i (gchkS n s t E)] ∧ H' = H := by
  refine ACall_pure (fa := fa17) rfl rfl rfl rfl ?_
  have tr : ∀ a0 a1 : AV, env0 fa17.keep [a0, a1] = [(0, a0), (1, a1), (2, .any), (4, .any), (5, .any), (6, .any), (11, .any)] := fun a0 a1 => rfl
  refine W_to (tr _ _) ?_; clear tr
  refine at_seq rfl ?_
  refine rg rfl ?_
  refine R_box rfl (by simp (disch := first | omega | (simp only [List.length_map, List.length_append, List.length_set, List.length_cons, List.length_nil, List.length_take, List.length_drop]; omega)) only [go_sem, ↓reduceIte, Nat.reduceEqDiff, reduceCtorEq]; rfl) rfl rfl ?_
  refine Rq ?_
  refine Rq ?_
  have tr : ∀ y0 y1 y2 y4 y5 y6 y11 z0 z1 z2 : AV, trim [(5, z2), (4, z1), (2, z0), (0, y0), (1, y1), (2, y2), (4, y4), (5, y5), (6, y6), (11, y11)] [(0, y0), (1, y1), (2, y2), (4, y4), (5, y5), (6, y6), (11, y11)] = [(0, y0), (1, y1), (2, z0), (4, z1), (5, z2), (6, y6), (11, y11)] := fun y0 y1 y2 y4 y5 y6 y11 z0 z1 z2 => rfl
  refine R_nil (tr _ _ _ _ _ _ _ _ _ _) ?_; clear tr
  refine then_n ?_
  refine at_seq rfl ?_
  refine at_seq rfl ?_
  refine rg rfl ?_
  refine Rq ?_
  refine Rq ?_
  refine Rcall ?_
  refine ACall_eq (feas_err _ _ n s t E _ he) ?_
  refine Rq ?_
  have tr : ∀ y0 y1 y2 y4 y5 y6 y11 z0 z1 z2 z3 : AV, trim [(6, z3), (9, z2), (8, z1), (7, z0), (0, y0), (1, y1), (2, y2), (4, y4), (5, y5), (6, y6), (11, y11)] [(0, y0), (1, y1), (2, y2), (4, y4), (5, y5), (6, y6), (11, y11)] = [(0, y0), (1, y1), (2, y2), (4, y4), (5, y5), (6, z3), (11, y11)] := fun y0 y1 y2 y4 y5 y6 y11 z0 z1 z2 z3 => rfl
  refine R_nil (tr _ _ _ _ _ _ _ _ _ _ _) ?_; clear tr
  refine then_n ?_
  refine at_seq rfl ?_
  refine rg rfl ?_
  refine Rq ?_
  refine Rq ?_
  have tr : ∀ y0 y1 y2 y4 y5 y6 y11 z0 z1 : AV, trim [(11, z1), (10, z0), (0, y0), (1, y1), (2, y2), (4, y4), (5, y5), (6, y6), (11, y11)] [(0, y0), (1, y1), (2, y2), (4, y4), (5, y5), (6, y6), (11, y11)] = [(0, y0), (1, y1), (2, y2), (4, y4), (5, y5), (6, y6), (11, z1)] := fun y0 y1 y2 y4 y5 y6 y11 z0 z1 => rfl
  refine R_nil (tr _ _ _ _ _ _ _ _ _) ?_; clear tr
  refine then_n ?_
  refine cdd (fun h1 => ?_) (fun h1 => ?_)
  · try simp only [decide_eq_true_eq, decide_eq_false_iff_not, Bool.not_eq_true', Bool.not_eq_false', beq_iff_eq, beq_eq_false_iff_ne, ne_eq] at h1
    refine at_seq rfl ?_
    refine rg rfl ?_
    refine Rq ?_
    refine Rq ?_
    refine Rq ?_
    have tr : ∀ y0 y1 y2 y4 y5 y6 y11 z0 z1 z2 : AV, trim [(5, z2), (4, z1), (12, z0), (0, y0), (1, y1), (2, y2), (4, y4), (5, y5), (6, y6), (11, y11)] [(0, y0), (1, y1), (2, y2), (4, y4), (5, y5), (6, y6), (11, y11)] = [(0, y0), (1, y1), (2, y2), (4, z1), (5, z2), (6, y6), (11, y11)] := fun y0 y1 y2 y4 y5 y6 y11 z0 z1 z2 => rfl
    refine R_nil (tr _ _ _ _ _ _ _ _ _ _) ?_; clear tr
    refine then_n ?_
    refine at_ret rfl ?_
    refine then_r ?_
    refine fpure ?_
    refine ⟨?_, rfl⟩
    rfl
  · try simp only [decide_eq_true_eq, decide_eq_false_iff_not, Bool.not_eq_true', Bool.not_eq_false', beq_iff_eq, beq_eq_false_iff_ne, ne_eq] at h1
    exact absurd (by assumption) he

theorem rvalue_err (lim : Nat) (H : Heap) (n s t : Int) (E : List Ed) (x : AV) (he : gchkS n s t E ≠ 0) :
    ACall sig lim 18 [.agg (graphC n s t E), x] H fun r H' => r = .tup [AV.i 0, AV.i (gchkS n s t E)] ∧ H' = H := by
  refine ACall_pure (fa := fa18) rfl rfl rfl rfl ?_
  have tr : ∀ a0 a1 : AV, env0 fa18.keep [a0, a1] = [(0, a0), (1, a1), (2, .any), (4, .any), (5, .any), (6, .any), (11, .any)] := fun a0 a1 => rfl
  refine W_to (tr _ _) ?_; clear tr
  refine at_seq rfl ?_
  refine rg rfl ?_
  refine R_box rfl (by simp (disch := first | omega | (simp only [List.length_map, List.length_append, List.length_set, List.length_cons, List.length_nil, List.length_take, List.length_drop]; omega)) only [go_sem, ↓reduceIte, Nat.reduceEqDiff, reduceCtorEq]; rfl) rfl rfl ?_
  refine Rq ?_
  refine Rq ?_
  have tr : ∀ y0 y1 y2 y4 y5 y6 y11 z0 z1 z2 : AV, trim [(5, z2), (4, z1), (2, z0), (0, y0), (1, y1), (2, y2), (4, y4), (5, y5), (6, y6), (11, y11)] [(0, y0), (1, y1), (2, y2), (4, y4), (5, y5), (6, y6), (11, y11)] = [(0, y0), (1, y1), (2, z0), (4, z1), (5, z2), (6, y6), (11, y11)] := fun y0 y1 y2 y4 y5 y6 y11 z0 z1 z2 => rfl
  refine R_nil (tr _ _ _ _ _ _ _ _ _ _) ?_; clear tr
  refine then_n ?_
  refine at_seq rfl ?_
  refine at_seq rfl ?_
  refine rg rfl ?_
  refine Rq ?_
  refine Rq ?_
  refine Rcall ?_
  refine ACall_eq (rfeas_err _ _ n s t E _ he) ?_
  refine Rq ?_
  have tr : ∀ y0 y1 y2 y4 y5 y6 y11 z0 z1 z2 z3 : AV, trim [(6, z3), (9, z2), (8, z1), (7, z0), (0, y0), (1, y1), (2, y2), (4, y4), (5, y5), (6, y6), (11, y11)] [(0, y0), (1, y1), (2, y2), (4, y4), (5, y5), (6, y6), (11, y11)] = [(0, y0), (1, y1), (2, y2), (4, y4), (5, y5), (6, z3), (11, y11)] := fun y0 y1 y2 y4 y5 y6 y11 z0 z1 z2 z3 => rfl
  refine R_nil (tr _ _ _ _ _ _ _ _ _ _ _) ?_; clear tr
  refine then_n ?_
  refine at_seq rfl ?_
  refine rg rfl ?_
  refine Rq ?_
  refine Rq ?_
  have tr : ∀ y0 y1 y2 y4 y5 y6 y11 z0 z1 : AV, trim [(11, z1), (10, z0), (0, y0), (1, y1), (2, y2), (4, y4), (5, y5), (6, y6), (11, y11)] [(0, y0), (1, y1), (2, y2), (4, y4), (5, y5), (6, y6), (11, y11)] = [(0, y0), (1, y1), (2, y2), (4, y4), (5, y5), (6, y6), (11, z1)] := fun y0 y1 y2 y4 y5 y6 y11 z0 z1 => rfl
  refine R_nil (tr _ _ _ _ _ _ _ _ _) ?_; clear tr
  refine then_n ?_
  refine cdd (fun h1 => ?_) (fun h1 => ?_)
  · try simp only [decide_eq_true_eq, decide_eq_false_iff_not, Bool.not_eq_true', Bool.not_eq_false', beq_iff_eq, beq_eq_false_iff_ne, ne_eq] at h1
    refine at_seq rfl ?_
    refine rg rfl ?_
    refine Rq ?_
    refine Rq ?_
    refine Rq ?_
    have tr : ∀ y0 y1 y2 y4 y5 y6 y11 z0 z1 z2 : AV, trim [(5, z2), (4, z1), (12, z0), (0, y0), (1, y1), (2, y2), (4, y4), (5, y5), (6, y6), (11, y11)] [(0, y0), (1, y1), (2, y2), (4, y4), (5, y5), (6, y6), (11, y11)] = [(0, y0), (1, y1), (2, y2), (4, z1), (5, z2), (6, y6), (11, y11)] := fun y0 y1 y2 y4 y5 y6 y11 z0 z1 z2 => rfl
    refine R_nil (tr _ _ _ _ _ _ _ _ _ _) ?_; clear tr
    refine then_n ?_
    refine at_ret rfl ?_
    refine then_r ?_
    refine fpure ?_
    refine ⟨?_, rfl⟩
    rfl
  · try simp only [decide_eq_true_eq, decide_eq_false_iff_not, Bool.not_eq_true', Bool.not_eq_false', beq_iff_eq, beq_eq_false_iff_ne, ne_eq] at h1
    exact absurd (by assumption) he

end Go.Proofs.Ytdicnojnkbmdlaa
