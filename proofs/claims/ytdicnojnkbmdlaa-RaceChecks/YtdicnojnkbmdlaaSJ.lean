/-
  Walks of chapters 52 and 53. The steps are written by program (walk.py).
-/
import Derived.Test.YtdicnojnkbmdlaaS3
set_option linter.unusedSimpArgs false
set_option linter.unusedVariables false
set_option maxHeartbeats 40000000
set_option maxRecDepth 4000
namespace Go.Proofs.Ytdicnojnkbmdlaa
open Go Go.Am

theorem vfun_ok (lim : Nat) (H : Heap) (x : Int) :
    ACall sig lim 76 [AV.i x] H fun r H' => r = .v (.bool (decide (x < 0 ∨ 2 < x))) ∧ H' = H := by
  refine ACall_pure (fa := fa76) rfl rfl rfl rfl ?_
  have tr : ∀ a0 : AV, env0 fa76.keep [a0] = [(0, a0), (2, .any)] := fun a0 => rfl
  refine W_to (tr _) ?_; clear tr
  refine at_seq rfl ?_
  refine rg rfl ?_
  refine Rq ?_
  have tr : ∀ y0 y2 z0 : AV, trim [(2, z0), (0, y0), (2, y2)] [(0, y0), (2, y2)] = [(0, y0), (2, z0)] := fun y0 y2 z0 => rfl
  refine R_nil (tr _ _ _) ?_; clear tr
  refine then_n ?_
  refine at_seq rfl ?_
  refine rg rfl ?_
  refine Rq ?_
  refine Rq ?_
  refine Rq ?_
  refine Rp_split (fun h1 => ?_) (fun h1 => ?_)
  · try simp only [decide_eq_true_eq, decide_eq_false_iff_not, Bool.not_eq_true', Bool.not_eq_false', beq_iff_eq, beq_eq_false_iff_ne, ne_eq] at h1
    refine Rn ?_
    refine Rn ?_
    refine Rq ?_
    refine Rq ?_
    have tr : ∀ y0 y2 z0 z1 z2 z3 z4 z5 z6 : AV, trim [(2, z6), (8, z5), (7, z4), (6, z3), (5, z2), (4, z1), (3, z0), (0, y0), (2, y2)] [(0, y0), (2, y2)] = [(0, y0), (2, z6)] := fun y0 y2 z0 z1 z2 z3 z4 z5 z6 => rfl
    refine R_nil (tr _ _ _ _ _ _ _ _ _) ?_; clear tr
    refine then_n ?_
    refine at_ret rfl ?_
    refine fpure ?_
    refine ⟨?_, rfl⟩
    rw [decide_eq_true (.inl (by omega))]
  · try simp only [decide_eq_true_eq, decide_eq_false_iff_not, Bool.not_eq_true', Bool.not_eq_false', beq_iff_eq, beq_eq_false_iff_ne, ne_eq] at h1
    refine Ry ?_
    refine Rq ?_
    refine Ry ?_
    refine Rq ?_
    refine Rq ?_
    refine Rq ?_
    have tr : ∀ y0 y2 z0 z1 z2 z3 z4 z5 z6 : AV, trim [(2, z6), (8, z5), (7, z4), (6, z3), (5, z2), (4, z1), (3, z0), (0, y0), (2, y2)] [(0, y0), (2, y2)] = [(0, y0), (2, z6)] := fun y0 y2 z0 z1 z2 z3 z4 z5 z6 => rfl
    refine R_nil (tr _ _ _ _ _ _ _ _ _) ?_; clear tr
    refine then_n ?_
    refine at_ret rfl ?_
    refine fpure ?_
    refine ⟨?_, rfl⟩
    congr 2
    rw [decide_eq_decide]
    omega

theorem indexf_ok (lim : Nat) (H : Heap) (R : List Int) (hR : R.length ≤ 100000) :
    ACall sig lim 80 [intsAV R, .clo 76 []] H fun r H' => (∃ k : Int, r = AV.i k ∧ (0 ≤ k ↔ ¬ resOK R)) ∧ H' = H := by
  refine ACall_pure (fa := fa80) rfl rfl rfl rfl ?_
  have tr : ∀ a0 a1 : AV, env0 fa80.keep [a0, a1] = [(0, a0), (1, a1), (4, .any), (5, .any), (7, .any), (8, .any), (9, .any), (16, .any)] := fun a0 a1 => rfl
  refine W_to (tr _ _) ?_; clear tr
  refine at_seq rfl ?_
  refine rg rfl ?_
  refine Rq ?_
  have tr : ∀ y0 y1 y4 y5 y7 y8 y9 y16 z0 : AV, trim [(4, z0), (0, y0), (1, y1), (4, y4), (5, y5), (7, y7), (8, y8), (9, y9), (16, y16)] [(0, y0), (1, y1), (4, y4), (5, y5), (7, y7), (8, y8), (9, y9), (16, y16)] = [(0, y0), (1, y1), (4, z0), (5, y5), (7, y7), (8, y8), (9, y9), (16, y16)] := fun y0 y1 y4 y5 y7 y8 y9 y16 z0 => rfl
  refine R_nil (tr _ _ _ _ _ _ _ _ _) ?_; clear tr
  refine then_n ?_
  refine at_seq rfl ?_
  refine at_seq rfl ?_
  refine rg rfl ?_
  refine Rq ?_
  refine Rq ?_
  refine Rq ?_
  have tr : ∀ y0 y1 y4 y5 y7 y8 y9 y16 z0 z1 z2 : AV, trim [(8, z2), (7, z1), (6, z0), (0, y0), (1, y1), (4, y4), (5, y5), (7, y7), (8, y8), (9, y9), (16, y16)] [(0, y0), (1, y1), (4, y4), (5, y5), (7, y7), (8, y8), (9, y9), (16, y16)] = [(0, y0), (1, y1), (4, y4), (5, y5), (7, z1), (8, z2), (9, y9), (16, y16)] := fun y0 y1 y4 y5 y7 y8 y9 y16 z0 z1 z2 => rfl
  refine R_nil (tr _ _ _ _ _ _ _ _ _ _ _) ?_; clear tr
  refine then_n ?_
  refine at_block rfl ?_
  refine loop_n rfl (fun mm kv H' => ∃ u : Nat, ∃ x4 x5 x9 x16 : AV, (kv = [(4, x4), (5, x5), (8, AV.i u), (9, x9), (16, x16)]) ∧ (mm = R.length - u) ∧ (H' = H) ∧ (u ≤ R.length) ∧ (∀ i, i < u → 0 ≤ gt R i ∧ gt R i ≤ 2)) ⟨0, _, _, _, _, rfl, rfl, rfl, by omega, by intro i hi; omega⟩ (by rfl) ?_
  rintro mm kv H' ⟨u, x4, x5, x9, x16, rfl, rfl, rfl, hu, hq⟩
  have tr : ∀ y0 y1 y4 y5 y7 y8 y9 y16 z4 z5 z8 z9 z16 : AV, upd [(0, y0), (1, y1), (4, y4), (5, y5), (7, y7), (8, y8), (9, y9), (16, y16)] [(4, z4), (5, z5), (8, z8), (9, z9), (16, z16)] = [(0, y0), (1, y1), (4, z4), (5, z5), (7, y7), (8, z8), (9, z9), (16, z16)] := fun y0 y1 y4 y5 y7 y8 y9 y16 z4 z5 z8 z9 z16 => rfl
  refine W_to (tr _ _ _ _ _ _ _ _ _ _ _ _ _) ?_; clear tr
  refine at_seq rfl ?_
  refine rg rfl ?_
  refine Rq ?_
  have tr : ∀ y0 y1 y4 y5 y7 y8 y9 y16 z0 : AV, trim [(9, z0), (0, y0), (1, y1), (4, y4), (5, y5), (7, y7), (8, y8), (9, y9), (16, y16)] [(0, y0), (1, y1), (4, y4), (5, y5), (7, y7), (8, y8), (9, y9), (16, y16)] = [(0, y0), (1, y1), (4, y4), (5, y5), (7, y7), (8, y8), (9, z0), (16, y16)] := fun y0 y1 y4 y5 y7 y8 y9 y16 z0 => rfl
  refine R_nil (tr _ _ _ _ _ _ _ _ _) ?_; clear tr
  refine then_n ?_
  refine at_seq rfl ?_
  refine cdd (fun h1 => ?_) (fun h1 => ?_)
  · try simp only [decide_eq_true_eq, decide_eq_false_iff_not, Bool.not_eq_true', Bool.not_eq_false', beq_iff_eq, beq_eq_false_iff_ne, ne_eq] at h1
    refine at_skip rfl ?_
    refine then_n ?_
    refine at_seq rfl ?_
    refine at_block rfl ?_
    refine at_seq rfl ?_
    refine rg rfl ?_
    refine Rq ?_
    refine Rq ?_
    have tr : ∀ y0 y1 y4 y5 y7 y8 y9 y16 z0 z1 : AV, trim [(5, z1), (10, z0), (0, y0), (1, y1), (4, y4), (5, y5), (7, y7), (8, y8), (9, y9), (16, y16)] [(0, y0), (1, y1), (4, y4), (5, y5), (7, y7), (8, y8), (9, y9), (16, y16)] = [(0, y0), (1, y1), (4, y4), (5, z1), (7, y7), (8, y8), (9, y9), (16, y16)] := fun y0 y1 y4 y5 y7 y8 y9 y16 z0 z1 => rfl
    refine R_nil (tr _ _ _ _ _ _ _ _ _ _) ?_; clear tr
    refine then_n ?_
    refine at_seq rfl ?_
    refine rg rfl ?_
    refine Rq ?_
    refine Rq ?_
    refine Rq ?_
    refine Rq ?_
    refine Rq ?_
    refine R_callv (by simp (disch := first | omega | (simp only [List.length_map, List.length_append, List.length_set, List.length_cons, List.length_nil, List.length_take, List.length_drop]; omega)) only [go_sem, ↓reduceIte, Nat.reduceEqDiff, reduceCtorEq]; rfl) (by simp only [List.map_cons, List.map_nil, List.cons_append, List.nil_append, go_sem, ↓reduceIte, Nat.reduceEqDiff]; rfl) ?_
    refine ACall_eq (vfun_ok _ _ _) ?_
    have tr : ∀ y0 y1 y4 y5 y7 y8 y9 y16 z0 z1 z2 z3 z4 z5 : AV, trim [(16, z5), (15, z4), (14, z3), (13, z2), (12, z1), (11, z0), (0, y0), (1, y1), (4, y4), (5, y5), (7, y7), (8, y8), (9, y9), (16, y16)] [(0, y0), (1, y1), (4, y4), (5, y5), (7, y7), (8, y8), (9, y9), (16, y16)] = [(0, y0), (1, y1), (4, y4), (5, y5), (7, y7), (8, y8), (9, y9), (16, z5)] := fun y0 y1 y4 y5 y7 y8 y9 y16 z0 z1 z2 z3 z4 z5 => rfl
    refine R_nil (tr _ _ _ _ _ _ _ _ _ _ _ _ _ _) ?_; clear tr
    refine then_n ?_
    refine cdd (fun h2 => ?_) (fun h2 => ?_)
    · try simp only [decide_eq_true_eq, decide_eq_false_iff_not, Bool.not_eq_true', Bool.not_eq_false', beq_iff_eq, beq_eq_false_iff_ne, ne_eq] at h2
      refine at_seq rfl ?_
      refine rg rfl ?_
      refine Rq ?_
      refine Rq ?_
      have tr : ∀ y0 y1 y4 y5 y7 y8 y9 y16 z0 z1 : AV, trim [(4, z1), (17, z0), (0, y0), (1, y1), (4, y4), (5, y5), (7, y7), (8, y8), (9, y9), (16, y16)] [(0, y0), (1, y1), (4, y4), (5, y5), (7, y7), (8, y8), (9, y9), (16, y16)] = [(0, y0), (1, y1), (4, z1), (5, y5), (7, y7), (8, y8), (9, y9), (16, y16)] := fun y0 y1 y4 y5 y7 y8 y9 y16 z0 z1 => rfl
      refine R_nil (tr _ _ _ _ _ _ _ _ _ _) ?_; clear tr
      refine then_n ?_
      refine at_ret rfl ?_
      refine blk_r ?_
      refine then_r ?_
      refine then_r ?_
      refine blk_r ?_
      refine then_r ?_
      refine fpure ?_
      exact ⟨⟨_, rfl, fun _ hh => by have := hh u (by omega); omega, fun _ => by omega⟩, rfl⟩
    · try simp only [decide_eq_true_eq, decide_eq_false_iff_not, Bool.not_eq_true', Bool.not_eq_false', beq_iff_eq, beq_eq_false_iff_ne, ne_eq] at h2
      refine at_skip rfl ?_
      refine blk_n ?_
      refine then_n ?_
      refine rg rfl ?_
      refine Rq ?_
      refine Rq ?_
      have tr : ∀ y0 y1 y4 y5 y7 y8 y9 y16 z0 z1 : AV, trim [(8, z1), (18, z0), (0, y0), (1, y1), (4, y4), (5, y5), (7, y7), (8, y8), (9, y9), (16, y16)] [(0, y0), (1, y1), (4, y4), (5, y5), (7, y7), (8, y8), (9, y9), (16, y16)] = [(0, y0), (1, y1), (4, y4), (5, y5), (7, y7), (8, z1), (9, y9), (16, y16)] := fun y0 y1 y4 y5 y7 y8 y9 y16 z0 z1 => rfl
      refine R_nil (tr _ _ _ _ _ _ _ _ _ _) ?_; clear tr
      refine then_n ?_
      exact ⟨_, _, ⟨u + 1, _, _, _, _, rfl, rfl, rfl, by omega, by exact all_step hq (by omega)⟩, by rfl, by omega⟩
  · try simp only [decide_eq_true_eq, decide_eq_false_iff_not, Bool.not_eq_true', Bool.not_eq_false', beq_iff_eq, beq_eq_false_iff_ne, ne_eq] at h1
    refine at_exit rfl ?_
    refine then_x ?_
    refine then_x ?_
    refine blk_x ?_
    refine then_n ?_
    refine at_seq rfl ?_
    refine rg rfl ?_
    refine Rq ?_
    have tr : ∀ y0 y1 y4 y5 y7 y8 y9 y16 z0 : AV, trim [(4, z0), (0, y0), (1, y1), (4, y4), (5, y5), (7, y7), (8, y8), (9, y9), (16, y16)] [(0, y0), (1, y1), (4, y4), (5, y5), (7, y7), (8, y8), (9, y9), (16, y16)] = [(0, y0), (1, y1), (4, z0), (5, y5), (7, y7), (8, y8), (9, y9), (16, y16)] := fun y0 y1 y4 y5 y7 y8 y9 y16 z0 => rfl
    refine R_nil (tr _ _ _ _ _ _ _ _ _) ?_; clear tr
    refine then_n ?_
    refine at_ret rfl ?_
    refine fpure ?_
    exact ⟨⟨_, rfl, fun hh => by omega, fun hh => absurd (fun i hi => hq i (by omega)) hh⟩, rfl⟩

theorem containsf_ok (lim : Nat) (H : Heap) (R : List Int) (hR : R.length ≤ 100000) :
    ACall sig lim 75 [intsAV R, .clo 76 []] H fun r H' => (∃ b : Bool, r = .v (.bool b) ∧ (b = true ↔ ¬ resOK R)) ∧ H' = H := by
  refine ACall_pure (fa := fa75) rfl rfl rfl rfl ?_
  have tr : ∀ a0 a1 : AV, env0 fa75.keep [a0, a1] = [(0, a0), (1, a1), (4, .any)] := fun a0 a1 => rfl
  refine W_to (tr _ _) ?_; clear tr
  refine at_seq rfl ?_
  refine rg rfl ?_
  refine Rq ?_
  have tr : ∀ y0 y1 y4 z0 : AV, trim [(4, z0), (0, y0), (1, y1), (4, y4)] [(0, y0), (1, y1), (4, y4)] = [(0, y0), (1, y1), (4, z0)] := fun y0 y1 y4 z0 => rfl
  refine R_nil (tr _ _ _ _) ?_; clear tr
  refine then_n ?_
  refine at_seq rfl ?_
  refine rg rfl ?_
  refine Rq ?_
  refine Rq ?_
  refine Rcall ?_
  refine ACall_mono (indexf_ok _ _ R hR) ?_
  rintro r H6 ⟨⟨k, rfl, hk⟩, rfl⟩
  refine Rq ?_
  refine Rq ?_
  have tr : ∀ y0 y1 y4 z0 z1 z2 z3 z4 : AV, trim [(4, z4), (8, z3), (7, z2), (6, z1), (5, z0), (0, y0), (1, y1), (4, y4)] [(0, y0), (1, y1), (4, y4)] = [(0, y0), (1, y1), (4, z4)] := fun y0 y1 y4 z0 z1 z2 z3 z4 => rfl
  refine R_nil (tr _ _ _ _ _ _ _ _) ?_; clear tr
  refine then_n ?_
  refine at_ret rfl ?_
  refine fpure ?_
  exact ⟨⟨_, rfl, by rw [decide_eq_true_eq]; exact hk⟩, rfl⟩

theorem valid_ok (lim : Nat) (H : Heap) (R : List Int) (hR : R.length ≤ 100000) :
    ACall sig lim 63 [intsAV R] H fun r H' => (∃ b : Bool, r = .v (.bool b) ∧ (b = true ↔ resOK R)) ∧ H' = H := by
  refine ACall_pure (fa := fa63) rfl rfl rfl rfl ?_
  have tr : ∀ a0 : AV, env0 fa63.keep [a0] = [(0, a0), (2, .any)] := fun a0 => rfl
  refine W_to (tr _) ?_; clear tr
  refine at_seq rfl ?_
  refine rg rfl ?_
  refine Rq ?_
  have tr : ∀ y0 y2 z0 : AV, trim [(2, z0), (0, y0), (2, y2)] [(0, y0), (2, y2)] = [(0, y0), (2, z0)] := fun y0 y2 z0 => rfl
  refine R_nil (tr _ _ _) ?_; clear tr
  refine then_n ?_
  refine at_seq rfl ?_
  refine rg rfl ?_
  refine Rq ?_
  refine Rcall ?_
  refine ACall_mono (containsf_ok _ _ R hR) ?_
  rintro r H6 ⟨⟨k, rfl, hk⟩, rfl⟩
  refine Rq ?_
  refine Rq ?_
  have tr : ∀ y0 y2 z0 z1 z2 z3 : AV, trim [(2, z3), (5, z2), (4, z1), (3, z0), (0, y0), (2, y2)] [(0, y0), (2, y2)] = [(0, y0), (2, z3)] := fun y0 y2 z0 z1 z2 z3 => rfl
  refine R_nil (tr _ _ _ _ _ _) ?_; clear tr
  refine then_n ?_
  refine at_ret rfl ?_
  refine fpure ?_
  refine ⟨⟨_, rfl, ?_⟩, rfl⟩
  cases k with
  | true => exact ⟨fun hh => (by cases hh), fun hh => absurd hh (hk.1 rfl)⟩
  | false => exact ⟨fun _ => Classical.not_not.mp fun hh => (by cases hk.2 hh), fun _ => rfl⟩

theorem clone_ok (lim : Nat) (H : Heap) (hlim : lim ≤ H.length) (l : List Int) (h0 : 0 < l.length) (h1 : l.length ≤ 1000) :
    ACall sig lim 77 [intsAV l] H fun r H' => ∃ b, r = .own 1 b 0 l.length ∧ H.length ≤ b ∧ hget H' b = some (l.map AV.i) ∧ ∀ c, c < H.length → hget H' c = hget H c := by
  refine ACall_own (fa := fa77) rfl rfl rfl rfl ?_
  have tr : ∀ a0 : AV, env0 fa77.keep [a0] = [(0, a0), (2, .any), (4, .any)] := fun a0 => rfl
  refine W_to (tr _) ?_; clear tr
  refine at_seq rfl ?_
  refine rg rfl ?_
  refine Rq ?_
  have tr : ∀ y0 y2 y4 z0 : AV, trim [(2, z0), (0, y0), (2, y2), (4, y4)] [(0, y0), (2, y2), (4, y4)] = [(0, y0), (2, z0), (4, y4)] := fun y0 y2 y4 z0 => rfl
  refine R_nil (tr _ _ _ _) ?_; clear tr
  refine then_n ?_
  refine at_seq rfl ?_
  refine at_seq rfl ?_
  refine rg rfl ?_
  refine Rq ?_
  refine R_q rfl (nil40 _ _ h0) ?_
  have tr : ∀ y0 y2 y4 z0 z1 : AV, trim [(4, z1), (3, z0), (0, y0), (2, y2), (4, y4)] [(0, y0), (2, y2), (4, y4)] = [(0, y0), (2, y2), (4, z1)] := fun y0 y2 y4 z0 z1 => rfl
  refine R_nil (tr _ _ _ _ _) ?_; clear tr
  refine then_n ?_
  refine cdd (fun h1 => ?_) (fun h1 => ?_)
  · try simp only [decide_eq_true_eq, decide_eq_false_iff_not, Bool.not_eq_true', Bool.not_eq_false', beq_iff_eq, beq_eq_false_iff_ne, ne_eq] at h1
    cases h1
  · try simp only [decide_eq_true_eq, decide_eq_false_iff_not, Bool.not_eq_true', Bool.not_eq_false', beq_iff_eq, beq_eq_false_iff_ne, ne_eq] at h1
    refine at_skip rfl ?_
    refine then_n ?_
    refine at_seq rfl ?_
    refine rg rfl ?_
    refine A_buildSlice (bs40e _ _ _) ?_
    intro H1 n1
    have en1 := n1.len
    refine Rq ?_
    refine A_append (by simp (disch := first | omega | (simp only [List.length_map, List.length_append, List.length_set, List.length_cons, List.length_nil, List.length_take, List.length_drop]; omega)) only [go_sem, ↓reduceIte, Nat.reduceEqDiff, reduceCtorEq]; exact app40e n1.new (by omega) (by omega)) ?_
    intro H2 g2
    have eg2 := g2.len
    refine Rq ?_
    have tr : ∀ y0 y2 y4 z0 z1 z2 z3 : AV, trim [(2, z3), (7, z2), (6, z1), (5, z0), (0, y0), (2, y2), (4, y4)] [(0, y0), (2, y2), (4, y4)] = [(0, y0), (2, z3), (4, y4)] := fun y0 y2 y4 z0 z1 z2 z3 => rfl
    refine R_nil (tr _ _ _ _ _ _ _) ?_; clear tr
    refine then_n ?_
    refine at_ret rfl ?_
    refine fin_own rfl (by simp only [go_sem, ↓reduceIte, Nat.reduceEqDiff]; rfl) ?_
    exact ⟨_, rfl, by omega, g2.new, fun c hc => (g2.old c (by omega) (by omega)).trans (n1.old c hc)⟩

theorem play_ok (lim : Nat) (H : Heap) (P : List Int) (L : List Pr) (R : List Int) (g : ROK P L) (hl : R.length = L.length) (hr : resOK R) :
    ACall sig lim 64 [.agg (raceC P L), intsAV R] H fun r H' => r = intsAV (playN P L R L.length) ∧ H' = H := by
  obtain ⟨g1, g2_, g3, g4, ge, g6⟩ := id g
  have q0 : True := trivial
  have qp : True := trivial
  have qx : True := trivial
  refine ACall_pure (fa := fa64) rfl rfl rfl rfl ?_
  have tr : ∀ a0 a1 : AV, env0 fa64.keep [a0, a1] = [(0, a0), (1, a1), (2, .any), (4, .any), (5, .any), (6, .any), (7, .any), (12, .any), (13, .any), (14, .any), (15, .any)] := fun a0 a1 => rfl
  refine W_to (tr _ _) ?_; clear tr
  refine at_seq rfl ?_
  refine rg rfl ?_
  refine A_box rfl (by simp (disch := first | omega | (simp only [List.length_map, List.length_append, List.length_set, List.length_cons, List.length_nil, List.length_take, List.length_drop]; omega)) only [go_sem, ↓reduceIte, Nat.reduceEqDiff, reduceCtorEq]; rfl) ?_
  intro H1 n0
  have en0 := n0.len
  have q0 := n0.new
  refine Rq ?_
  have tr : ∀ y0 y1 y2 y4 y5 y6 y7 y12 y13 y14 y15 z0 z1 : AV, trim [(4, z1), (2, z0), (0, y0), (1, y1), (2, y2), (4, y4), (5, y5), (6, y6), (7, y7), (12, y12), (13, y13), (14, y14), (15, y15)] [(0, y0), (1, y1), (2, y2), (4, y4), (5, y5), (6, y6), (7, y7), (12, y12), (13, y13), (14, y14), (15, y15)] = [(0, y0), (1, y1), (2, z0), (4, z1), (5, y5), (6, y6), (7, y7), (12, y12), (13, y13), (14, y14), (15, y15)] := fun y0 y1 y2 y4 y5 y6 y7 y12 y13 y14 y15 z0 z1 => rfl
  refine R_nil (tr _ _ _ _ _ _ _ _ _ _ _ _ _) ?_; clear tr
  refine then_n ?_
  refine at_seq rfl ?_
  refine rg rfl ?_
  refine Rq ?_
  refine R_q rfl (by simp (disch := first | omega | (simp only [List.length_map, List.length_append, List.length_set, List.length_cons, List.length_nil, List.length_take, List.length_drop]; omega)) only [go_sem, ↓reduceIte, Nat.reduceEqDiff, reduceCtorEq, q0, qp, qx]; rfl) ?_
  refine Rcall ?_
  refine ACall_mono (clone_ok _ _ (by omega) P (by omega) (by omega)) ?_
  rintro r H3 ⟨bp, rfl, hbp, qp, hold⟩
  have q0 := (hold _ (hget_lt q0)).trans q0
  refine Rq ?_
  have tr : ∀ y0 y1 y2 y4 y5 y6 y7 y12 y13 y14 y15 z0 z1 z2 z3 : AV, trim [(5, z3), (10, z2), (9, z1), (8, z0), (0, y0), (1, y1), (2, y2), (4, y4), (5, y5), (6, y6), (7, y7), (12, y12), (13, y13), (14, y14), (15, y15)] [(0, y0), (1, y1), (2, y2), (4, y4), (5, y5), (6, y6), (7, y7), (12, y12), (13, y13), (14, y14), (15, y15)] = [(0, y0), (1, y1), (2, y2), (4, y4), (5, z3), (6, y6), (7, y7), (12, y12), (13, y13), (14, y14), (15, y15)] := fun y0 y1 y2 y4 y5 y6 y7 y12 y13 y14 y15 z0 z1 z2 z3 => rfl
  refine R_nil (tr _ _ _ _ _ _ _ _ _ _ _ _ _ _ _) ?_; clear tr
  refine then_n ?_
  refine at_seq rfl ?_
  refine at_seq rfl ?_
  refine rg rfl ?_
  refine Rq ?_
  refine R_q rfl (by simp (disch := first | omega | (simp only [List.length_map, List.length_append, List.length_set, List.length_cons, List.length_nil, List.length_take, List.length_drop]; omega)) only [go_sem, ↓reduceIte, Nat.reduceEqDiff, reduceCtorEq, q0, qp, qx]; rfl) ?_
  refine Rq ?_
  refine Rq ?_
  have tr : ∀ y0 y1 y2 y4 y5 y6 y7 y12 y13 y14 y15 z0 z1 z2 z3 : AV, trim [(14, z3), (13, z2), (12, z1), (11, z0), (0, y0), (1, y1), (2, y2), (4, y4), (5, y5), (6, y6), (7, y7), (12, y12), (13, y13), (14, y14), (15, y15)] [(0, y0), (1, y1), (2, y2), (4, y4), (5, y5), (6, y6), (7, y7), (12, y12), (13, y13), (14, y14), (15, y15)] = [(0, y0), (1, y1), (2, y2), (4, y4), (5, y5), (6, y6), (7, y7), (12, z1), (13, z2), (14, z3), (15, y15)] := fun y0 y1 y2 y4 y5 y6 y7 y12 y13 y14 y15 z0 z1 z2 z3 => rfl
  refine R_nil (tr _ _ _ _ _ _ _ _ _ _ _ _ _ _ _) ?_; clear tr
  refine then_n ?_
  refine at_block rfl ?_
  refine loop_n rfl (fun mm kv H' => ∃ u : Nat, ∃ x6 x7 x15 : AV, (kv = [(6, x6), (7, x7), (14, AV.i u), (15, x15)]) ∧ (mm = L.length - u) ∧ (hget H' H.length = some (raceC P L)) ∧ (hget H' bp = some ((playN P L R u).map AV.i)) ∧ (u ≤ L.length)) ⟨0, _, _, _, rfl, rfl, by exact q0, by exact qp, by omega⟩ (by rfl) ?_
  rintro mm kv HB ⟨u, x6, x7, x15, rfl, rfl, q0, qp, hu⟩
  have tr : ∀ y0 y1 y2 y4 y5 y6 y7 y12 y13 y14 y15 z6 z7 z14 z15 : AV, upd [(0, y0), (1, y1), (2, y2), (4, y4), (5, y5), (6, y6), (7, y7), (12, y12), (13, y13), (14, y14), (15, y15)] [(6, z6), (7, z7), (14, z14), (15, z15)] = [(0, y0), (1, y1), (2, y2), (4, y4), (5, y5), (6, z6), (7, z7), (12, y12), (13, y13), (14, z14), (15, z15)] := fun y0 y1 y2 y4 y5 y6 y7 y12 y13 y14 y15 z6 z7 z14 z15 => rfl
  refine W_to (tr _ _ _ _ _ _ _ _ _ _ _ _ _ _ _) ?_; clear tr
  refine at_seq rfl ?_
  refine rg rfl ?_
  refine Rq ?_
  have tr : ∀ y0 y1 y2 y4 y5 y6 y7 y12 y13 y14 y15 z0 : AV, trim [(15, z0), (0, y0), (1, y1), (2, y2), (4, y4), (5, y5), (6, y6), (7, y7), (12, y12), (13, y13), (14, y14), (15, y15)] [(0, y0), (1, y1), (2, y2), (4, y4), (5, y5), (6, y6), (7, y7), (12, y12), (13, y13), (14, y14), (15, y15)] = [(0, y0), (1, y1), (2, y2), (4, y4), (5, y5), (6, y6), (7, y7), (12, y12), (13, y13), (14, y14), (15, z0)] := fun y0 y1 y2 y4 y5 y6 y7 y12 y13 y14 y15 z0 => rfl
  refine R_nil (tr _ _ _ _ _ _ _ _ _ _ _ _) ?_; clear tr
  refine then_n ?_
  refine at_seq rfl ?_
  refine cdd (fun h1 => ?_) (fun h1 => ?_)
  · try simp only [decide_eq_true_eq, decide_eq_false_iff_not, Bool.not_eq_true', Bool.not_eq_false', beq_iff_eq, beq_eq_false_iff_ne, ne_eq] at h1
    refine at_skip rfl ?_
    refine then_n ?_
    refine at_seq rfl ?_
    refine at_block rfl ?_
    refine at_seq rfl ?_
    refine rg rfl ?_
    have he := ge u (by omega)
    have hru := hr u (by omega)
    have hpl := play_len P L R u
    have hpr := play_rng g hl hr u (by omega)
    have hp1 := hpr.1 (gt L u).a.toNat (by omega)
    have hp2 := hpr.2 (by omega) (gt L u).b.toNat (by omega)
    have hpl1 : (play1 L R u (playN P L R u)).length = P.length := by rw [play1_len, hpl]
    have kqp := hget_lt qp
    have kq0 := hget_lt q0
    refine Rq ?_
    refine Rq ?_
    refine R_q rfl (by simp (disch := first | omega | (simp only [List.length_map, List.length_append, List.length_set, List.length_cons, List.length_nil, List.length_take, List.length_drop]; omega)) only [go_sem, ↓reduceIte, Nat.reduceEqDiff, reduceCtorEq, q0, qp, qx]; rfl) ?_
    refine A_alloc rfl ?_
    intro HC n4
    have en4 := n4.len
    have q0 := (n4.old _ (hget_lt q0)).trans q0
    have qp := (n4.old _ (hget_lt qp)).trans qp
    have qx := n4.new
    refine Rq ?_
    have lq0 := hget_lt q0
    have lqp := hget_lt qp
    have lqx := hget_lt qx
    refine A_store ty58 (by simp (disch := first | omega | (simp only [List.length_map, List.length_append, List.length_set, List.length_cons, List.length_nil, List.length_take, List.length_drop]; omega)) only [go_sem, ↓reduceIte, Nat.reduceEqDiff, reduceCtorEq, q0, qp, qx]; rfl) (by simp (disch := first | omega | (simp only [List.length_map, List.length_append, List.length_set, List.length_cons, List.length_nil, List.length_take, List.length_drop]; omega)) only [go_sem, ↓reduceIte, Nat.reduceEqDiff, reduceCtorEq, q0, qp, qx]; rfl) qx ⟨by omega, rfl, by first | exact Nat.le_refl _ | simp⟩ (show _ = prC (gt L u) from rfl) ?_
    intro HD w4
    have ew4 := w4.len
    have q0 := (w4.old _ (by omega)).trans q0
    have qp := (w4.old _ (by omega)).trans qp
    have qx := w4.new
    have tr : ∀ y0 y1 y2 y4 y5 y6 y7 y12 y13 y14 y15 z0 z1 z2 z3 z4 : AV, trim [(6, z4), (7, z3), (18, z2), (17, z1), (16, z0), (0, y0), (1, y1), (2, y2), (4, y4), (5, y5), (6, y6), (7, y7), (12, y12), (13, y13), (14, y14), (15, y15)] [(0, y0), (1, y1), (2, y2), (4, y4), (5, y5), (6, y6), (7, y7), (12, y12), (13, y13), (14, y14), (15, y15)] = [(0, y0), (1, y1), (2, y2), (4, y4), (5, y5), (6, z4), (7, z3), (12, y12), (13, y13), (14, y14), (15, y15)] := fun y0 y1 y2 y4 y5 y6 y7 y12 y13 y14 y15 z0 z1 z2 z3 z4 => rfl
    refine R_nil (tr _ _ _ _ _ _ _ _ _ _ _ _ _ _ _ _) ?_; clear tr
    refine then_n ?_
    refine at_seq rfl ?_
    refine rd rfl rfl ?_
    refine Qq ?_
    refine Qq ?_
    refine Q_q rfl (by simp (disch := first | omega | (simp only [List.length_map, List.length_append, List.length_set, List.length_cons, List.length_nil, List.length_take, List.length_drop]; omega)) only [go_sem, ↓reduceIte, Nat.reduceEqDiff, reduceCtorEq, q0, qp, qx]; rfl) ?_
    refine Qq ?_
    refine Q_q rfl (by simp (disch := first | omega | (simp only [List.length_map, List.length_append, List.length_set, List.length_cons, List.length_nil, List.length_take, List.length_drop]; omega)) only [go_sem, ↓reduceIte, Nat.reduceEqDiff, reduceCtorEq, q0, qp, qx]; rfl) ?_
    refine Qq ?_
    refine Qq ?_
    refine Qq ?_
    refine Q_q rfl (by simp (disch := first | omega | (simp only [List.length_map, List.length_append, List.length_set, List.length_cons, List.length_nil, List.length_take, List.length_drop]; omega)) only [go_sem, ↓reduceIte, Nat.reduceEqDiff, reduceCtorEq, q0, qp, qx]; rfl) ?_
    refine Qq ?_
    refine Qq ?_
    refine Q_nil ?_
    have lq0 := hget_lt q0
    have lqp := hget_lt qp
    have lqx := hget_lt qx
    refine A_store ty3 (by simp (disch := first | omega | (simp only [List.length_map, List.length_append, List.length_set, List.length_cons, List.length_nil, List.length_take, List.length_drop]; omega)) only [go_sem, ↓reduceIte, Nat.reduceEqDiff, reduceCtorEq, q0, qp, qx]; rfl) (by simp (disch := first | omega | (simp only [List.length_map, List.length_append, List.length_set, List.length_cons, List.length_nil, List.length_take, List.length_drop]; omega)) only [go_sem, ↓reduceIte, Nat.reduceEqDiff, reduceCtorEq, q0, qp, qx]; rfl) qp ⟨by omega, rfl, by simp only [List.length_map, play1_len, hpl]; omega⟩ (k' := (play1 L R u (playN P L R u)).map AV.i) (by rw [setL_map]; rfl) ?_
    intro HE w5
    have ew5 := w5.len
    have q0 := (w5.old _ (by omega)).trans q0
    have qx := (w5.old _ (by omega)).trans qx
    have qp := w5.new
    have tr : ∀ y0 y1 y2 y4 y5 y6 y7 y12 y13 y14 y15 z0 z1 z2 z3 z4 z5 z6 z7 z8 z9 z10 : AV, trim [(29, z10), (28, z9), (27, z8), (26, z7), (25, z6), (24, z5), (23, z4), (22, z3), (21, z2), (20, z1), (19, z0), (0, y0), (1, y1), (2, y2), (4, y4), (5, y5), (6, y6), (7, y7), (12, y12), (13, y13), (14, y14), (15, y15)] [(0, y0), (1, y1), (2, y2), (4, y4), (5, y5), (6, y6), (7, y7), (12, y12), (13, y13), (14, y14), (15, y15)] = [(0, y0), (1, y1), (2, y2), (4, y4), (5, y5), (6, y6), (7, y7), (12, y12), (13, y13), (14, y14), (15, y15)] := fun y0 y1 y2 y4 y5 y6 y7 y12 y13 y14 y15 z0 z1 z2 z3 z4 z5 z6 z7 z8 z9 z10 => rfl
    refine R_nil (tr _ _ _ _ _ _ _ _ _ _ _ _ _ _ _ _ _ _ _ _ _ _) ?_; clear tr
    refine then_n ?_
    refine rd rfl rfl ?_
    refine Qq ?_
    refine Qq ?_
    refine Q_q rfl (by simp (disch := first | omega | (simp only [List.length_map, List.length_append, List.length_set, List.length_cons, List.length_nil, List.length_take, List.length_drop]; omega)) only [go_sem, ↓reduceIte, Nat.reduceEqDiff, reduceCtorEq, q0, qp, qx]; rfl) ?_
    refine Qq ?_
    refine Q_q rfl (by simp (disch := first | omega | (simp only [List.length_map, List.length_append, List.length_set, List.length_cons, List.length_nil, List.length_take, List.length_drop]; omega)) only [go_sem, ↓reduceIte, Nat.reduceEqDiff, reduceCtorEq, q0, qp, qx]; rfl) ?_
    refine Qq ?_
    refine Qq ?_
    refine Qq ?_
    refine Q_q rfl (by simp (disch := first | omega | (simp only [List.length_map, List.length_append, List.length_set, List.length_cons, List.length_nil, List.length_take, List.length_drop]; omega)) only [go_sem, ↓reduceIte, Nat.reduceEqDiff, reduceCtorEq, q0, qp, qx]; rfl) ?_
    refine Qq ?_
    refine Qq ?_
    refine Qq ?_
    refine Q_nil ?_
    have lq0 := hget_lt q0
    have lqp := hget_lt qp
    have lqx := hget_lt qx
    refine A_store ty3 (by simp (disch := first | omega | (simp only [List.length_map, List.length_append, List.length_set, List.length_cons, List.length_nil, List.length_take, List.length_drop]; omega)) only [go_sem, ↓reduceIte, Nat.reduceEqDiff, reduceCtorEq, q0, qp, qx]; rfl) (by simp (disch := first | omega | (simp only [List.length_map, List.length_append, List.length_set, List.length_cons, List.length_nil, List.length_take, List.length_drop]; omega)) only [go_sem, ↓reduceIte, Nat.reduceEqDiff, reduceCtorEq, q0, qp, qx]; rfl) qp ⟨by omega, rfl, by simp only [List.length_map, play1_len, hpl]; omega⟩ (k' := (play2 L R u (play1 L R u (playN P L R u))).map AV.i) (by rw [setL_map]; rfl) ?_
    intro HF w6
    have ew6 := w6.len
    have q0 := (w6.old _ (by omega)).trans q0
    have qx := (w6.old _ (by omega)).trans qx
    have qp := w6.new
    have tr : ∀ y0 y1 y2 y4 y5 y6 y7 y12 y13 y14 y15 z0 z1 z2 z3 z4 z5 z6 z7 z8 z9 z10 z11 : AV, trim [(41, z11), (40, z10), (39, z9), (38, z8), (37, z7), (36, z6), (35, z5), (34, z4), (33, z3), (32, z2), (31, z1), (30, z0), (0, y0), (1, y1), (2, y2), (4, y4), (5, y5), (6, y6), (7, y7), (12, y12), (13, y13), (14, y14), (15, y15)] [(0, y0), (1, y1), (2, y2), (4, y4), (5, y5), (6, y6), (7, y7), (12, y12), (13, y13), (14, y14), (15, y15)] = [(0, y0), (1, y1), (2, y2), (4, y4), (5, y5), (6, y6), (7, y7), (12, y12), (13, y13), (14, y14), (15, y15)] := fun y0 y1 y2 y4 y5 y6 y7 y12 y13 y14 y15 z0 z1 z2 z3 z4 z5 z6 z7 z8 z9 z10 z11 => rfl
    refine R_nil (tr _ _ _ _ _ _ _ _ _ _ _ _ _ _ _ _ _ _ _ _ _ _ _) ?_; clear tr
    refine blk_n ?_
    refine then_n ?_
    refine rg rfl ?_
    refine Rq ?_
    refine Rq ?_
    have tr : ∀ y0 y1 y2 y4 y5 y6 y7 y12 y13 y14 y15 z0 z1 : AV, trim [(14, z1), (42, z0), (0, y0), (1, y1), (2, y2), (4, y4), (5, y5), (6, y6), (7, y7), (12, y12), (13, y13), (14, y14), (15, y15)] [(0, y0), (1, y1), (2, y2), (4, y4), (5, y5), (6, y6), (7, y7), (12, y12), (13, y13), (14, y14), (15, y15)] = [(0, y0), (1, y1), (2, y2), (4, y4), (5, y5), (6, y6), (7, y7), (12, y12), (13, y13), (14, z1), (15, y15)] := fun y0 y1 y2 y4 y5 y6 y7 y12 y13 y14 y15 z0 z1 => rfl
    refine R_nil (tr _ _ _ _ _ _ _ _ _ _ _ _ _) ?_; clear tr
    refine then_n ?_
    exact ⟨_, _, ⟨u + 1, _, _, _, rfl, rfl, by exact q0, by exact qp, by omega⟩, by rfl, by omega⟩
  · try simp only [decide_eq_true_eq, decide_eq_false_iff_not, Bool.not_eq_true', Bool.not_eq_false', beq_iff_eq, beq_eq_false_iff_ne, ne_eq] at h1
    refine at_exit rfl ?_
    refine then_x ?_
    refine then_x ?_
    refine blk_x ?_
    refine then_n ?_
    refine at_seq rfl ?_
    refine rg rfl ?_
    refine Rq ?_
    refine Rq ?_
    have tr : ∀ y0 y1 y2 y4 y5 y6 y7 y12 y13 y14 y15 z0 z1 : AV, trim [(4, z1), (43, z0), (0, y0), (1, y1), (2, y2), (4, y4), (5, y5), (6, y6), (7, y7), (12, y12), (13, y13), (14, y14), (15, y15)] [(0, y0), (1, y1), (2, y2), (4, y4), (5, y5), (6, y6), (7, y7), (12, y12), (13, y13), (14, y14), (15, y15)] = [(0, y0), (1, y1), (2, y2), (4, z1), (5, y5), (6, y6), (7, y7), (12, y12), (13, y13), (14, y14), (15, y15)] := fun y0 y1 y2 y4 y5 y6 y7 y12 y13 y14 y15 z0 z1 => rfl
    refine R_nil (tr _ _ _ _ _ _ _ _ _ _ _ _ _) ?_; clear tr
    refine then_n ?_
    refine at_ret rfl ?_
    obtain rfl : u = L.length := by omega
    refine fpure ?_
    exact ⟨frz_ownI (by omega) qp (play_len P L R L.length).symm, rfl⟩

theorem rplay_ok (lim : Nat) (H : Heap) (P : List Int) (L : List Pr) (R : List Int) (g : ROK P L) (hl : R.length = L.length) (hr : resOK R) :
    ACall sig lim 61 [.agg (raceC P L), intsAV R] H fun r H' => r = intsAV (playN P L R L.length) ∧ H' = H := by
  obtain ⟨g1, g2_, g3, g4, ge, g6⟩ := id g
  have q0 : True := trivial
  have qp : True := trivial
  have qx : True := trivial
  refine ACall_pure (fa := fa61) rfl rfl rfl rfl ?_
  have tr : ∀ a0 a1 : AV, env0 fa61.keep [a0, a1] = [(0, a0), (1, a1), (2, .any), (4, .any), (5, .any), (6, .any), (7, .any), (13, .any), (14, .any), (15, .any), (16, .any)] := fun a0 a1 => rfl
  refine W_to (tr _ _) ?_; clear tr
  refine at_seq rfl ?_
  refine rg rfl ?_
  refine A_box rfl (by simp (disch := first | omega | (simp only [List.length_map, List.length_append, List.length_set, List.length_cons, List.length_nil, List.length_take, List.length_drop]; omega)) only [go_sem, ↓reduceIte, Nat.reduceEqDiff, reduceCtorEq]; rfl) ?_
  intro H1 n0
  have en0 := n0.len
  have q0 := n0.new
  refine Rq ?_
  have tr : ∀ y0 y1 y2 y4 y5 y6 y7 y13 y14 y15 y16 z0 z1 : AV, trim [(4, z1), (2, z0), (0, y0), (1, y1), (2, y2), (4, y4), (5, y5), (6, y6), (7, y7), (13, y13), (14, y14), (15, y15), (16, y16)] [(0, y0), (1, y1), (2, y2), (4, y4), (5, y5), (6, y6), (7, y7), (13, y13), (14, y14), (15, y15), (16, y16)] = [(0, y0), (1, y1), (2, z0), (4, z1), (5, y5), (6, y6), (7, y7), (13, y13), (14, y14), (15, y15), (16, y16)] := fun y0 y1 y2 y4 y5 y6 y7 y13 y14 y15 y16 z0 z1 => rfl
  refine R_nil (tr _ _ _ _ _ _ _ _ _ _ _ _ _) ?_; clear tr
  refine then_n ?_
  refine at_seq rfl ?_
  refine rg rfl ?_
  refine A_buildSlice (bs40e _ _ _) ?_
  intro H2 n1
  have en1 := n1.len
  have q0 := (n1.old _ (hget_lt q0)).trans q0
  have qn := n1.new
  refine Rq ?_
  refine R_q rfl (by simp (disch := first | omega | (simp only [List.length_map, List.length_append, List.length_set, List.length_cons, List.length_nil, List.length_take, List.length_drop]; omega)) only [go_sem, ↓reduceIte, Nat.reduceEqDiff, reduceCtorEq, q0, qp, qx]; rfl) ?_
  have lq0 := hget_lt q0
  refine A_append (by simp (disch := first | omega | (simp only [List.length_map, List.length_append, List.length_set, List.length_cons, List.length_nil, List.length_take, List.length_drop]; omega)) only [go_sem, ↓reduceIte, Nat.reduceEqDiff, reduceCtorEq]; exact app40e qn (by omega) (by omega)) ?_
  intro H3 g2
  have eg2 := g2.len
  have q0 := (g2.old _ (by omega) lq0).trans q0
  have qp := g2.new
  obtain ⟨bp, hbp⟩ : ∃ bp, H2.length = bp := ⟨_, rfl⟩
  rewrite [hbp]
  rw [hbp] at qp
  refine Rq ?_
  have tr : ∀ y0 y1 y2 y4 y5 y6 y7 y13 y14 y15 y16 z0 z1 z2 z3 z4 : AV, trim [(5, z4), (11, z3), (10, z2), (9, z1), (8, z0), (0, y0), (1, y1), (2, y2), (4, y4), (5, y5), (6, y6), (7, y7), (13, y13), (14, y14), (15, y15), (16, y16)] [(0, y0), (1, y1), (2, y2), (4, y4), (5, y5), (6, y6), (7, y7), (13, y13), (14, y14), (15, y15), (16, y16)] = [(0, y0), (1, y1), (2, y2), (4, y4), (5, z4), (6, y6), (7, y7), (13, y13), (14, y14), (15, y15), (16, y16)] := fun y0 y1 y2 y4 y5 y6 y7 y13 y14 y15 y16 z0 z1 z2 z3 z4 => rfl
  refine R_nil (tr _ _ _ _ _ _ _ _ _ _ _ _ _ _ _ _) ?_; clear tr
  refine then_n ?_
  refine at_seq rfl ?_
  refine at_seq rfl ?_
  refine rg rfl ?_
  refine Rq ?_
  refine R_q rfl (by simp (disch := first | omega | (simp only [List.length_map, List.length_append, List.length_set, List.length_cons, List.length_nil, List.length_take, List.length_drop]; omega)) only [go_sem, ↓reduceIte, Nat.reduceEqDiff, reduceCtorEq, q0, qp, qx]; rfl) ?_
  refine Rq ?_
  refine Rq ?_
  have tr : ∀ y0 y1 y2 y4 y5 y6 y7 y13 y14 y15 y16 z0 z1 z2 z3 : AV, trim [(15, z3), (14, z2), (13, z1), (12, z0), (0, y0), (1, y1), (2, y2), (4, y4), (5, y5), (6, y6), (7, y7), (13, y13), (14, y14), (15, y15), (16, y16)] [(0, y0), (1, y1), (2, y2), (4, y4), (5, y5), (6, y6), (7, y7), (13, y13), (14, y14), (15, y15), (16, y16)] = [(0, y0), (1, y1), (2, y2), (4, y4), (5, y5), (6, y6), (7, y7), (13, z1), (14, z2), (15, z3), (16, y16)] := fun y0 y1 y2 y4 y5 y6 y7 y13 y14 y15 y16 z0 z1 z2 z3 => rfl
  refine R_nil (tr _ _ _ _ _ _ _ _ _ _ _ _ _ _ _) ?_; clear tr
  refine then_n ?_
  refine at_block rfl ?_
  refine loop_n rfl (fun mm kv H' => ∃ u : Nat, ∃ x6 x7 x16 : AV, (kv = [(6, x6), (7, x7), (15, AV.i u), (16, x16)]) ∧ (mm = L.length - u) ∧ (hget H' H.length = some (raceC P L)) ∧ (hget H' bp = some ((playN P L R u).map AV.i)) ∧ (u ≤ L.length)) ⟨0, _, _, _, rfl, rfl, by exact q0, by exact qp, by omega⟩ (by rfl) ?_
  rintro mm kv HB ⟨u, x6, x7, x16, rfl, rfl, q0, qp, hu⟩
  have tr : ∀ y0 y1 y2 y4 y5 y6 y7 y13 y14 y15 y16 z6 z7 z15 z16 : AV, upd [(0, y0), (1, y1), (2, y2), (4, y4), (5, y5), (6, y6), (7, y7), (13, y13), (14, y14), (15, y15), (16, y16)] [(6, z6), (7, z7), (15, z15), (16, z16)] = [(0, y0), (1, y1), (2, y2), (4, y4), (5, y5), (6, z6), (7, z7), (13, y13), (14, y14), (15, z15), (16, z16)] := fun y0 y1 y2 y4 y5 y6 y7 y13 y14 y15 y16 z6 z7 z15 z16 => rfl
  refine W_to (tr _ _ _ _ _ _ _ _ _ _ _ _ _ _ _) ?_; clear tr
  refine at_seq rfl ?_
  refine rg rfl ?_
  refine Rq ?_
  have tr : ∀ y0 y1 y2 y4 y5 y6 y7 y13 y14 y15 y16 z0 : AV, trim [(16, z0), (0, y0), (1, y1), (2, y2), (4, y4), (5, y5), (6, y6), (7, y7), (13, y13), (14, y14), (15, y15), (16, y16)] [(0, y0), (1, y1), (2, y2), (4, y4), (5, y5), (6, y6), (7, y7), (13, y13), (14, y14), (15, y15), (16, y16)] = [(0, y0), (1, y1), (2, y2), (4, y4), (5, y5), (6, y6), (7, y7), (13, y13), (14, y14), (15, y15), (16, z0)] := fun y0 y1 y2 y4 y5 y6 y7 y13 y14 y15 y16 z0 => rfl
  refine R_nil (tr _ _ _ _ _ _ _ _ _ _ _ _) ?_; clear tr
  refine then_n ?_
  refine at_seq rfl ?_
  refine cdd (fun h1 => ?_) (fun h1 => ?_)
  · try simp only [decide_eq_true_eq, decide_eq_false_iff_not, Bool.not_eq_true', Bool.not_eq_false', beq_iff_eq, beq_eq_false_iff_ne, ne_eq] at h1
    refine at_skip rfl ?_
    refine then_n ?_
    refine at_seq rfl ?_
    refine at_block rfl ?_
    refine at_seq rfl ?_
    refine rg rfl ?_
    have he := ge u (by omega)
    have hru := hr u (by omega)
    have hpl := play_len P L R u
    have hpr := play_rng g hl hr u (by omega)
    have hp1 := hpr.1 (gt L u).a.toNat (by omega)
    have hp2 := hpr.2 (by omega) (gt L u).b.toNat (by omega)
    have hpl1 : (play1 L R u (playN P L R u)).length = P.length := by rw [play1_len, hpl]
    have kqp := hget_lt qp
    have kq0 := hget_lt q0
    refine Rq ?_
    refine Rq ?_
    refine R_q rfl (by simp (disch := first | omega | (simp only [List.length_map, List.length_append, List.length_set, List.length_cons, List.length_nil, List.length_take, List.length_drop]; omega)) only [go_sem, ↓reduceIte, Nat.reduceEqDiff, reduceCtorEq, q0, qp, qx]; rfl) ?_
    refine A_alloc rfl ?_
    intro HC n4
    have en4 := n4.len
    have q0 := (n4.old _ (hget_lt q0)).trans q0
    have qp := (n4.old _ (hget_lt qp)).trans qp
    have qx := n4.new
    refine Rq ?_
    have lq0 := hget_lt q0
    have lqp := hget_lt qp
    have lqx := hget_lt qx
    refine A_store ty58 (by simp (disch := first | omega | (simp only [List.length_map, List.length_append, List.length_set, List.length_cons, List.length_nil, List.length_take, List.length_drop]; omega)) only [go_sem, ↓reduceIte, Nat.reduceEqDiff, reduceCtorEq, q0, qp, qx]; rfl) (by simp (disch := first | omega | (simp only [List.length_map, List.length_append, List.length_set, List.length_cons, List.length_nil, List.length_take, List.length_drop]; omega)) only [go_sem, ↓reduceIte, Nat.reduceEqDiff, reduceCtorEq, q0, qp, qx]; rfl) qx ⟨by omega, rfl, by first | exact Nat.le_refl _ | simp⟩ (show _ = prC (gt L u) from rfl) ?_
    intro HD w4
    have ew4 := w4.len
    have q0 := (w4.old _ (by omega)).trans q0
    have qp := (w4.old _ (by omega)).trans qp
    have qx := w4.new
    have tr : ∀ y0 y1 y2 y4 y5 y6 y7 y13 y14 y15 y16 z0 z1 z2 z3 z4 : AV, trim [(6, z4), (7, z3), (19, z2), (18, z1), (17, z0), (0, y0), (1, y1), (2, y2), (4, y4), (5, y5), (6, y6), (7, y7), (13, y13), (14, y14), (15, y15), (16, y16)] [(0, y0), (1, y1), (2, y2), (4, y4), (5, y5), (6, y6), (7, y7), (13, y13), (14, y14), (15, y15), (16, y16)] = [(0, y0), (1, y1), (2, y2), (4, y4), (5, y5), (6, z4), (7, z3), (13, y13), (14, y14), (15, y15), (16, y16)] := fun y0 y1 y2 y4 y5 y6 y7 y13 y14 y15 y16 z0 z1 z2 z3 z4 => rfl
    refine R_nil (tr _ _ _ _ _ _ _ _ _ _ _ _ _ _ _ _) ?_; clear tr
    refine then_n ?_
    refine at_seq rfl ?_
    refine rd rfl rfl ?_
    refine Qq ?_
    refine Qq ?_
    refine Q_q rfl (by simp (disch := first | omega | (simp only [List.length_map, List.length_append, List.length_set, List.length_cons, List.length_nil, List.length_take, List.length_drop]; omega)) only [go_sem, ↓reduceIte, Nat.reduceEqDiff, reduceCtorEq, q0, qp, qx]; rfl) ?_
    refine Qq ?_
    refine Q_q rfl (by simp (disch := first | omega | (simp only [List.length_map, List.length_append, List.length_set, List.length_cons, List.length_nil, List.length_take, List.length_drop]; omega)) only [go_sem, ↓reduceIte, Nat.reduceEqDiff, reduceCtorEq, q0, qp, qx]; rfl) ?_
    refine Qq ?_
    refine Qq ?_
    refine Qq ?_
    refine Q_q rfl (by simp (disch := first | omega | (simp only [List.length_map, List.length_append, List.length_set, List.length_cons, List.length_nil, List.length_take, List.length_drop]; omega)) only [go_sem, ↓reduceIte, Nat.reduceEqDiff, reduceCtorEq, q0, qp, qx]; rfl) ?_
    refine Qq ?_
    refine Qq ?_
    refine Q_nil ?_
    have lq0 := hget_lt q0
    have lqp := hget_lt qp
    have lqx := hget_lt qx
    refine A_store ty3 (by simp (disch := first | omega | (simp only [List.length_map, List.length_append, List.length_set, List.length_cons, List.length_nil, List.length_take, List.length_drop]; omega)) only [go_sem, ↓reduceIte, Nat.reduceEqDiff, reduceCtorEq, q0, qp, qx]; rfl) (by simp (disch := first | omega | (simp only [List.length_map, List.length_append, List.length_set, List.length_cons, List.length_nil, List.length_take, List.length_drop]; omega)) only [go_sem, ↓reduceIte, Nat.reduceEqDiff, reduceCtorEq, q0, qp, qx]; rfl) qp ⟨by omega, rfl, by simp only [List.length_map, play1_len, hpl]; omega⟩ (k' := (play1 L R u (playN P L R u)).map AV.i) (by rw [setL_map]; rfl) ?_
    intro HE w5
    have ew5 := w5.len
    have q0 := (w5.old _ (by omega)).trans q0
    have qx := (w5.old _ (by omega)).trans qx
    have qp := w5.new
    have tr : ∀ y0 y1 y2 y4 y5 y6 y7 y13 y14 y15 y16 z0 z1 z2 z3 z4 z5 z6 z7 z8 z9 z10 : AV, trim [(30, z10), (29, z9), (28, z8), (27, z7), (26, z6), (25, z5), (24, z4), (23, z3), (22, z2), (21, z1), (20, z0), (0, y0), (1, y1), (2, y2), (4, y4), (5, y5), (6, y6), (7, y7), (13, y13), (14, y14), (15, y15), (16, y16)] [(0, y0), (1, y1), (2, y2), (4, y4), (5, y5), (6, y6), (7, y7), (13, y13), (14, y14), (15, y15), (16, y16)] = [(0, y0), (1, y1), (2, y2), (4, y4), (5, y5), (6, y6), (7, y7), (13, y13), (14, y14), (15, y15), (16, y16)] := fun y0 y1 y2 y4 y5 y6 y7 y13 y14 y15 y16 z0 z1 z2 z3 z4 z5 z6 z7 z8 z9 z10 => rfl
    refine R_nil (tr _ _ _ _ _ _ _ _ _ _ _ _ _ _ _ _ _ _ _ _ _ _) ?_; clear tr
    refine then_n ?_
    refine rd rfl rfl ?_
    refine Qq ?_
    refine Qq ?_
    refine Q_q rfl (by simp (disch := first | omega | (simp only [List.length_map, List.length_append, List.length_set, List.length_cons, List.length_nil, List.length_take, List.length_drop]; omega)) only [go_sem, ↓reduceIte, Nat.reduceEqDiff, reduceCtorEq, q0, qp, qx]; rfl) ?_
    refine Qq ?_
    refine Q_q rfl (by simp (disch := first | omega | (simp only [List.length_map, List.length_append, List.length_set, List.length_cons, List.length_nil, List.length_take, List.length_drop]; omega)) only [go_sem, ↓reduceIte, Nat.reduceEqDiff, reduceCtorEq, q0, qp, qx]; rfl) ?_
    refine Qq ?_
    refine Qq ?_
    refine Qq ?_
    refine Q_q rfl (by simp (disch := first | omega | (simp only [List.length_map, List.length_append, List.length_set, List.length_cons, List.length_nil, List.length_take, List.length_drop]; omega)) only [go_sem, ↓reduceIte, Nat.reduceEqDiff, reduceCtorEq, q0, qp, qx]; rfl) ?_
    refine Qq ?_
    refine Qq ?_
    refine Qq ?_
    refine Q_nil ?_
    have lq0 := hget_lt q0
    have lqp := hget_lt qp
    have lqx := hget_lt qx
    refine A_store ty3 (by simp (disch := first | omega | (simp only [List.length_map, List.length_append, List.length_set, List.length_cons, List.length_nil, List.length_take, List.length_drop]; omega)) only [go_sem, ↓reduceIte, Nat.reduceEqDiff, reduceCtorEq, q0, qp, qx]; rfl) (by simp (disch := first | omega | (simp only [List.length_map, List.length_append, List.length_set, List.length_cons, List.length_nil, List.length_take, List.length_drop]; omega)) only [go_sem, ↓reduceIte, Nat.reduceEqDiff, reduceCtorEq, q0, qp, qx]; rfl) qp ⟨by omega, rfl, by simp only [List.length_map, play1_len, hpl]; omega⟩ (k' := (play2 L R u (play1 L R u (playN P L R u))).map AV.i) (by rw [setL_map]; rfl) ?_
    intro HF w6
    have ew6 := w6.len
    have q0 := (w6.old _ (by omega)).trans q0
    have qx := (w6.old _ (by omega)).trans qx
    have qp := w6.new
    have tr : ∀ y0 y1 y2 y4 y5 y6 y7 y13 y14 y15 y16 z0 z1 z2 z3 z4 z5 z6 z7 z8 z9 z10 z11 : AV, trim [(42, z11), (41, z10), (40, z9), (39, z8), (38, z7), (37, z6), (36, z5), (35, z4), (34, z3), (33, z2), (32, z1), (31, z0), (0, y0), (1, y1), (2, y2), (4, y4), (5, y5), (6, y6), (7, y7), (13, y13), (14, y14), (15, y15), (16, y16)] [(0, y0), (1, y1), (2, y2), (4, y4), (5, y5), (6, y6), (7, y7), (13, y13), (14, y14), (15, y15), (16, y16)] = [(0, y0), (1, y1), (2, y2), (4, y4), (5, y5), (6, y6), (7, y7), (13, y13), (14, y14), (15, y15), (16, y16)] := fun y0 y1 y2 y4 y5 y6 y7 y13 y14 y15 y16 z0 z1 z2 z3 z4 z5 z6 z7 z8 z9 z10 z11 => rfl
    refine R_nil (tr _ _ _ _ _ _ _ _ _ _ _ _ _ _ _ _ _ _ _ _ _ _ _) ?_; clear tr
    refine blk_n ?_
    refine then_n ?_
    refine rg rfl ?_
    refine Rq ?_
    refine Rq ?_
    have tr : ∀ y0 y1 y2 y4 y5 y6 y7 y13 y14 y15 y16 z0 z1 : AV, trim [(15, z1), (43, z0), (0, y0), (1, y1), (2, y2), (4, y4), (5, y5), (6, y6), (7, y7), (13, y13), (14, y14), (15, y15), (16, y16)] [(0, y0), (1, y1), (2, y2), (4, y4), (5, y5), (6, y6), (7, y7), (13, y13), (14, y14), (15, y15), (16, y16)] = [(0, y0), (1, y1), (2, y2), (4, y4), (5, y5), (6, y6), (7, y7), (13, y13), (14, y14), (15, z1), (16, y16)] := fun y0 y1 y2 y4 y5 y6 y7 y13 y14 y15 y16 z0 z1 => rfl
    refine R_nil (tr _ _ _ _ _ _ _ _ _ _ _ _ _) ?_; clear tr
    refine then_n ?_
    exact ⟨_, _, ⟨u + 1, _, _, _, rfl, rfl, by exact q0, by exact qp, by omega⟩, by rfl, by omega⟩
  · try simp only [decide_eq_true_eq, decide_eq_false_iff_not, Bool.not_eq_true', Bool.not_eq_false', beq_iff_eq, beq_eq_false_iff_ne, ne_eq] at h1
    refine at_exit rfl ?_
    refine then_x ?_
    refine then_x ?_
    refine blk_x ?_
    refine then_n ?_
    refine at_seq rfl ?_
    refine rg rfl ?_
    refine Rq ?_
    refine Rq ?_
    have tr : ∀ y0 y1 y2 y4 y5 y6 y7 y13 y14 y15 y16 z0 z1 : AV, trim [(4, z1), (44, z0), (0, y0), (1, y1), (2, y2), (4, y4), (5, y5), (6, y6), (7, y7), (13, y13), (14, y14), (15, y15), (16, y16)] [(0, y0), (1, y1), (2, y2), (4, y4), (5, y5), (6, y6), (7, y7), (13, y13), (14, y14), (15, y15), (16, y16)] = [(0, y0), (1, y1), (2, y2), (4, z1), (5, y5), (6, y6), (7, y7), (13, y13), (14, y14), (15, y15), (16, y16)] := fun y0 y1 y2 y4 y5 y6 y7 y13 y14 y15 y16 z0 z1 => rfl
    refine R_nil (tr _ _ _ _ _ _ _ _ _ _ _ _ _) ?_; clear tr
    refine then_n ?_
    refine at_ret rfl ?_
    obtain rfl : u = L.length := by omega
    refine fpure ?_
    exact ⟨frz_ownI (by omega) qp (play_len P L R L.length).symm, rfl⟩

theorem ints_ok (lim : Nat) (H : Heap) (a : List Int) (ha : a.length ≤ 1000000) :
    ACall sig lim 36 [intsAV a, intsAV a] H fun r H' => r = .v (.bool true) ∧ H' = H := by
  refine ACall_pure (fa := fa36) rfl rfl rfl rfl ?_
  have tr : ∀ a0 a1 : AV, env0 fa36.keep [a0, a1] = [(0, a0), (1, a1), (4, .any), (5, .any), (10, .any), (12, .any), (13, .any), (14, .any), (24, .any)] := fun a0 a1 => rfl
  refine W_to (tr _ _) ?_; clear tr
  refine at_seq rfl ?_
  refine rg rfl ?_
  refine Rq ?_
  have tr : ∀ y0 y1 y4 y5 y10 y12 y13 y14 y24 z0 : AV, trim [(4, z0), (0, y0), (1, y1), (4, y4), (5, y5), (10, y10), (12, y12), (13, y13), (14, y14), (24, y24)] [(0, y0), (1, y1), (4, y4), (5, y5), (10, y10), (12, y12), (13, y13), (14, y14), (24, y24)] = [(0, y0), (1, y1), (4, z0), (5, y5), (10, y10), (12, y12), (13, y13), (14, y14), (24, y24)] := fun y0 y1 y4 y5 y10 y12 y13 y14 y24 z0 => rfl
  refine R_nil (tr _ _ _ _ _ _ _ _ _ _) ?_; clear tr
  refine then_n ?_
  refine at_seq rfl ?_
  refine at_seq rfl ?_
  refine rg rfl ?_
  refine Rq ?_
  refine Rq ?_
  refine Rq ?_
  refine Rq ?_
  refine Rq ?_
  have tr : ∀ y0 y1 y4 y5 y10 y12 y13 y14 y24 z0 z1 z2 z3 z4 : AV, trim [(10, z4), (9, z3), (8, z2), (7, z1), (6, z0), (0, y0), (1, y1), (4, y4), (5, y5), (10, y10), (12, y12), (13, y13), (14, y14), (24, y24)] [(0, y0), (1, y1), (4, y4), (5, y5), (10, y10), (12, y12), (13, y13), (14, y14), (24, y24)] = [(0, y0), (1, y1), (4, y4), (5, y5), (10, z4), (12, y12), (13, y13), (14, y14), (24, y24)] := fun y0 y1 y4 y5 y10 y12 y13 y14 y24 z0 z1 z2 z3 z4 => rfl
  refine R_nil (tr _ _ _ _ _ _ _ _ _ _ _ _ _ _) ?_; clear tr
  refine then_n ?_
  refine cdd (fun h1 => ?_) (fun h1 => ?_)
  · try simp only [decide_eq_true_eq, decide_eq_false_iff_not, Bool.not_eq_true', Bool.not_eq_false', beq_iff_eq, beq_eq_false_iff_ne, ne_eq] at h1
    first | omega | exact absurd rfl (by assumption) | exact absurd trivial (by assumption)
  · try simp only [decide_eq_true_eq, decide_eq_false_iff_not, Bool.not_eq_true', Bool.not_eq_false', beq_iff_eq, beq_eq_false_iff_ne, ne_eq] at h1
    refine at_skip rfl ?_
    refine then_n ?_
    refine at_seq rfl ?_
    refine at_seq rfl ?_
    refine rg rfl ?_
    refine Rq ?_
    refine Rq ?_
    refine Rq ?_
    have tr : ∀ y0 y1 y4 y5 y10 y12 y13 y14 y24 z0 z1 z2 : AV, trim [(13, z2), (12, z1), (11, z0), (0, y0), (1, y1), (4, y4), (5, y5), (10, y10), (12, y12), (13, y13), (14, y14), (24, y24)] [(0, y0), (1, y1), (4, y4), (5, y5), (10, y10), (12, y12), (13, y13), (14, y14), (24, y24)] = [(0, y0), (1, y1), (4, y4), (5, y5), (10, y10), (12, z1), (13, z2), (14, y14), (24, y24)] := fun y0 y1 y4 y5 y10 y12 y13 y14 y24 z0 z1 z2 => rfl
    refine R_nil (tr _ _ _ _ _ _ _ _ _ _ _ _) ?_; clear tr
    refine then_n ?_
    refine at_block rfl ?_
    refine loop_n rfl (fun mm kv H' => ∃ u : Nat, ∃ x4 x5 x14 x24 : AV, (kv = [(4, x4), (5, x5), (13, AV.i u), (14, x14), (24, x24)]) ∧ (mm = a.length - u) ∧ (H' = H) ∧ (u ≤ a.length)) ⟨0, _, _, _, _, rfl, rfl, rfl, by omega⟩ (by rfl) ?_
    rintro mm kv H' ⟨u, x4, x5, x14, x24, rfl, rfl, rfl, hu⟩
    have tr : ∀ y0 y1 y4 y5 y10 y12 y13 y14 y24 z4 z5 z13 z14 z24 : AV, upd [(0, y0), (1, y1), (4, y4), (5, y5), (10, y10), (12, y12), (13, y13), (14, y14), (24, y24)] [(4, z4), (5, z5), (13, z13), (14, z14), (24, z24)] = [(0, y0), (1, y1), (4, z4), (5, z5), (10, y10), (12, y12), (13, z13), (14, z14), (24, z24)] := fun y0 y1 y4 y5 y10 y12 y13 y14 y24 z4 z5 z13 z14 z24 => rfl
    refine W_to (tr _ _ _ _ _ _ _ _ _ _ _ _ _ _) ?_; clear tr
    refine at_seq rfl ?_
    refine rg rfl ?_
    refine Rq ?_
    have tr : ∀ y0 y1 y4 y5 y10 y12 y13 y14 y24 z0 : AV, trim [(14, z0), (0, y0), (1, y1), (4, y4), (5, y5), (10, y10), (12, y12), (13, y13), (14, y14), (24, y24)] [(0, y0), (1, y1), (4, y4), (5, y5), (10, y10), (12, y12), (13, y13), (14, y14), (24, y24)] = [(0, y0), (1, y1), (4, y4), (5, y5), (10, y10), (12, y12), (13, y13), (14, z0), (24, y24)] := fun y0 y1 y4 y5 y10 y12 y13 y14 y24 z0 => rfl
    refine R_nil (tr _ _ _ _ _ _ _ _ _ _) ?_; clear tr
    refine then_n ?_
    refine at_seq rfl ?_
    refine cdd (fun h2 => ?_) (fun h2 => ?_)
    · try simp only [decide_eq_true_eq, decide_eq_false_iff_not, Bool.not_eq_true', Bool.not_eq_false', beq_iff_eq, beq_eq_false_iff_ne, ne_eq] at h2
      refine at_skip rfl ?_
      refine then_n ?_
      refine at_seq rfl ?_
      refine at_block rfl ?_
      refine at_seq rfl ?_
      refine rg rfl ?_
      refine Rq ?_
      refine Rq ?_
      have tr : ∀ y0 y1 y4 y5 y10 y12 y13 y14 y24 z0 z1 : AV, trim [(5, z1), (15, z0), (0, y0), (1, y1), (4, y4), (5, y5), (10, y10), (12, y12), (13, y13), (14, y14), (24, y24)] [(0, y0), (1, y1), (4, y4), (5, y5), (10, y10), (12, y12), (13, y13), (14, y14), (24, y24)] = [(0, y0), (1, y1), (4, y4), (5, z1), (10, y10), (12, y12), (13, y13), (14, y14), (24, y24)] := fun y0 y1 y4 y5 y10 y12 y13 y14 y24 z0 z1 => rfl
      refine R_nil (tr _ _ _ _ _ _ _ _ _ _ _) ?_; clear tr
      refine then_n ?_
      refine at_seq rfl ?_
      refine rd rfl rfl ?_
      refine Qq ?_
      refine Qq ?_
      refine Qq ?_
      refine Qq ?_
      refine Qq ?_
      refine Qq ?_
      refine Qq ?_
      refine Qq ?_
      refine Qq ?_
      refine Q_nil ?_
      have tr : ∀ y0 y1 y4 y5 y10 y12 y13 y14 y24 z0 z1 z2 z3 z4 z5 z6 z7 z8 : AV, trim [(24, z8), (23, z7), (22, z6), (21, z5), (20, z4), (19, z3), (18, z2), (17, z1), (16, z0), (0, y0), (1, y1), (4, y4), (5, y5), (10, y10), (12, y12), (13, y13), (14, y14), (24, y24)] [(0, y0), (1, y1), (4, y4), (5, y5), (10, y10), (12, y12), (13, y13), (14, y14), (24, y24)] = [(0, y0), (1, y1), (4, y4), (5, y5), (10, y10), (12, y12), (13, y13), (14, y14), (24, z8)] := fun y0 y1 y4 y5 y10 y12 y13 y14 y24 z0 z1 z2 z3 z4 z5 z6 z7 z8 => rfl
      refine R_nil (tr _ _ _ _ _ _ _ _ _ _ _ _ _ _ _ _ _ _) ?_; clear tr
      refine then_n ?_
      refine cdd (fun h3 => ?_) (fun h3 => ?_)
      · try simp only [decide_eq_true_eq, decide_eq_false_iff_not, Bool.not_eq_true', Bool.not_eq_false', beq_iff_eq, beq_eq_false_iff_ne, ne_eq] at h3
        first | omega | exact absurd rfl (by assumption) | exact absurd trivial (by assumption)
      · try simp only [decide_eq_true_eq, decide_eq_false_iff_not, Bool.not_eq_true', Bool.not_eq_false', beq_iff_eq, beq_eq_false_iff_ne, ne_eq] at h3
        refine at_skip rfl ?_
        refine blk_n ?_
        refine then_n ?_
        refine rg rfl ?_
        refine Rq ?_
        refine Rq ?_
        have tr : ∀ y0 y1 y4 y5 y10 y12 y13 y14 y24 z0 z1 : AV, trim [(13, z1), (25, z0), (0, y0), (1, y1), (4, y4), (5, y5), (10, y10), (12, y12), (13, y13), (14, y14), (24, y24)] [(0, y0), (1, y1), (4, y4), (5, y5), (10, y10), (12, y12), (13, y13), (14, y14), (24, y24)] = [(0, y0), (1, y1), (4, y4), (5, y5), (10, y10), (12, y12), (13, z1), (14, y14), (24, y24)] := fun y0 y1 y4 y5 y10 y12 y13 y14 y24 z0 z1 => rfl
        refine R_nil (tr _ _ _ _ _ _ _ _ _ _ _) ?_; clear tr
        refine then_n ?_
        exact ⟨_, _, ⟨u + 1, _, _, _, _, rfl, rfl, rfl, by omega⟩, by rfl, by omega⟩
    · try simp only [decide_eq_true_eq, decide_eq_false_iff_not, Bool.not_eq_true', Bool.not_eq_false', beq_iff_eq, beq_eq_false_iff_ne, ne_eq] at h2
      refine at_exit rfl ?_
      refine then_x ?_
      refine then_x ?_
      refine blk_x ?_
      refine then_n ?_
      refine at_seq rfl ?_
      refine rg rfl ?_
      refine Rq ?_
      have tr : ∀ y0 y1 y4 y5 y10 y12 y13 y14 y24 z0 : AV, trim [(4, z0), (0, y0), (1, y1), (4, y4), (5, y5), (10, y10), (12, y12), (13, y13), (14, y14), (24, y24)] [(0, y0), (1, y1), (4, y4), (5, y5), (10, y10), (12, y12), (13, y13), (14, y14), (24, y24)] = [(0, y0), (1, y1), (4, z0), (5, y5), (10, y10), (12, y12), (13, y13), (14, y14), (24, y24)] := fun y0 y1 y4 y5 y10 y12 y13 y14 y24 z0 => rfl
      refine R_nil (tr _ _ _ _ _ _ _ _ _ _) ?_; clear tr
      refine then_n ?_
      refine at_ret rfl ?_
      refine fpure ?_
      refine ⟨?_, rfl⟩
      rfl

theorem ints_nil (lim : Nat) (H : Heap) :
    ACall sig lim 36 [nilP, nilP] H fun r H' => r = .v (.bool true) ∧ H' = H := by
  refine ACall_pure (fa := fa36) rfl rfl rfl rfl ?_
  have tr : ∀ a0 a1 : AV, env0 fa36.keep [a0, a1] = [(0, a0), (1, a1), (4, .any), (5, .any), (10, .any), (12, .any), (13, .any), (14, .any), (24, .any)] := fun a0 a1 => rfl
  refine W_to (tr _ _) ?_; clear tr
  refine at_seq rfl ?_
  refine rg rfl ?_
  refine Rq ?_
  have tr : ∀ y0 y1 y4 y5 y10 y12 y13 y14 y24 z0 : AV, trim [(4, z0), (0, y0), (1, y1), (4, y4), (5, y5), (10, y10), (12, y12), (13, y13), (14, y14), (24, y24)] [(0, y0), (1, y1), (4, y4), (5, y5), (10, y10), (12, y12), (13, y13), (14, y14), (24, y24)] = [(0, y0), (1, y1), (4, z0), (5, y5), (10, y10), (12, y12), (13, y13), (14, y14), (24, y24)] := fun y0 y1 y4 y5 y10 y12 y13 y14 y24 z0 => rfl
  refine R_nil (tr _ _ _ _ _ _ _ _ _ _) ?_; clear tr
  refine then_n ?_
  refine at_seq rfl ?_
  refine at_seq rfl ?_
  refine rg rfl ?_
  refine Rq ?_
  refine Rq ?_
  refine Rq ?_
  refine Rq ?_
  refine Rq ?_
  have tr : ∀ y0 y1 y4 y5 y10 y12 y13 y14 y24 z0 z1 z2 z3 z4 : AV, trim [(10, z4), (9, z3), (8, z2), (7, z1), (6, z0), (0, y0), (1, y1), (4, y4), (5, y5), (10, y10), (12, y12), (13, y13), (14, y14), (24, y24)] [(0, y0), (1, y1), (4, y4), (5, y5), (10, y10), (12, y12), (13, y13), (14, y14), (24, y24)] = [(0, y0), (1, y1), (4, y4), (5, y5), (10, z4), (12, y12), (13, y13), (14, y14), (24, y24)] := fun y0 y1 y4 y5 y10 y12 y13 y14 y24 z0 z1 z2 z3 z4 => rfl
  refine R_nil (tr _ _ _ _ _ _ _ _ _ _ _ _ _ _) ?_; clear tr
  refine then_n ?_
  refine cdd (fun h1 => ?_) (fun h1 => ?_)
  · try simp only [decide_eq_true_eq, decide_eq_false_iff_not, Bool.not_eq_true', Bool.not_eq_false', beq_iff_eq, beq_eq_false_iff_ne, ne_eq] at h1
    first | omega | exact absurd rfl (by assumption) | exact absurd trivial (by assumption)
  · try simp only [decide_eq_true_eq, decide_eq_false_iff_not, Bool.not_eq_true', Bool.not_eq_false', beq_iff_eq, beq_eq_false_iff_ne, ne_eq] at h1
    refine at_skip rfl ?_
    refine then_n ?_
    refine at_seq rfl ?_
    refine at_seq rfl ?_
    refine rg rfl ?_
    refine Rq ?_
    refine Rq ?_
    refine Rq ?_
    have tr : ∀ y0 y1 y4 y5 y10 y12 y13 y14 y24 z0 z1 z2 : AV, trim [(13, z2), (12, z1), (11, z0), (0, y0), (1, y1), (4, y4), (5, y5), (10, y10), (12, y12), (13, y13), (14, y14), (24, y24)] [(0, y0), (1, y1), (4, y4), (5, y5), (10, y10), (12, y12), (13, y13), (14, y14), (24, y24)] = [(0, y0), (1, y1), (4, y4), (5, y5), (10, y10), (12, z1), (13, z2), (14, y14), (24, y24)] := fun y0 y1 y4 y5 y10 y12 y13 y14 y24 z0 z1 z2 => rfl
    refine R_nil (tr _ _ _ _ _ _ _ _ _ _ _ _) ?_; clear tr
    refine then_n ?_
    refine at_block rfl ?_
    refine loop_n rfl (fun mm kv H' => ∃ u : Nat, ∃ x4 x5 x14 x24 : AV, (kv = [(4, x4), (5, x5), (13, AV.i u), (14, x14), (24, x24)]) ∧ (mm = 0) ∧ (H' = H) ∧ (u = 0)) ⟨0, _, _, _, _, rfl, rfl, rfl, by rfl⟩ (by rfl) ?_
    rintro mm kv H' ⟨u, x4, x5, x14, x24, rfl, rfl, rfl, hu⟩
    have tr : ∀ y0 y1 y4 y5 y10 y12 y13 y14 y24 z4 z5 z13 z14 z24 : AV, upd [(0, y0), (1, y1), (4, y4), (5, y5), (10, y10), (12, y12), (13, y13), (14, y14), (24, y24)] [(4, z4), (5, z5), (13, z13), (14, z14), (24, z24)] = [(0, y0), (1, y1), (4, z4), (5, z5), (10, y10), (12, y12), (13, z13), (14, z14), (24, z24)] := fun y0 y1 y4 y5 y10 y12 y13 y14 y24 z4 z5 z13 z14 z24 => rfl
    refine W_to (tr _ _ _ _ _ _ _ _ _ _ _ _ _ _) ?_; clear tr
    refine at_seq rfl ?_
    refine rg rfl ?_
    refine Rq ?_
    have tr : ∀ y0 y1 y4 y5 y10 y12 y13 y14 y24 z0 : AV, trim [(14, z0), (0, y0), (1, y1), (4, y4), (5, y5), (10, y10), (12, y12), (13, y13), (14, y14), (24, y24)] [(0, y0), (1, y1), (4, y4), (5, y5), (10, y10), (12, y12), (13, y13), (14, y14), (24, y24)] = [(0, y0), (1, y1), (4, y4), (5, y5), (10, y10), (12, y12), (13, y13), (14, z0), (24, y24)] := fun y0 y1 y4 y5 y10 y12 y13 y14 y24 z0 => rfl
    refine R_nil (tr _ _ _ _ _ _ _ _ _ _) ?_; clear tr
    refine then_n ?_
    refine at_seq rfl ?_
    refine cdd (fun h2 => ?_) (fun h2 => ?_)
    · try simp only [decide_eq_true_eq, decide_eq_false_iff_not, Bool.not_eq_true', Bool.not_eq_false', beq_iff_eq, beq_eq_false_iff_ne, ne_eq] at h2
      exfalso; omega
    · try simp only [decide_eq_true_eq, decide_eq_false_iff_not, Bool.not_eq_true', Bool.not_eq_false', beq_iff_eq, beq_eq_false_iff_ne, ne_eq] at h2
      refine at_exit rfl ?_
      refine then_x ?_
      refine then_x ?_
      refine blk_x ?_
      refine then_n ?_
      refine at_seq rfl ?_
      refine rg rfl ?_
      refine Rq ?_
      have tr : ∀ y0 y1 y4 y5 y10 y12 y13 y14 y24 z0 : AV, trim [(4, z0), (0, y0), (1, y1), (4, y4), (5, y5), (10, y10), (12, y12), (13, y13), (14, y14), (24, y24)] [(0, y0), (1, y1), (4, y4), (5, y5), (10, y10), (12, y12), (13, y13), (14, y14), (24, y24)] = [(0, y0), (1, y1), (4, z0), (5, y5), (10, y10), (12, y12), (13, y13), (14, y14), (24, y24)] := fun y0 y1 y4 y5 y10 y12 y13 y14 y24 z0 => rfl
      refine R_nil (tr _ _ _ _ _ _ _ _ _ _) ?_; clear tr
      refine then_n ?_
      refine at_ret rfl ?_
      refine fpure ?_
      refine ⟨?_, rfl⟩
      rfl

end Go.Proofs.Ytdicnojnkbmdlaa
