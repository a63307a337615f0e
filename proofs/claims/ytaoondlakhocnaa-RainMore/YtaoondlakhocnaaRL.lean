/-
  Walks of chapters 37, 39 and 40. The steps are written by program (walk.py).
-/
import Derived.Test.YtaoondlakhocnaaRJ
set_option linter.unusedSimpArgs false
set_option linter.unusedVariables false
set_option maxHeartbeats 40000000
set_option maxRecDepth 4000
namespace Go.Proofs.Ytaoondlakhocnaa
open Go Go.Am

noncomputable def lostS (rows : Tb) (per : Int) (s : Stp) : Int × Int :=
  if (atS rows per s.b s.w).2 ≠ 0 then (0, (atS rows per s.b s.w).2) else if (atS rows per s.a s.w).2 ≠ 0 then (0, (atS rows per s.a s.w).2) else if s.b < s.a then (0, 1) else ((atS rows per s.b s.w).1 - (atS rows per s.a s.w).1, 0)
theorem at_range {rows : Tb} {per balls w : Int} : 0 ≤ (atS rows per balls w).1 ∧ (atS rows per balls w).1 ≤ 160000 := by
  unfold atS
  split
  · exact ⟨by simp, by simp⟩
  · split
    · exact ⟨by simp, by simp⟩
    · split
      · exact ⟨by simp, by simp⟩
      · rename_i h1 h2 h3
        have s := check_shaped (Classical.not_not.mp h1)
        unfold atBad at h2
        have g2 := s.two
        obtain ⟨q0, q1, r0, r1, q2⟩ := at_place (n := (rows.length : Int) - 1) (per := per) (balls := balls) (by omega) (by omega) (by omega)
        have hl1 := s.len (balls / per).toNat (by omega)
        have k1 : 0 ≤ gt (gt rows (balls / per).toNat) w.toNat ∧ gt (gt rows (balls / per).toNat) w.toNat ≤ 10000 := s.rng _ (by omega) _ (by omega)
        have k2 := mul_box (b := per - balls % per) (B := 8) k1.1 k1.2 (by omega) (by omega)
        unfold atV cellI
        by_cases hr : 0 < balls % per
        · have q3 := q2 hr
          have hl2 := s.len (balls / per + 1).toNat (by omega)
          have k3 : 0 ≤ gt (gt rows (balls / per + 1).toNat) w.toNat ∧ gt (gt rows (balls / per + 1).toNat) w.toNat ≤ 10000 := s.rng _ (by omega) _ (by omega)
          have k4 := mul_box (b := balls % per) (B := 8) k3.1 k3.2 (by omega) (by omega)
          rw [if_pos hr]
          exact ⟨by omega, by omega⟩
        · rw [if_neg hr]
          exact ⟨by omega, by omega⟩

theorem lost_ok (lim : Nat) (H : Heap) (rows : Tb) (per : Int) (s : Stp) :
    ACall sig lim 40 [.agg [rowsAV rows], AV.i per, .agg (stC s)] H fun r H' => r = .tup [AV.i (lostS rows per s).1, AV.i (lostS rows per s).2] ∧ H' = H := by
  refine ACall_pure (fa := fa40) rfl rfl rfl rfl ?_
  have tr : ∀ a0 a1 a2 : AV, env0 fa40.keep [a0, a1, a2] = [(0, a0), (1, a1), (2, a2), (3, .any), (5, .any), (6, .any), (7, .any), (8, .any), (9, .any), (10, .any), (22, .any), (35, .any), (41, .any)] := fun a0 a1 a2 => rfl
  refine W_to (tr _ _ _) ?_; clear tr
  refine at_seq rfl ?_
  refine rg rfl ?_
  refine R_box rfl (by simp (disch := first | omega | (simp only [List.length_map, List.length_append, List.length_set, List.length_cons, List.length_nil, List.length_take, List.length_drop]; omega)) only [go_sem, ↓reduceIte, Nat.reduceEqDiff, reduceCtorEq]; rfl) rfl rfl ?_
  refine R_box rfl (by simp (disch := first | omega | (simp only [List.length_map, List.length_append, List.length_set, List.length_cons, List.length_nil, List.length_take, List.length_drop]; omega)) only [go_sem, ↓reduceIte, Nat.reduceEqDiff, reduceCtorEq]; rfl) rfl rfl ?_
  refine Rq ?_
  refine Rq ?_
  have tr : ∀ y0 y1 y2 y3 y5 y6 y7 y8 y9 y10 y22 y35 y41 z0 z1 z2 z3 : AV, trim [(7, z3), (6, z2), (5, z1), (3, z0), (0, y0), (1, y1), (2, y2), (3, y3), (5, y5), (6, y6), (7, y7), (8, y8), (9, y9), (10, y10), (22, y22), (35, y35), (41, y41)] [(0, y0), (1, y1), (2, y2), (3, y3), (5, y5), (6, y6), (7, y7), (8, y8), (9, y9), (10, y10), (22, y22), (35, y35), (41, y41)] = [(0, y0), (1, y1), (2, y2), (3, z0), (5, z1), (6, z2), (7, z3), (8, y8), (9, y9), (10, y10), (22, y22), (35, y35), (41, y41)] := fun y0 y1 y2 y3 y5 y6 y7 y8 y9 y10 y22 y35 y41 z0 z1 z2 z3 => rfl
  refine R_nil (tr _ _ _ _ _ _ _ _ _ _ _ _ _ _ _ _ _) ?_; clear tr
  refine then_n ?_
  refine at_seq rfl ?_
  refine rg rfl ?_
  refine Rq ?_
  refine Rq ?_
  refine Rq ?_
  refine Rq ?_
  refine Rq ?_
  refine Rq ?_
  refine Rcall ?_
  refine ACall_eq (at_ok _ _ rows per _ _) ?_
  refine Rq ?_
  refine Rq ?_
  refine Rq ?_
  refine Rq ?_
  refine Rq ?_
  have tr : ∀ y0 y1 y2 y3 y5 y6 y7 y8 y9 y10 y22 y35 y41 z0 z1 z2 z3 z4 z5 z6 z7 z8 z9 z10 z11 : AV, trim [(9, z11), (8, z10), (20, z9), (19, z8), (11, z7), (18, z6), (17, z5), (16, z4), (15, z3), (14, z2), (13, z1), (12, z0), (0, y0), (1, y1), (2, y2), (3, y3), (5, y5), (6, y6), (7, y7), (8, y8), (9, y9), (10, y10), (22, y22), (35, y35), (41, y41)] [(0, y0), (1, y1), (2, y2), (3, y3), (5, y5), (6, y6), (7, y7), (8, y8), (9, y9), (10, y10), (22, y22), (35, y35), (41, y41)] = [(0, y0), (1, y1), (2, y2), (3, y3), (5, y5), (6, y6), (7, y7), (8, z10), (9, z11), (10, y10), (22, y22), (35, y35), (41, y41)] := fun y0 y1 y2 y3 y5 y6 y7 y8 y9 y10 y22 y35 y41 z0 z1 z2 z3 z4 z5 z6 z7 z8 z9 z10 z11 => rfl
  refine R_nil (tr _ _ _ _ _ _ _ _ _ _ _ _ _ _ _ _ _ _ _ _ _ _ _ _ _) ?_; clear tr
  refine then_n ?_
  refine at_seq rfl ?_
  refine at_seq rfl ?_
  refine rg rfl ?_
  refine Rq ?_
  refine Rq ?_
  have tr : ∀ y0 y1 y2 y3 y5 y6 y7 y8 y9 y10 y22 y35 y41 z0 z1 : AV, trim [(22, z1), (21, z0), (0, y0), (1, y1), (2, y2), (3, y3), (5, y5), (6, y6), (7, y7), (8, y8), (9, y9), (10, y10), (22, y22), (35, y35), (41, y41)] [(0, y0), (1, y1), (2, y2), (3, y3), (5, y5), (6, y6), (7, y7), (8, y8), (9, y9), (10, y10), (22, y22), (35, y35), (41, y41)] = [(0, y0), (1, y1), (2, y2), (3, y3), (5, y5), (6, y6), (7, y7), (8, y8), (9, y9), (10, y10), (22, z1), (35, y35), (41, y41)] := fun y0 y1 y2 y3 y5 y6 y7 y8 y9 y10 y22 y35 y41 z0 z1 => rfl
  refine R_nil (tr _ _ _ _ _ _ _ _ _ _ _ _ _ _ _) ?_; clear tr
  refine then_n ?_
  refine cdd (fun h1 => ?_) (fun h1 => ?_)
  · try simp only [decide_eq_true_eq, decide_eq_false_iff_not, Bool.not_eq_true', Bool.not_eq_false', beq_iff_eq, beq_eq_false_iff_ne, ne_eq] at h1
    refine at_seq rfl ?_
    refine rg rfl ?_
    refine Rq ?_
    refine Rq ?_
    refine Rq ?_
    have tr : ∀ y0 y1 y2 y3 y5 y6 y7 y8 y9 y10 y22 y35 y41 z0 z1 z2 : AV, trim [(7, z2), (6, z1), (23, z0), (0, y0), (1, y1), (2, y2), (3, y3), (5, y5), (6, y6), (7, y7), (8, y8), (9, y9), (10, y10), (22, y22), (35, y35), (41, y41)] [(0, y0), (1, y1), (2, y2), (3, y3), (5, y5), (6, y6), (7, y7), (8, y8), (9, y9), (10, y10), (22, y22), (35, y35), (41, y41)] = [(0, y0), (1, y1), (2, y2), (3, y3), (5, y5), (6, z1), (7, z2), (8, y8), (9, y9), (10, y10), (22, y22), (35, y35), (41, y41)] := fun y0 y1 y2 y3 y5 y6 y7 y8 y9 y10 y22 y35 y41 z0 z1 z2 => rfl
    refine R_nil (tr _ _ _ _ _ _ _ _ _ _ _ _ _ _ _ _) ?_; clear tr
    refine then_n ?_
    refine at_ret rfl ?_
    refine then_r ?_
    refine fpure ?_
    refine ⟨?_, rfl⟩
    rw [lostS, if_pos (by assumption)]
  · try simp only [decide_eq_true_eq, decide_eq_false_iff_not, Bool.not_eq_true', Bool.not_eq_false', beq_iff_eq, beq_eq_false_iff_ne, ne_eq] at h1
    refine at_skip rfl ?_
    refine then_n ?_
    refine at_seq rfl ?_
    refine rg rfl ?_
    refine Rq ?_
    refine Rq ?_
    refine Rq ?_
    refine Rq ?_
    refine Rq ?_
    refine Rq ?_
    refine Rcall ?_
    refine ACall_eq (at_ok _ _ rows per _ _) ?_
    refine Rq ?_
    refine Rq ?_
    refine Rq ?_
    refine Rq ?_
    refine Rq ?_
    have tr : ∀ y0 y1 y2 y3 y5 y6 y7 y8 y9 y10 y22 y35 y41 z0 z1 z2 z3 z4 z5 z6 z7 z8 z9 z10 z11 : AV, trim [(9, z11), (10, z10), (33, z9), (32, z8), (24, z7), (31, z6), (30, z5), (29, z4), (28, z3), (27, z2), (26, z1), (25, z0), (0, y0), (1, y1), (2, y2), (3, y3), (5, y5), (6, y6), (7, y7), (8, y8), (9, y9), (10, y10), (22, y22), (35, y35), (41, y41)] [(0, y0), (1, y1), (2, y2), (3, y3), (5, y5), (6, y6), (7, y7), (8, y8), (9, y9), (10, y10), (22, y22), (35, y35), (41, y41)] = [(0, y0), (1, y1), (2, y2), (3, y3), (5, y5), (6, y6), (7, y7), (8, y8), (9, z11), (10, z10), (22, y22), (35, y35), (41, y41)] := fun y0 y1 y2 y3 y5 y6 y7 y8 y9 y10 y22 y35 y41 z0 z1 z2 z3 z4 z5 z6 z7 z8 z9 z10 z11 => rfl
    refine R_nil (tr _ _ _ _ _ _ _ _ _ _ _ _ _ _ _ _ _ _ _ _ _ _ _ _ _) ?_; clear tr
    refine then_n ?_
    refine at_seq rfl ?_
    refine at_seq rfl ?_
    refine rg rfl ?_
    refine Rq ?_
    refine Rq ?_
    have tr : ∀ y0 y1 y2 y3 y5 y6 y7 y8 y9 y10 y22 y35 y41 z0 z1 : AV, trim [(35, z1), (34, z0), (0, y0), (1, y1), (2, y2), (3, y3), (5, y5), (6, y6), (7, y7), (8, y8), (9, y9), (10, y10), (22, y22), (35, y35), (41, y41)] [(0, y0), (1, y1), (2, y2), (3, y3), (5, y5), (6, y6), (7, y7), (8, y8), (9, y9), (10, y10), (22, y22), (35, y35), (41, y41)] = [(0, y0), (1, y1), (2, y2), (3, y3), (5, y5), (6, y6), (7, y7), (8, y8), (9, y9), (10, y10), (22, y22), (35, z1), (41, y41)] := fun y0 y1 y2 y3 y5 y6 y7 y8 y9 y10 y22 y35 y41 z0 z1 => rfl
    refine R_nil (tr _ _ _ _ _ _ _ _ _ _ _ _ _ _ _) ?_; clear tr
    refine then_n ?_
    refine cdd (fun h2 => ?_) (fun h2 => ?_)
    · try simp only [decide_eq_true_eq, decide_eq_false_iff_not, Bool.not_eq_true', Bool.not_eq_false', beq_iff_eq, beq_eq_false_iff_ne, ne_eq] at h2
      refine at_seq rfl ?_
      refine rg rfl ?_
      refine Rq ?_
      refine Rq ?_
      refine Rq ?_
      have tr : ∀ y0 y1 y2 y3 y5 y6 y7 y8 y9 y10 y22 y35 y41 z0 z1 z2 : AV, trim [(7, z2), (6, z1), (36, z0), (0, y0), (1, y1), (2, y2), (3, y3), (5, y5), (6, y6), (7, y7), (8, y8), (9, y9), (10, y10), (22, y22), (35, y35), (41, y41)] [(0, y0), (1, y1), (2, y2), (3, y3), (5, y5), (6, y6), (7, y7), (8, y8), (9, y9), (10, y10), (22, y22), (35, y35), (41, y41)] = [(0, y0), (1, y1), (2, y2), (3, y3), (5, y5), (6, z1), (7, z2), (8, y8), (9, y9), (10, y10), (22, y22), (35, y35), (41, y41)] := fun y0 y1 y2 y3 y5 y6 y7 y8 y9 y10 y22 y35 y41 z0 z1 z2 => rfl
      refine R_nil (tr _ _ _ _ _ _ _ _ _ _ _ _ _ _ _ _) ?_; clear tr
      refine then_n ?_
      refine at_ret rfl ?_
      refine then_r ?_
      refine fpure ?_
      refine ⟨?_, rfl⟩
      rw [lostS, if_neg (by omega), if_pos (by assumption)]
    · try simp only [decide_eq_true_eq, decide_eq_false_iff_not, Bool.not_eq_true', Bool.not_eq_false', beq_iff_eq, beq_eq_false_iff_ne, ne_eq] at h2
      refine at_skip rfl ?_
      refine then_n ?_
      refine at_seq rfl ?_
      refine at_seq rfl ?_
      refine rg rfl ?_
      refine Rq ?_
      refine Rq ?_
      refine Rq ?_
      refine Rq ?_
      refine Rq ?_
      have tr : ∀ y0 y1 y2 y3 y5 y6 y7 y8 y9 y10 y22 y35 y41 z0 z1 z2 z3 z4 : AV, trim [(41, z4), (40, z3), (39, z2), (38, z1), (37, z0), (0, y0), (1, y1), (2, y2), (3, y3), (5, y5), (6, y6), (7, y7), (8, y8), (9, y9), (10, y10), (22, y22), (35, y35), (41, y41)] [(0, y0), (1, y1), (2, y2), (3, y3), (5, y5), (6, y6), (7, y7), (8, y8), (9, y9), (10, y10), (22, y22), (35, y35), (41, y41)] = [(0, y0), (1, y1), (2, y2), (3, y3), (5, y5), (6, y6), (7, y7), (8, y8), (9, y9), (10, y10), (22, y22), (35, y35), (41, z4)] := fun y0 y1 y2 y3 y5 y6 y7 y8 y9 y10 y22 y35 y41 z0 z1 z2 z3 z4 => rfl
      refine R_nil (tr _ _ _ _ _ _ _ _ _ _ _ _ _ _ _ _ _ _) ?_; clear tr
      refine then_n ?_
      refine cdd (fun h3 => ?_) (fun h3 => ?_)
      · try simp only [decide_eq_true_eq, decide_eq_false_iff_not, Bool.not_eq_true', Bool.not_eq_false', beq_iff_eq, beq_eq_false_iff_ne, ne_eq] at h3
        refine at_seq rfl ?_
        refine rg rfl ?_
        refine Rq ?_
        refine Rq ?_
        have tr : ∀ y0 y1 y2 y3 y5 y6 y7 y8 y9 y10 y22 y35 y41 z0 z1 : AV, trim [(7, z1), (6, z0), (0, y0), (1, y1), (2, y2), (3, y3), (5, y5), (6, y6), (7, y7), (8, y8), (9, y9), (10, y10), (22, y22), (35, y35), (41, y41)] [(0, y0), (1, y1), (2, y2), (3, y3), (5, y5), (6, y6), (7, y7), (8, y8), (9, y9), (10, y10), (22, y22), (35, y35), (41, y41)] = [(0, y0), (1, y1), (2, y2), (3, y3), (5, y5), (6, z0), (7, z1), (8, y8), (9, y9), (10, y10), (22, y22), (35, y35), (41, y41)] := fun y0 y1 y2 y3 y5 y6 y7 y8 y9 y10 y22 y35 y41 z0 z1 => rfl
        refine R_nil (tr _ _ _ _ _ _ _ _ _ _ _ _ _ _ _) ?_; clear tr
        refine then_n ?_
        refine at_ret rfl ?_
        refine then_r ?_
        refine fpure ?_
        refine ⟨?_, rfl⟩
        rw [lostS, if_neg (by omega), if_neg (by omega), if_pos (by omega)]
      · try simp only [decide_eq_true_eq, decide_eq_false_iff_not, Bool.not_eq_true', Bool.not_eq_false', beq_iff_eq, beq_eq_false_iff_ne, ne_eq] at h3
        refine at_skip rfl ?_
        refine then_n ?_
        refine at_seq rfl ?_
        refine rg rfl ?_
        have hb := at_range (rows := rows) (per := per) (balls := s.b) (w := s.w)
        have ha := at_range (rows := rows) (per := per) (balls := s.a) (w := s.w)
        refine Rq ?_
        refine Rq ?_
        refine Rq ?_
        refine Rq ?_
        refine Rq ?_
        have tr : ∀ y0 y1 y2 y3 y5 y6 y7 y8 y9 y10 y22 y35 y41 z0 z1 z2 z3 z4 : AV, trim [(7, z4), (6, z3), (44, z2), (43, z1), (42, z0), (0, y0), (1, y1), (2, y2), (3, y3), (5, y5), (6, y6), (7, y7), (8, y8), (9, y9), (10, y10), (22, y22), (35, y35), (41, y41)] [(0, y0), (1, y1), (2, y2), (3, y3), (5, y5), (6, y6), (7, y7), (8, y8), (9, y9), (10, y10), (22, y22), (35, y35), (41, y41)] = [(0, y0), (1, y1), (2, y2), (3, y3), (5, y5), (6, z3), (7, z4), (8, y8), (9, y9), (10, y10), (22, y22), (35, y35), (41, y41)] := fun y0 y1 y2 y3 y5 y6 y7 y8 y9 y10 y22 y35 y41 z0 z1 z2 z3 z4 => rfl
        refine R_nil (tr _ _ _ _ _ _ _ _ _ _ _ _ _ _ _ _ _ _) ?_; clear tr
        refine then_n ?_
        refine at_ret rfl ?_
        refine fpure ?_
        refine ⟨?_, rfl⟩
        rw [lostS, if_neg (by omega), if_neg (by omega), if_neg (by omega)]

theorem rlost_ok (lim : Nat) (H : Heap) (rows : Tb) (per : Int) (s : Stp) :
    ACall sig lim 41 [.agg [rowsAV rows], AV.i per, .agg (stC s)] H fun r H' => r = .tup [AV.i (lostS rows per s).1, AV.i (lostS rows per s).2] ∧ H' = H := by
  refine ACall_pure (fa := fa41) rfl rfl rfl rfl ?_
  have tr : ∀ a0 a1 a2 : AV, env0 fa41.keep [a0, a1, a2] = [(0, a0), (1, a1), (2, a2), (3, .any), (5, .any), (6, .any), (7, .any), (8, .any), (9, .any), (10, .any), (22, .any), (35, .any), (41, .any)] := fun a0 a1 a2 => rfl
  refine W_to (tr _ _ _) ?_; clear tr
  refine at_seq rfl ?_
  refine rg rfl ?_
  refine R_box rfl (by simp (disch := first | omega | (simp only [List.length_map, List.length_append, List.length_set, List.length_cons, List.length_nil, List.length_take, List.length_drop]; omega)) only [go_sem, ↓reduceIte, Nat.reduceEqDiff, reduceCtorEq]; rfl) rfl rfl ?_
  refine R_box rfl (by simp (disch := first | omega | (simp only [List.length_map, List.length_append, List.length_set, List.length_cons, List.length_nil, List.length_take, List.length_drop]; omega)) only [go_sem, ↓reduceIte, Nat.reduceEqDiff, reduceCtorEq]; rfl) rfl rfl ?_
  refine Rq ?_
  refine Rq ?_
  have tr : ∀ y0 y1 y2 y3 y5 y6 y7 y8 y9 y10 y22 y35 y41 z0 z1 z2 z3 : AV, trim [(7, z3), (6, z2), (5, z1), (3, z0), (0, y0), (1, y1), (2, y2), (3, y3), (5, y5), (6, y6), (7, y7), (8, y8), (9, y9), (10, y10), (22, y22), (35, y35), (41, y41)] [(0, y0), (1, y1), (2, y2), (3, y3), (5, y5), (6, y6), (7, y7), (8, y8), (9, y9), (10, y10), (22, y22), (35, y35), (41, y41)] = [(0, y0), (1, y1), (2, y2), (3, z0), (5, z1), (6, z2), (7, z3), (8, y8), (9, y9), (10, y10), (22, y22), (35, y35), (41, y41)] := fun y0 y1 y2 y3 y5 y6 y7 y8 y9 y10 y22 y35 y41 z0 z1 z2 z3 => rfl
  refine R_nil (tr _ _ _ _ _ _ _ _ _ _ _ _ _ _ _ _ _) ?_; clear tr
  refine then_n ?_
  refine at_seq rfl ?_
  refine rg rfl ?_
  refine Rq ?_
  refine Rq ?_
  refine Rq ?_
  refine Rq ?_
  refine Rq ?_
  refine Rq ?_
  refine Rcall ?_
  refine ACall_eq (rat_ok _ _ rows per _ _) ?_
  refine Rq ?_
  refine Rq ?_
  refine Rq ?_
  refine Rq ?_
  refine Rq ?_
  have tr : ∀ y0 y1 y2 y3 y5 y6 y7 y8 y9 y10 y22 y35 y41 z0 z1 z2 z3 z4 z5 z6 z7 z8 z9 z10 z11 : AV, trim [(9, z11), (8, z10), (20, z9), (19, z8), (11, z7), (18, z6), (17, z5), (16, z4), (15, z3), (14, z2), (13, z1), (12, z0), (0, y0), (1, y1), (2, y2), (3, y3), (5, y5), (6, y6), (7, y7), (8, y8), (9, y9), (10, y10), (22, y22), (35, y35), (41, y41)] [(0, y0), (1, y1), (2, y2), (3, y3), (5, y5), (6, y6), (7, y7), (8, y8), (9, y9), (10, y10), (22, y22), (35, y35), (41, y41)] = [(0, y0), (1, y1), (2, y2), (3, y3), (5, y5), (6, y6), (7, y7), (8, z10), (9, z11), (10, y10), (22, y22), (35, y35), (41, y41)] := fun y0 y1 y2 y3 y5 y6 y7 y8 y9 y10 y22 y35 y41 z0 z1 z2 z3 z4 z5 z6 z7 z8 z9 z10 z11 => rfl
  refine R_nil (tr _ _ _ _ _ _ _ _ _ _ _ _ _ _ _ _ _ _ _ _ _ _ _ _ _) ?_; clear tr
  refine then_n ?_
  refine at_seq rfl ?_
  refine at_seq rfl ?_
  refine rg rfl ?_
  refine Rq ?_
  refine Rq ?_
  have tr : ∀ y0 y1 y2 y3 y5 y6 y7 y8 y9 y10 y22 y35 y41 z0 z1 : AV, trim [(22, z1), (21, z0), (0, y0), (1, y1), (2, y2), (3, y3), (5, y5), (6, y6), (7, y7), (8, y8), (9, y9), (10, y10), (22, y22), (35, y35), (41, y41)] [(0, y0), (1, y1), (2, y2), (3, y3), (5, y5), (6, y6), (7, y7), (8, y8), (9, y9), (10, y10), (22, y22), (35, y35), (41, y41)] = [(0, y0), (1, y1), (2, y2), (3, y3), (5, y5), (6, y6), (7, y7), (8, y8), (9, y9), (10, y10), (22, z1), (35, y35), (41, y41)] := fun y0 y1 y2 y3 y5 y6 y7 y8 y9 y10 y22 y35 y41 z0 z1 => rfl
  refine R_nil (tr _ _ _ _ _ _ _ _ _ _ _ _ _ _ _) ?_; clear tr
  refine then_n ?_
  refine cdd (fun h1 => ?_) (fun h1 => ?_)
  · try simp only [decide_eq_true_eq, decide_eq_false_iff_not, Bool.not_eq_true', Bool.not_eq_false', beq_iff_eq, beq_eq_false_iff_ne, ne_eq] at h1
    refine at_seq rfl ?_
    refine rg rfl ?_
    refine Rq ?_
    refine Rq ?_
    refine Rq ?_
    have tr : ∀ y0 y1 y2 y3 y5 y6 y7 y8 y9 y10 y22 y35 y41 z0 z1 z2 : AV, trim [(7, z2), (6, z1), (23, z0), (0, y0), (1, y1), (2, y2), (3, y3), (5, y5), (6, y6), (7, y7), (8, y8), (9, y9), (10, y10), (22, y22), (35, y35), (41, y41)] [(0, y0), (1, y1), (2, y2), (3, y3), (5, y5), (6, y6), (7, y7), (8, y8), (9, y9), (10, y10), (22, y22), (35, y35), (41, y41)] = [(0, y0), (1, y1), (2, y2), (3, y3), (5, y5), (6, z1), (7, z2), (8, y8), (9, y9), (10, y10), (22, y22), (35, y35), (41, y41)] := fun y0 y1 y2 y3 y5 y6 y7 y8 y9 y10 y22 y35 y41 z0 z1 z2 => rfl
    refine R_nil (tr _ _ _ _ _ _ _ _ _ _ _ _ _ _ _ _) ?_; clear tr
    refine then_n ?_
    refine at_ret rfl ?_
    refine then_r ?_
    refine fpure ?_
    refine ⟨?_, rfl⟩
    rw [lostS, if_pos (by assumption)]
  · try simp only [decide_eq_true_eq, decide_eq_false_iff_not, Bool.not_eq_true', Bool.not_eq_false', beq_iff_eq, beq_eq_false_iff_ne, ne_eq] at h1
    refine at_skip rfl ?_
    refine then_n ?_
    refine at_seq rfl ?_
    refine rg rfl ?_
    refine Rq ?_
    refine Rq ?_
    refine Rq ?_
    refine Rq ?_
    refine Rq ?_
    refine Rq ?_
    refine Rcall ?_
    refine ACall_eq (rat_ok _ _ rows per _ _) ?_
    refine Rq ?_
    refine Rq ?_
    refine Rq ?_
    refine Rq ?_
    refine Rq ?_
    have tr : ∀ y0 y1 y2 y3 y5 y6 y7 y8 y9 y10 y22 y35 y41 z0 z1 z2 z3 z4 z5 z6 z7 z8 z9 z10 z11 : AV, trim [(9, z11), (10, z10), (33, z9), (32, z8), (24, z7), (31, z6), (30, z5), (29, z4), (28, z3), (27, z2), (26, z1), (25, z0), (0, y0), (1, y1), (2, y2), (3, y3), (5, y5), (6, y6), (7, y7), (8, y8), (9, y9), (10, y10), (22, y22), (35, y35), (41, y41)] [(0, y0), (1, y1), (2, y2), (3, y3), (5, y5), (6, y6), (7, y7), (8, y8), (9, y9), (10, y10), (22, y22), (35, y35), (41, y41)] = [(0, y0), (1, y1), (2, y2), (3, y3), (5, y5), (6, y6), (7, y7), (8, y8), (9, z11), (10, z10), (22, y22), (35, y35), (41, y41)] := fun y0 y1 y2 y3 y5 y6 y7 y8 y9 y10 y22 y35 y41 z0 z1 z2 z3 z4 z5 z6 z7 z8 z9 z10 z11 => rfl
    refine R_nil (tr _ _ _ _ _ _ _ _ _ _ _ _ _ _ _ _ _ _ _ _ _ _ _ _ _) ?_; clear tr
    refine then_n ?_
    refine at_seq rfl ?_
    refine at_seq rfl ?_
    refine rg rfl ?_
    refine Rq ?_
    refine Rq ?_
    have tr : ∀ y0 y1 y2 y3 y5 y6 y7 y8 y9 y10 y22 y35 y41 z0 z1 : AV, trim [(35, z1), (34, z0), (0, y0), (1, y1), (2, y2), (3, y3), (5, y5), (6, y6), (7, y7), (8, y8), (9, y9), (10, y10), (22, y22), (35, y35), (41, y41)] [(0, y0), (1, y1), (2, y2), (3, y3), (5, y5), (6, y6), (7, y7), (8, y8), (9, y9), (10, y10), (22, y22), (35, y35), (41, y41)] = [(0, y0), (1, y1), (2, y2), (3, y3), (5, y5), (6, y6), (7, y7), (8, y8), (9, y9), (10, y10), (22, y22), (35, z1), (41, y41)] := fun y0 y1 y2 y3 y5 y6 y7 y8 y9 y10 y22 y35 y41 z0 z1 => rfl
    refine R_nil (tr _ _ _ _ _ _ _ _ _ _ _ _ _ _ _) ?_; clear tr
    refine then_n ?_
    refine cdd (fun h2 => ?_) (fun h2 => ?_)
    · try simp only [decide_eq_true_eq, decide_eq_false_iff_not, Bool.not_eq_true', Bool.not_eq_false', beq_iff_eq, beq_eq_false_iff_ne, ne_eq] at h2
      refine at_seq rfl ?_
      refine rg rfl ?_
      refine Rq ?_
      refine Rq ?_
      refine Rq ?_
      have tr : ∀ y0 y1 y2 y3 y5 y6 y7 y8 y9 y10 y22 y35 y41 z0 z1 z2 : AV, trim [(7, z2), (6, z1), (36, z0), (0, y0), (1, y1), (2, y2), (3, y3), (5, y5), (6, y6), (7, y7), (8, y8), (9, y9), (10, y10), (22, y22), (35, y35), (41, y41)] [(0, y0), (1, y1), (2, y2), (3, y3), (5, y5), (6, y6), (7, y7), (8, y8), (9, y9), (10, y10), (22, y22), (35, y35), (41, y41)] = [(0, y0), (1, y1), (2, y2), (3, y3), (5, y5), (6, z1), (7, z2), (8, y8), (9, y9), (10, y10), (22, y22), (35, y35), (41, y41)] := fun y0 y1 y2 y3 y5 y6 y7 y8 y9 y10 y22 y35 y41 z0 z1 z2 => rfl
      refine R_nil (tr _ _ _ _ _ _ _ _ _ _ _ _ _ _ _ _) ?_; clear tr
      refine then_n ?_
      refine at_ret rfl ?_
      refine then_r ?_
      refine fpure ?_
      refine ⟨?_, rfl⟩
      rw [lostS, if_neg (by omega), if_pos (by assumption)]
    · try simp only [decide_eq_true_eq, decide_eq_false_iff_not, Bool.not_eq_true', Bool.not_eq_false', beq_iff_eq, beq_eq_false_iff_ne, ne_eq] at h2
      refine at_skip rfl ?_
      refine then_n ?_
      refine at_seq rfl ?_
      refine at_seq rfl ?_
      refine rg rfl ?_
      refine Rq ?_
      refine Rq ?_
      refine Rq ?_
      refine Rq ?_
      refine Rq ?_
      have tr : ∀ y0 y1 y2 y3 y5 y6 y7 y8 y9 y10 y22 y35 y41 z0 z1 z2 z3 z4 : AV, trim [(41, z4), (40, z3), (39, z2), (38, z1), (37, z0), (0, y0), (1, y1), (2, y2), (3, y3), (5, y5), (6, y6), (7, y7), (8, y8), (9, y9), (10, y10), (22, y22), (35, y35), (41, y41)] [(0, y0), (1, y1), (2, y2), (3, y3), (5, y5), (6, y6), (7, y7), (8, y8), (9, y9), (10, y10), (22, y22), (35, y35), (41, y41)] = [(0, y0), (1, y1), (2, y2), (3, y3), (5, y5), (6, y6), (7, y7), (8, y8), (9, y9), (10, y10), (22, y22), (35, y35), (41, z4)] := fun y0 y1 y2 y3 y5 y6 y7 y8 y9 y10 y22 y35 y41 z0 z1 z2 z3 z4 => rfl
      refine R_nil (tr _ _ _ _ _ _ _ _ _ _ _ _ _ _ _ _ _ _) ?_; clear tr
      refine then_n ?_
      refine cdd (fun h3 => ?_) (fun h3 => ?_)
      · try simp only [decide_eq_true_eq, decide_eq_false_iff_not, Bool.not_eq_true', Bool.not_eq_false', beq_iff_eq, beq_eq_false_iff_ne, ne_eq] at h3
        refine at_seq rfl ?_
        refine rg rfl ?_
        refine Rq ?_
        refine Rq ?_
        have tr : ∀ y0 y1 y2 y3 y5 y6 y7 y8 y9 y10 y22 y35 y41 z0 z1 : AV, trim [(7, z1), (6, z0), (0, y0), (1, y1), (2, y2), (3, y3), (5, y5), (6, y6), (7, y7), (8, y8), (9, y9), (10, y10), (22, y22), (35, y35), (41, y41)] [(0, y0), (1, y1), (2, y2), (3, y3), (5, y5), (6, y6), (7, y7), (8, y8), (9, y9), (10, y10), (22, y22), (35, y35), (41, y41)] = [(0, y0), (1, y1), (2, y2), (3, y3), (5, y5), (6, z0), (7, z1), (8, y8), (9, y9), (10, y10), (22, y22), (35, y35), (41, y41)] := fun y0 y1 y2 y3 y5 y6 y7 y8 y9 y10 y22 y35 y41 z0 z1 => rfl
        refine R_nil (tr _ _ _ _ _ _ _ _ _ _ _ _ _ _ _) ?_; clear tr
        refine then_n ?_
        refine at_ret rfl ?_
        refine then_r ?_
        refine fpure ?_
        refine ⟨?_, rfl⟩
        rw [lostS, if_neg (by omega), if_neg (by omega), if_pos (by omega)]
      · try simp only [decide_eq_true_eq, decide_eq_false_iff_not, Bool.not_eq_true', Bool.not_eq_false', beq_iff_eq, beq_eq_false_iff_ne, ne_eq] at h3
        refine at_skip rfl ?_
        refine then_n ?_
        refine at_seq rfl ?_
        refine rg rfl ?_
        have hb := at_range (rows := rows) (per := per) (balls := s.b) (w := s.w)
        have ha := at_range (rows := rows) (per := per) (balls := s.a) (w := s.w)
        refine Rq ?_
        refine Rq ?_
        refine Rq ?_
        refine Rq ?_
        refine Rq ?_
        have tr : ∀ y0 y1 y2 y3 y5 y6 y7 y8 y9 y10 y22 y35 y41 z0 z1 z2 z3 z4 : AV, trim [(7, z4), (6, z3), (44, z2), (43, z1), (42, z0), (0, y0), (1, y1), (2, y2), (3, y3), (5, y5), (6, y6), (7, y7), (8, y8), (9, y9), (10, y10), (22, y22), (35, y35), (41, y41)] [(0, y0), (1, y1), (2, y2), (3, y3), (5, y5), (6, y6), (7, y7), (8, y8), (9, y9), (10, y10), (22, y22), (35, y35), (41, y41)] = [(0, y0), (1, y1), (2, y2), (3, y3), (5, y5), (6, z3), (7, z4), (8, y8), (9, y9), (10, y10), (22, y22), (35, y35), (41, y41)] := fun y0 y1 y2 y3 y5 y6 y7 y8 y9 y10 y22 y35 y41 z0 z1 z2 z3 z4 => rfl
        refine R_nil (tr _ _ _ _ _ _ _ _ _ _ _ _ _ _ _ _ _ _) ?_; clear tr
        refine then_n ?_
        refine at_ret rfl ?_
        refine fpure ?_
        refine ⟨?_, rfl⟩
        rw [lostS, if_neg (by omega), if_neg (by omega), if_neg (by omega)]

end Go.Proofs.Ytaoondlakhocnaa
