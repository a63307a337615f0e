/-
  Walks of chapters 37, 39 and 40. The steps are written by program (walk.py).
-/
import Derived.Test.YtaoondlakhocnaaRF
import Derived.Test.YtaoondlakhocnaaRG
set_option linter.unusedSimpArgs false
set_option linter.unusedVariables false
set_option maxHeartbeats 40000000
set_option maxRecDepth 4000
namespace Go.Proofs.Ytaoondlakhocnaa
open Go Go.Am

theorem mul_box {a b A B : Int} (ha : 0 ≤ a) (hA : a ≤ A) (hb : 0 ≤ b) (hB : b ≤ B) : 0 ≤ a * b ∧ a * b ≤ A * B :=
  ⟨Int.mul_nonneg ha hb, Int.mul_le_mul hA hB hb (by omega)⟩
def cellI (rows : Tb) (u w : Int) : Int := gt (gt rows u.toNat) w.toNat
def atV (rows : Tb) (per balls w : Int) : Int :=
  cellI rows (balls / per) w * (per - balls % per) + (if 0 < balls % per then cellI rows (balls / per + 1) w * (balls % per) else 0)
def atBad (rows : Tb) (per balls w : Int) : Prop := per < 1 ∨ 8 < per ∨ balls < 0 ∨ ((rows.length : Int) - 1) * per < balls ∨ w < 0 ∨ (gt rows 0).length < w
instance (rows : Tb) (per balls w : Int) : Decidable (atBad rows per balls w) := by unfold atBad; infer_instance
noncomputable def atS (rows : Tb) (per balls w : Int) : Int × Int :=
  if checkS rows ≠ 0 then (0, checkS rows) else if atBad rows per balls w then (0, 2) else if w = (gt rows 0).length then (0, 0) else (atV rows per balls w, 0)
theorem check_zero {r : Tb} (h : checkS r = 0) : rawS r = 0 ∧ Down r ∧ Conc r := by
  unfold checkS at h
  split at h
  · rename_i h1; exact absurd h h1
  · split at h
    · rename_i h1 h2; exact absurd h h2
    · split at h
      · cases h
      · split at h
        · cases h
        · rename_i h1 h2 h3 h4
          exact ⟨by rw [rawS, if_neg h1]; exact Classical.not_not.mp h2, Classical.not_not.mp h3, Classical.not_not.mp h4⟩
theorem check_shaped {r : Tb} (h : checkS r = 0) : Shaped r := shaped_of (raw_zero (check_zero h).1).1
/-- Where a number of balls lies among the overs. -/
theorem at_place {n per balls : Int} (hp : 1 ≤ per) (hb : 0 ≤ balls) (hn : balls ≤ n * per) :
    0 ≤ balls / per ∧ balls / per ≤ n ∧ 0 ≤ balls % per ∧ balls % per < per ∧ (0 < balls % per → balls / per + 1 ≤ n) := by
  have h1 : 0 ≤ balls / per := Int.ediv_nonneg hb (by omega)
  have h2 : 0 ≤ balls % per := Int.emod_nonneg _ (by omega)
  have h3 : balls % per < per := Int.emod_lt_of_pos _ (by omega)
  have h4 : per * (balls / per) + balls % per = balls := Int.mul_ediv_add_emod _ _
  have h5 : balls / per ≤ n := by
    have := Int.ediv_le_ediv (c := per) (by omega) hn
    rwa [Int.mul_ediv_cancel _ (by omega)] at this
  refine ⟨h1, h5, h2, h3, fun h6 => ?_⟩
  by_cases h7 : balls / per = n
  · rw [h7, Int.mul_comm] at h4; omega
  · omega

theorem at_ok (lim : Nat) (H : Heap) (rows : Tb) (per balls w : Int) :
    ACall sig lim 42 [.agg [rowsAV rows], AV.i per, AV.i balls, AV.i w] H fun r H' => r = .tup [AV.i (atS rows per balls w).1, AV.i (atS rows per balls w).2] ∧ H' = H := by
  refine ACall_pure (fa := fa42) rfl rfl rfl rfl ?_
  have tr : ∀ a0 a1 a2 a3 : AV, env0 fa42.keep [a0, a1, a2, a3] = [(0, a0), (1, a1), (2, a2), (3, a3), (4, .any), (8, .any), (9, .any), (10, .any), (11, .any), (12, .any), (13, .any), (17, .any), (46, .any), (50, .any), (70, .any)] := fun a0 a1 a2 a3 => rfl
  refine W_to (tr _ _ _ _) ?_; clear tr
  refine at_seq rfl ?_
  refine rg rfl ?_
  refine R_box rfl (by simp (disch := first | omega | (simp only [List.length_map, List.length_append, List.length_set, List.length_cons, List.length_nil, List.length_take, List.length_drop]; omega)) only [go_sem, ↓reduceIte, Nat.reduceEqDiff, reduceCtorEq]; rfl) rfl rfl ?_
  refine Rq ?_
  refine Rq ?_
  have tr : ∀ y0 y1 y2 y3 y4 y8 y9 y10 y11 y12 y13 y17 y46 y50 y70 z0 z1 z2 : AV, trim [(9, z2), (8, z1), (4, z0), (0, y0), (1, y1), (2, y2), (3, y3), (4, y4), (8, y8), (9, y9), (10, y10), (11, y11), (12, y12), (13, y13), (17, y17), (46, y46), (50, y50), (70, y70)] [(0, y0), (1, y1), (2, y2), (3, y3), (4, y4), (8, y8), (9, y9), (10, y10), (11, y11), (12, y12), (13, y13), (17, y17), (46, y46), (50, y50), (70, y70)] = [(0, y0), (1, y1), (2, y2), (3, y3), (4, z0), (8, z1), (9, z2), (10, y10), (11, y11), (12, y12), (13, y13), (17, y17), (46, y46), (50, y50), (70, y70)] := fun y0 y1 y2 y3 y4 y8 y9 y10 y11 y12 y13 y17 y46 y50 y70 z0 z1 z2 => rfl
  refine R_nil (tr _ _ _ _ _ _ _ _ _ _ _ _ _ _ _ _ _ _) ?_; clear tr
  refine then_n ?_
  refine at_seq rfl ?_
  refine at_seq rfl ?_
  refine rg rfl ?_
  refine Rq ?_
  refine Rcall ?_
  refine ACall_eq (check_ok _ _ _) ?_
  refine Rq ?_
  have tr : ∀ y0 y1 y2 y3 y4 y8 y9 y10 y11 y12 y13 y17 y46 y50 y70 z0 z1 z2 : AV, trim [(10, z2), (15, z1), (14, z0), (0, y0), (1, y1), (2, y2), (3, y3), (4, y4), (8, y8), (9, y9), (10, y10), (11, y11), (12, y12), (13, y13), (17, y17), (46, y46), (50, y50), (70, y70)] [(0, y0), (1, y1), (2, y2), (3, y3), (4, y4), (8, y8), (9, y9), (10, y10), (11, y11), (12, y12), (13, y13), (17, y17), (46, y46), (50, y50), (70, y70)] = [(0, y0), (1, y1), (2, y2), (3, y3), (4, y4), (8, y8), (9, y9), (10, z2), (11, y11), (12, y12), (13, y13), (17, y17), (46, y46), (50, y50), (70, y70)] := fun y0 y1 y2 y3 y4 y8 y9 y10 y11 y12 y13 y17 y46 y50 y70 z0 z1 z2 => rfl
  refine R_nil (tr _ _ _ _ _ _ _ _ _ _ _ _ _ _ _ _ _ _) ?_; clear tr
  refine then_n ?_
  refine at_seq rfl ?_
  refine rg rfl ?_
  refine Rq ?_
  refine Rq ?_
  have tr : ∀ y0 y1 y2 y3 y4 y8 y9 y10 y11 y12 y13 y17 y46 y50 y70 z0 z1 : AV, trim [(17, z1), (16, z0), (0, y0), (1, y1), (2, y2), (3, y3), (4, y4), (8, y8), (9, y9), (10, y10), (11, y11), (12, y12), (13, y13), (17, y17), (46, y46), (50, y50), (70, y70)] [(0, y0), (1, y1), (2, y2), (3, y3), (4, y4), (8, y8), (9, y9), (10, y10), (11, y11), (12, y12), (13, y13), (17, y17), (46, y46), (50, y50), (70, y70)] = [(0, y0), (1, y1), (2, y2), (3, y3), (4, y4), (8, y8), (9, y9), (10, y10), (11, y11), (12, y12), (13, y13), (17, z1), (46, y46), (50, y50), (70, y70)] := fun y0 y1 y2 y3 y4 y8 y9 y10 y11 y12 y13 y17 y46 y50 y70 z0 z1 => rfl
  refine R_nil (tr _ _ _ _ _ _ _ _ _ _ _ _ _ _ _ _ _) ?_; clear tr
  refine then_n ?_
  refine cdd (fun h1 => ?_) (fun h1 => ?_)
  · try simp only [decide_eq_true_eq, decide_eq_false_iff_not, Bool.not_eq_true', Bool.not_eq_false', beq_iff_eq, beq_eq_false_iff_ne, ne_eq] at h1
    refine at_seq rfl ?_
    refine rg rfl ?_
    refine Rq ?_
    refine Rq ?_
    refine Rq ?_
    have tr : ∀ y0 y1 y2 y3 y4 y8 y9 y10 y11 y12 y13 y17 y46 y50 y70 z0 z1 z2 : AV, trim [(9, z2), (8, z1), (18, z0), (0, y0), (1, y1), (2, y2), (3, y3), (4, y4), (8, y8), (9, y9), (10, y10), (11, y11), (12, y12), (13, y13), (17, y17), (46, y46), (50, y50), (70, y70)] [(0, y0), (1, y1), (2, y2), (3, y3), (4, y4), (8, y8), (9, y9), (10, y10), (11, y11), (12, y12), (13, y13), (17, y17), (46, y46), (50, y50), (70, y70)] = [(0, y0), (1, y1), (2, y2), (3, y3), (4, y4), (8, z1), (9, z2), (10, y10), (11, y11), (12, y12), (13, y13), (17, y17), (46, y46), (50, y50), (70, y70)] := fun y0 y1 y2 y3 y4 y8 y9 y10 y11 y12 y13 y17 y46 y50 y70 z0 z1 z2 => rfl
    refine R_nil (tr _ _ _ _ _ _ _ _ _ _ _ _ _ _ _ _ _ _) ?_; clear tr
    refine then_n ?_
    refine at_ret rfl ?_
    refine then_r ?_
    refine fpure ?_
    refine ⟨?_, rfl⟩
    rw [atS, if_pos (by assumption)]
  · try simp only [decide_eq_true_eq, decide_eq_false_iff_not, Bool.not_eq_true', Bool.not_eq_false', beq_iff_eq, beq_eq_false_iff_ne, ne_eq] at h1
    refine at_skip rfl ?_
    refine then_n ?_
    refine at_seq rfl ?_
    refine at_seq rfl ?_
    refine rg rfl ?_
    refine Rq ?_
    refine Rq ?_
    refine Rq ?_
    refine Rp_split (fun h2 => ?_) (fun h2 => ?_)
    · try simp only [decide_eq_true_eq, decide_eq_false_iff_not, Bool.not_eq_true', Bool.not_eq_false', beq_iff_eq, beq_eq_false_iff_ne, ne_eq] at h2
      refine Rn ?_
      refine Rn ?_
      refine Rq ?_
      refine Rq ?_
      refine Rn ?_
      refine Rn ?_
      refine Rq ?_
      refine Rq ?_
      refine Rn ?_
      refine Rn ?_
      refine Rn ?_
      refine Rn ?_
      refine Rn ?_
      refine Rn ?_
      refine Rq ?_
      refine Rq ?_
      refine Rn ?_
      refine Rn ?_
      refine Rq ?_
      refine Rq ?_
      refine Rn ?_
      refine Rn ?_
      refine Rn ?_
      refine Rn ?_
      refine Rq ?_
      have tr : ∀ y0 y1 y2 y3 y4 y8 y9 y10 y11 y12 y13 y17 y46 y50 y70 z0 z1 z2 z3 z4 z5 z6 z7 z8 z9 z10 z11 z12 z13 z14 z15 z16 z17 z18 z19 z20 z21 z22 z23 z24 z25 z26 z27 : AV, trim [(46, z27), (45, z26), (44, z25), (43, z24), (42, z23), (41, z22), (40, z21), (39, z20), (38, z19), (37, z18), (36, z17), (35, z16), (34, z15), (33, z14), (32, z13), (31, z12), (30, z11), (29, z10), (28, z9), (27, z8), (26, z7), (25, z6), (24, z5), (23, z4), (22, z3), (21, z2), (20, z1), (19, z0), (0, y0), (1, y1), (2, y2), (3, y3), (4, y4), (8, y8), (9, y9), (10, y10), (11, y11), (12, y12), (13, y13), (17, y17), (46, y46), (50, y50), (70, y70)] [(0, y0), (1, y1), (2, y2), (3, y3), (4, y4), (8, y8), (9, y9), (10, y10), (11, y11), (12, y12), (13, y13), (17, y17), (46, y46), (50, y50), (70, y70)] = [(0, y0), (1, y1), (2, y2), (3, y3), (4, y4), (8, y8), (9, y9), (10, y10), (11, y11), (12, y12), (13, y13), (17, y17), (46, z27), (50, y50), (70, y70)] := fun y0 y1 y2 y3 y4 y8 y9 y10 y11 y12 y13 y17 y46 y50 y70 z0 z1 z2 z3 z4 z5 z6 z7 z8 z9 z10 z11 z12 z13 z14 z15 z16 z17 z18 z19 z20 z21 z22 z23 z24 z25 z26 z27 => rfl
      refine R_nil (tr _ _ _ _ _ _ _ _ _ _ _ _ _ _ _ _ _ _ _ _ _ _ _ _ _ _ _ _ _ _ _ _ _ _ _ _ _ _ _ _ _ _ _) ?_; clear tr
      refine then_n ?_
      refine cdt ?_
      refine at_seq rfl ?_
      refine rg rfl ?_
      refine Rq ?_
      refine Rq ?_
      have tr : ∀ y0 y1 y2 y3 y4 y8 y9 y10 y11 y12 y13 y17 y46 y50 y70 z0 z1 : AV, trim [(9, z1), (8, z0), (0, y0), (1, y1), (2, y2), (3, y3), (4, y4), (8, y8), (9, y9), (10, y10), (11, y11), (12, y12), (13, y13), (17, y17), (46, y46), (50, y50), (70, y70)] [(0, y0), (1, y1), (2, y2), (3, y3), (4, y4), (8, y8), (9, y9), (10, y10), (11, y11), (12, y12), (13, y13), (17, y17), (46, y46), (50, y50), (70, y70)] = [(0, y0), (1, y1), (2, y2), (3, y3), (4, y4), (8, z0), (9, z1), (10, y10), (11, y11), (12, y12), (13, y13), (17, y17), (46, y46), (50, y50), (70, y70)] := fun y0 y1 y2 y3 y4 y8 y9 y10 y11 y12 y13 y17 y46 y50 y70 z0 z1 => rfl
      refine R_nil (tr _ _ _ _ _ _ _ _ _ _ _ _ _ _ _ _ _) ?_; clear tr
      refine then_n ?_
      refine at_ret rfl ?_
      refine then_r ?_
      refine fpure ?_
      refine ⟨?_, rfl⟩
      rw [atS, if_neg (by omega), if_pos (by unfold atBad; omega)]
    · try simp only [decide_eq_true_eq, decide_eq_false_iff_not, Bool.not_eq_true', Bool.not_eq_false', beq_iff_eq, beq_eq_false_iff_ne, ne_eq] at h2
      refine Ry ?_
      refine Rq ?_
      refine Ry ?_
      refine Rq ?_
      refine Rq ?_
      refine Rq ?_
      refine Rp_split (fun h3 => ?_) (fun h3 => ?_)
      · try simp only [decide_eq_true_eq, decide_eq_false_iff_not, Bool.not_eq_true', Bool.not_eq_false', beq_iff_eq, beq_eq_false_iff_ne, ne_eq] at h3
        refine Rn ?_
        refine Rn ?_
        refine Rq ?_
        refine Rq ?_
        refine Rn ?_
        refine Rn ?_
        refine Rn ?_
        refine Rn ?_
        refine Rn ?_
        refine Rn ?_
        refine Rq ?_
        refine Rq ?_
        refine Rn ?_
        refine Rn ?_
        refine Rq ?_
        refine Rq ?_
        refine Rn ?_
        refine Rn ?_
        refine Rn ?_
        refine Rn ?_
        refine Rq ?_
        have tr : ∀ y0 y1 y2 y3 y4 y8 y9 y10 y11 y12 y13 y17 y46 y50 y70 z0 z1 z2 z3 z4 z5 z6 z7 z8 z9 z10 z11 z12 z13 z14 z15 z16 z17 z18 z19 z20 z21 z22 z23 z24 z25 z26 z27 : AV, trim [(46, z27), (45, z26), (44, z25), (43, z24), (42, z23), (41, z22), (40, z21), (39, z20), (38, z19), (37, z18), (36, z17), (35, z16), (34, z15), (33, z14), (32, z13), (31, z12), (30, z11), (29, z10), (28, z9), (27, z8), (26, z7), (25, z6), (24, z5), (23, z4), (22, z3), (21, z2), (20, z1), (19, z0), (0, y0), (1, y1), (2, y2), (3, y3), (4, y4), (8, y8), (9, y9), (10, y10), (11, y11), (12, y12), (13, y13), (17, y17), (46, y46), (50, y50), (70, y70)] [(0, y0), (1, y1), (2, y2), (3, y3), (4, y4), (8, y8), (9, y9), (10, y10), (11, y11), (12, y12), (13, y13), (17, y17), (46, y46), (50, y50), (70, y70)] = [(0, y0), (1, y1), (2, y2), (3, y3), (4, y4), (8, y8), (9, y9), (10, y10), (11, y11), (12, y12), (13, y13), (17, y17), (46, z27), (50, y50), (70, y70)] := fun y0 y1 y2 y3 y4 y8 y9 y10 y11 y12 y13 y17 y46 y50 y70 z0 z1 z2 z3 z4 z5 z6 z7 z8 z9 z10 z11 z12 z13 z14 z15 z16 z17 z18 z19 z20 z21 z22 z23 z24 z25 z26 z27 => rfl
        refine R_nil (tr _ _ _ _ _ _ _ _ _ _ _ _ _ _ _ _ _ _ _ _ _ _ _ _ _ _ _ _ _ _ _ _ _ _ _ _ _ _ _ _ _ _ _) ?_; clear tr
        refine then_n ?_
        refine cdt ?_
        refine at_seq rfl ?_
        refine rg rfl ?_
        refine Rq ?_
        refine Rq ?_
        have tr : ∀ y0 y1 y2 y3 y4 y8 y9 y10 y11 y12 y13 y17 y46 y50 y70 z0 z1 : AV, trim [(9, z1), (8, z0), (0, y0), (1, y1), (2, y2), (3, y3), (4, y4), (8, y8), (9, y9), (10, y10), (11, y11), (12, y12), (13, y13), (17, y17), (46, y46), (50, y50), (70, y70)] [(0, y0), (1, y1), (2, y2), (3, y3), (4, y4), (8, y8), (9, y9), (10, y10), (11, y11), (12, y12), (13, y13), (17, y17), (46, y46), (50, y50), (70, y70)] = [(0, y0), (1, y1), (2, y2), (3, y3), (4, y4), (8, z0), (9, z1), (10, y10), (11, y11), (12, y12), (13, y13), (17, y17), (46, y46), (50, y50), (70, y70)] := fun y0 y1 y2 y3 y4 y8 y9 y10 y11 y12 y13 y17 y46 y50 y70 z0 z1 => rfl
        refine R_nil (tr _ _ _ _ _ _ _ _ _ _ _ _ _ _ _ _ _) ?_; clear tr
        refine then_n ?_
        refine at_ret rfl ?_
        refine then_r ?_
        refine fpure ?_
        refine ⟨?_, rfl⟩
        rw [atS, if_neg (by omega), if_pos (by unfold atBad; omega)]
      · try simp only [decide_eq_true_eq, decide_eq_false_iff_not, Bool.not_eq_true', Bool.not_eq_false', beq_iff_eq, beq_eq_false_iff_ne, ne_eq] at h3
        refine Ry ?_
        refine Rq ?_
        refine Ry ?_
        refine Rq ?_
        refine Rq ?_
        refine Rq ?_
        refine Rp_split (fun h4 => ?_) (fun h4 => ?_)
        · try simp only [decide_eq_true_eq, decide_eq_false_iff_not, Bool.not_eq_true', Bool.not_eq_false', beq_iff_eq, beq_eq_false_iff_ne, ne_eq] at h4
          refine Rn ?_
          refine Rn ?_
          refine Rn ?_
          refine Rn ?_
          refine Rn ?_
          refine Rn ?_
          refine Rq ?_
          refine Rq ?_
          refine Rn ?_
          refine Rn ?_
          refine Rq ?_
          refine Rq ?_
          refine Rn ?_
          refine Rn ?_
          refine Rn ?_
          refine Rn ?_
          refine Rq ?_
          have tr : ∀ y0 y1 y2 y3 y4 y8 y9 y10 y11 y12 y13 y17 y46 y50 y70 z0 z1 z2 z3 z4 z5 z6 z7 z8 z9 z10 z11 z12 z13 z14 z15 z16 z17 z18 z19 z20 z21 z22 z23 z24 z25 z26 z27 : AV, trim [(46, z27), (45, z26), (44, z25), (43, z24), (42, z23), (41, z22), (40, z21), (39, z20), (38, z19), (37, z18), (36, z17), (35, z16), (34, z15), (33, z14), (32, z13), (31, z12), (30, z11), (29, z10), (28, z9), (27, z8), (26, z7), (25, z6), (24, z5), (23, z4), (22, z3), (21, z2), (20, z1), (19, z0), (0, y0), (1, y1), (2, y2), (3, y3), (4, y4), (8, y8), (9, y9), (10, y10), (11, y11), (12, y12), (13, y13), (17, y17), (46, y46), (50, y50), (70, y70)] [(0, y0), (1, y1), (2, y2), (3, y3), (4, y4), (8, y8), (9, y9), (10, y10), (11, y11), (12, y12), (13, y13), (17, y17), (46, y46), (50, y50), (70, y70)] = [(0, y0), (1, y1), (2, y2), (3, y3), (4, y4), (8, y8), (9, y9), (10, y10), (11, y11), (12, y12), (13, y13), (17, y17), (46, z27), (50, y50), (70, y70)] := fun y0 y1 y2 y3 y4 y8 y9 y10 y11 y12 y13 y17 y46 y50 y70 z0 z1 z2 z3 z4 z5 z6 z7 z8 z9 z10 z11 z12 z13 z14 z15 z16 z17 z18 z19 z20 z21 z22 z23 z24 z25 z26 z27 => rfl
          refine R_nil (tr _ _ _ _ _ _ _ _ _ _ _ _ _ _ _ _ _ _ _ _ _ _ _ _ _ _ _ _ _ _ _ _ _ _ _ _ _ _ _ _ _ _ _) ?_; clear tr
          refine then_n ?_
          refine cdt ?_
          refine at_seq rfl ?_
          refine rg rfl ?_
          refine Rq ?_
          refine Rq ?_
          have tr : ∀ y0 y1 y2 y3 y4 y8 y9 y10 y11 y12 y13 y17 y46 y50 y70 z0 z1 : AV, trim [(9, z1), (8, z0), (0, y0), (1, y1), (2, y2), (3, y3), (4, y4), (8, y8), (9, y9), (10, y10), (11, y11), (12, y12), (13, y13), (17, y17), (46, y46), (50, y50), (70, y70)] [(0, y0), (1, y1), (2, y2), (3, y3), (4, y4), (8, y8), (9, y9), (10, y10), (11, y11), (12, y12), (13, y13), (17, y17), (46, y46), (50, y50), (70, y70)] = [(0, y0), (1, y1), (2, y2), (3, y3), (4, y4), (8, z0), (9, z1), (10, y10), (11, y11), (12, y12), (13, y13), (17, y17), (46, y46), (50, y50), (70, y70)] := fun y0 y1 y2 y3 y4 y8 y9 y10 y11 y12 y13 y17 y46 y50 y70 z0 z1 => rfl
          refine R_nil (tr _ _ _ _ _ _ _ _ _ _ _ _ _ _ _ _ _) ?_; clear tr
          refine then_n ?_
          refine at_ret rfl ?_
          refine then_r ?_
          refine fpure ?_
          refine ⟨?_, rfl⟩
          rw [atS, if_neg (by omega), if_pos (by unfold atBad; omega)]
        · try simp only [decide_eq_true_eq, decide_eq_false_iff_not, Bool.not_eq_true', Bool.not_eq_false', beq_iff_eq, beq_eq_false_iff_ne, ne_eq] at h4
          refine Ry ?_
          refine Rq ?_
          refine Ry ?_
          refine Rq ?_
          refine Ry ?_
          refine Rcall ?_
          have s := check_shaped (by assumption : checkS rows = 0)
          have g2 := s.two
          have g91 := s.most
          refine ACall_eq (overs_ok _ _ rows g91 g2) ?_
          have hpm := mul_box (a := (rows.length : Int) - 1) (b := per) (A := 90) (B := 8) (by omega) (by omega) (by omega) (by omega)
          refine Ry ?_
          refine Rq ?_
          refine Ry ?_
          refine Rq ?_
          refine Ry ?_
          refine Rq ?_
          refine Rq ?_
          refine Rq ?_
          refine Rp_split (fun h5 => ?_) (fun h5 => ?_)
          · try simp only [decide_eq_true_eq, decide_eq_false_iff_not, Bool.not_eq_true', Bool.not_eq_false', beq_iff_eq, beq_eq_false_iff_ne, ne_eq] at h5
            refine Rn ?_
            refine Rn ?_
            refine Rq ?_
            refine Rq ?_
            refine Rn ?_
            refine Rn ?_
            refine Rn ?_
            refine Rn ?_
            refine Rq ?_
            have tr : ∀ y0 y1 y2 y3 y4 y8 y9 y10 y11 y12 y13 y17 y46 y50 y70 z0 z1 z2 z3 z4 z5 z6 z7 z8 z9 z10 z11 z12 z13 z14 z15 z16 z17 z18 z19 z20 z21 z22 z23 z24 z25 z26 z27 : AV, trim [(46, z27), (45, z26), (44, z25), (43, z24), (42, z23), (41, z22), (40, z21), (39, z20), (38, z19), (37, z18), (36, z17), (35, z16), (34, z15), (33, z14), (32, z13), (31, z12), (30, z11), (29, z10), (28, z9), (27, z8), (26, z7), (25, z6), (24, z5), (23, z4), (22, z3), (21, z2), (20, z1), (19, z0), (0, y0), (1, y1), (2, y2), (3, y3), (4, y4), (8, y8), (9, y9), (10, y10), (11, y11), (12, y12), (13, y13), (17, y17), (46, y46), (50, y50), (70, y70)] [(0, y0), (1, y1), (2, y2), (3, y3), (4, y4), (8, y8), (9, y9), (10, y10), (11, y11), (12, y12), (13, y13), (17, y17), (46, y46), (50, y50), (70, y70)] = [(0, y0), (1, y1), (2, y2), (3, y3), (4, y4), (8, y8), (9, y9), (10, y10), (11, y11), (12, y12), (13, y13), (17, y17), (46, z27), (50, y50), (70, y70)] := fun y0 y1 y2 y3 y4 y8 y9 y10 y11 y12 y13 y17 y46 y50 y70 z0 z1 z2 z3 z4 z5 z6 z7 z8 z9 z10 z11 z12 z13 z14 z15 z16 z17 z18 z19 z20 z21 z22 z23 z24 z25 z26 z27 => rfl
            refine R_nil (tr _ _ _ _ _ _ _ _ _ _ _ _ _ _ _ _ _ _ _ _ _ _ _ _ _ _ _ _ _ _ _ _ _ _ _ _ _ _ _ _ _ _ _) ?_; clear tr
            refine then_n ?_
            refine cdt ?_
            refine at_seq rfl ?_
            refine rg rfl ?_
            refine Rq ?_
            refine Rq ?_
            have tr : ∀ y0 y1 y2 y3 y4 y8 y9 y10 y11 y12 y13 y17 y46 y50 y70 z0 z1 : AV, trim [(9, z1), (8, z0), (0, y0), (1, y1), (2, y2), (3, y3), (4, y4), (8, y8), (9, y9), (10, y10), (11, y11), (12, y12), (13, y13), (17, y17), (46, y46), (50, y50), (70, y70)] [(0, y0), (1, y1), (2, y2), (3, y3), (4, y4), (8, y8), (9, y9), (10, y10), (11, y11), (12, y12), (13, y13), (17, y17), (46, y46), (50, y50), (70, y70)] = [(0, y0), (1, y1), (2, y2), (3, y3), (4, y4), (8, z0), (9, z1), (10, y10), (11, y11), (12, y12), (13, y13), (17, y17), (46, y46), (50, y50), (70, y70)] := fun y0 y1 y2 y3 y4 y8 y9 y10 y11 y12 y13 y17 y46 y50 y70 z0 z1 => rfl
            refine R_nil (tr _ _ _ _ _ _ _ _ _ _ _ _ _ _ _ _ _) ?_; clear tr
            refine then_n ?_
            refine at_ret rfl ?_
            refine then_r ?_
            refine fpure ?_
            refine ⟨?_, rfl⟩
            rw [atS, if_neg (by omega), if_pos (by unfold atBad; omega)]
          · try simp only [decide_eq_true_eq, decide_eq_false_iff_not, Bool.not_eq_true', Bool.not_eq_false', beq_iff_eq, beq_eq_false_iff_ne, ne_eq] at h5
            refine Ry ?_
            refine Rq ?_
            refine Ry ?_
            refine Rq ?_
            refine Rq ?_
            refine Rq ?_
            refine Rp_split (fun h6 => ?_) (fun h6 => ?_)
            · try simp only [decide_eq_true_eq, decide_eq_false_iff_not, Bool.not_eq_true', Bool.not_eq_false', beq_iff_eq, beq_eq_false_iff_ne, ne_eq] at h6
              refine Rn ?_
              refine Rn ?_
              refine Rn ?_
              refine Rn ?_
              refine Rq ?_
              have tr : ∀ y0 y1 y2 y3 y4 y8 y9 y10 y11 y12 y13 y17 y46 y50 y70 z0 z1 z2 z3 z4 z5 z6 z7 z8 z9 z10 z11 z12 z13 z14 z15 z16 z17 z18 z19 z20 z21 z22 z23 z24 z25 z26 z27 : AV, trim [(46, z27), (45, z26), (44, z25), (43, z24), (42, z23), (41, z22), (40, z21), (39, z20), (38, z19), (37, z18), (36, z17), (35, z16), (34, z15), (33, z14), (32, z13), (31, z12), (30, z11), (29, z10), (28, z9), (27, z8), (26, z7), (25, z6), (24, z5), (23, z4), (22, z3), (21, z2), (20, z1), (19, z0), (0, y0), (1, y1), (2, y2), (3, y3), (4, y4), (8, y8), (9, y9), (10, y10), (11, y11), (12, y12), (13, y13), (17, y17), (46, y46), (50, y50), (70, y70)] [(0, y0), (1, y1), (2, y2), (3, y3), (4, y4), (8, y8), (9, y9), (10, y10), (11, y11), (12, y12), (13, y13), (17, y17), (46, y46), (50, y50), (70, y70)] = [(0, y0), (1, y1), (2, y2), (3, y3), (4, y4), (8, y8), (9, y9), (10, y10), (11, y11), (12, y12), (13, y13), (17, y17), (46, z27), (50, y50), (70, y70)] := fun y0 y1 y2 y3 y4 y8 y9 y10 y11 y12 y13 y17 y46 y50 y70 z0 z1 z2 z3 z4 z5 z6 z7 z8 z9 z10 z11 z12 z13 z14 z15 z16 z17 z18 z19 z20 z21 z22 z23 z24 z25 z26 z27 => rfl
              refine R_nil (tr _ _ _ _ _ _ _ _ _ _ _ _ _ _ _ _ _ _ _ _ _ _ _ _ _ _ _ _ _ _ _ _ _ _ _ _ _ _ _ _ _ _ _) ?_; clear tr
              refine then_n ?_
              refine cdt ?_
              refine at_seq rfl ?_
              refine rg rfl ?_
              refine Rq ?_
              refine Rq ?_
              have tr : ∀ y0 y1 y2 y3 y4 y8 y9 y10 y11 y12 y13 y17 y46 y50 y70 z0 z1 : AV, trim [(9, z1), (8, z0), (0, y0), (1, y1), (2, y2), (3, y3), (4, y4), (8, y8), (9, y9), (10, y10), (11, y11), (12, y12), (13, y13), (17, y17), (46, y46), (50, y50), (70, y70)] [(0, y0), (1, y1), (2, y2), (3, y3), (4, y4), (8, y8), (9, y9), (10, y10), (11, y11), (12, y12), (13, y13), (17, y17), (46, y46), (50, y50), (70, y70)] = [(0, y0), (1, y1), (2, y2), (3, y3), (4, y4), (8, z0), (9, z1), (10, y10), (11, y11), (12, y12), (13, y13), (17, y17), (46, y46), (50, y50), (70, y70)] := fun y0 y1 y2 y3 y4 y8 y9 y10 y11 y12 y13 y17 y46 y50 y70 z0 z1 => rfl
              refine R_nil (tr _ _ _ _ _ _ _ _ _ _ _ _ _ _ _ _ _) ?_; clear tr
              refine then_n ?_
              refine at_ret rfl ?_
              refine then_r ?_
              refine fpure ?_
              refine ⟨?_, rfl⟩
              rw [atS, if_neg (by omega), if_pos (by unfold atBad; omega)]
            · try simp only [decide_eq_true_eq, decide_eq_false_iff_not, Bool.not_eq_true', Bool.not_eq_false', beq_iff_eq, beq_eq_false_iff_ne, ne_eq] at h6
              refine Ry ?_
              refine Rq ?_
              refine Ry ?_
              refine Rq ?_
              refine Ry ?_
              refine Rcall ?_
              refine ACall_eq (wickets_ok _ _ rows g2) ?_
              refine Ry ?_
              refine Rq ?_
              refine Rq ?_
              have tr : ∀ y0 y1 y2 y3 y4 y8 y9 y10 y11 y12 y13 y17 y46 y50 y70 z0 z1 z2 z3 z4 z5 z6 z7 z8 z9 z10 z11 z12 z13 z14 z15 z16 z17 z18 z19 z20 z21 z22 z23 z24 z25 z26 z27 : AV, trim [(46, z27), (45, z26), (44, z25), (43, z24), (42, z23), (41, z22), (40, z21), (39, z20), (38, z19), (37, z18), (36, z17), (35, z16), (34, z15), (33, z14), (32, z13), (31, z12), (30, z11), (29, z10), (28, z9), (27, z8), (26, z7), (25, z6), (24, z5), (23, z4), (22, z3), (21, z2), (20, z1), (19, z0), (0, y0), (1, y1), (2, y2), (3, y3), (4, y4), (8, y8), (9, y9), (10, y10), (11, y11), (12, y12), (13, y13), (17, y17), (46, y46), (50, y50), (70, y70)] [(0, y0), (1, y1), (2, y2), (3, y3), (4, y4), (8, y8), (9, y9), (10, y10), (11, y11), (12, y12), (13, y13), (17, y17), (46, y46), (50, y50), (70, y70)] = [(0, y0), (1, y1), (2, y2), (3, y3), (4, y4), (8, y8), (9, y9), (10, y10), (11, y11), (12, y12), (13, y13), (17, y17), (46, z27), (50, y50), (70, y70)] := fun y0 y1 y2 y3 y4 y8 y9 y10 y11 y12 y13 y17 y46 y50 y70 z0 z1 z2 z3 z4 z5 z6 z7 z8 z9 z10 z11 z12 z13 z14 z15 z16 z17 z18 z19 z20 z21 z22 z23 z24 z25 z26 z27 => rfl
              refine R_nil (tr _ _ _ _ _ _ _ _ _ _ _ _ _ _ _ _ _ _ _ _ _ _ _ _ _ _ _ _ _ _ _ _ _ _ _ _ _ _ _ _ _ _ _) ?_; clear tr
              refine then_n ?_
              refine cdd (fun h7 => ?_) (fun h7 => ?_)
              · try simp only [decide_eq_true_eq, decide_eq_false_iff_not, Bool.not_eq_true', Bool.not_eq_false', beq_iff_eq, beq_eq_false_iff_ne, ne_eq] at h7
                refine at_seq rfl ?_
                refine rg rfl ?_
                refine Rq ?_
                refine Rq ?_
                have tr : ∀ y0 y1 y2 y3 y4 y8 y9 y10 y11 y12 y13 y17 y46 y50 y70 z0 z1 : AV, trim [(9, z1), (8, z0), (0, y0), (1, y1), (2, y2), (3, y3), (4, y4), (8, y8), (9, y9), (10, y10), (11, y11), (12, y12), (13, y13), (17, y17), (46, y46), (50, y50), (70, y70)] [(0, y0), (1, y1), (2, y2), (3, y3), (4, y4), (8, y8), (9, y9), (10, y10), (11, y11), (12, y12), (13, y13), (17, y17), (46, y46), (50, y50), (70, y70)] = [(0, y0), (1, y1), (2, y2), (3, y3), (4, y4), (8, z0), (9, z1), (10, y10), (11, y11), (12, y12), (13, y13), (17, y17), (46, y46), (50, y50), (70, y70)] := fun y0 y1 y2 y3 y4 y8 y9 y10 y11 y12 y13 y17 y46 y50 y70 z0 z1 => rfl
                refine R_nil (tr _ _ _ _ _ _ _ _ _ _ _ _ _ _ _ _ _) ?_; clear tr
                refine then_n ?_
                refine at_ret rfl ?_
                refine then_r ?_
                refine fpure ?_
                refine ⟨?_, rfl⟩
                rw [atS, if_neg (by omega), if_pos (by unfold atBad; omega)]
              · try simp only [decide_eq_true_eq, decide_eq_false_iff_not, Bool.not_eq_true', Bool.not_eq_false', beq_iff_eq, beq_eq_false_iff_ne, ne_eq] at h7
                refine at_skip rfl ?_
                refine then_n ?_
                refine at_seq rfl ?_
                refine at_seq rfl ?_
                refine rg rfl ?_
                refine Rq ?_
                refine Rq ?_
                refine Rcall ?_
                refine ACall_eq (wickets_ok _ _ rows g2) ?_
                refine Rq ?_
                have tr : ∀ y0 y1 y2 y3 y4 y8 y9 y10 y11 y12 y13 y17 y46 y50 y70 z0 z1 z2 z3 : AV, trim [(50, z3), (49, z2), (48, z1), (47, z0), (0, y0), (1, y1), (2, y2), (3, y3), (4, y4), (8, y8), (9, y9), (10, y10), (11, y11), (12, y12), (13, y13), (17, y17), (46, y46), (50, y50), (70, y70)] [(0, y0), (1, y1), (2, y2), (3, y3), (4, y4), (8, y8), (9, y9), (10, y10), (11, y11), (12, y12), (13, y13), (17, y17), (46, y46), (50, y50), (70, y70)] = [(0, y0), (1, y1), (2, y2), (3, y3), (4, y4), (8, y8), (9, y9), (10, y10), (11, y11), (12, y12), (13, y13), (17, y17), (46, y46), (50, z3), (70, y70)] := fun y0 y1 y2 y3 y4 y8 y9 y10 y11 y12 y13 y17 y46 y50 y70 z0 z1 z2 z3 => rfl
                refine R_nil (tr _ _ _ _ _ _ _ _ _ _ _ _ _ _ _ _ _ _ _) ?_; clear tr
                refine then_n ?_
                refine cdd (fun h8 => ?_) (fun h8 => ?_)
                · try simp only [decide_eq_true_eq, decide_eq_false_iff_not, Bool.not_eq_true', Bool.not_eq_false', beq_iff_eq, beq_eq_false_iff_ne, ne_eq] at h8
                  refine at_seq rfl ?_
                  refine rg rfl ?_
                  refine Rq ?_
                  refine Rq ?_
                  have tr : ∀ y0 y1 y2 y3 y4 y8 y9 y10 y11 y12 y13 y17 y46 y50 y70 z0 z1 : AV, trim [(9, z1), (8, z0), (0, y0), (1, y1), (2, y2), (3, y3), (4, y4), (8, y8), (9, y9), (10, y10), (11, y11), (12, y12), (13, y13), (17, y17), (46, y46), (50, y50), (70, y70)] [(0, y0), (1, y1), (2, y2), (3, y3), (4, y4), (8, y8), (9, y9), (10, y10), (11, y11), (12, y12), (13, y13), (17, y17), (46, y46), (50, y50), (70, y70)] = [(0, y0), (1, y1), (2, y2), (3, y3), (4, y4), (8, z0), (9, z1), (10, y10), (11, y11), (12, y12), (13, y13), (17, y17), (46, y46), (50, y50), (70, y70)] := fun y0 y1 y2 y3 y4 y8 y9 y10 y11 y12 y13 y17 y46 y50 y70 z0 z1 => rfl
                  refine R_nil (tr _ _ _ _ _ _ _ _ _ _ _ _ _ _ _ _ _) ?_; clear tr
                  refine then_n ?_
                  refine at_ret rfl ?_
                  refine then_r ?_
                  refine fpure ?_
                  refine ⟨?_, rfl⟩
                  rw [atS, if_neg (by omega), if_neg (by unfold atBad; omega), if_pos (by omega)]
                · try simp only [decide_eq_true_eq, decide_eq_false_iff_not, Bool.not_eq_true', Bool.not_eq_false', beq_iff_eq, beq_eq_false_iff_ne, ne_eq] at h8
                  refine at_skip rfl ?_
                  refine then_n ?_
                  refine at_seq rfl ?_
                  refine rd rfl rfl ?_
                  have hat := at_place (n := (rows.length : Int) - 1) (per := per) (balls := balls) (by omega) (by omega) (by omega)
                  obtain ⟨q0, q1, r0, r1, q2⟩ := hat
                  have gl := s.len
                  have gr := s.rng
                  have hl1 := gl (balls / per).toNat (by omega)
                  have k1 : 0 ≤ gt (gt rows (balls / per).toNat) w.toNat ∧ gt (gt rows (balls / per).toNat) w.toNat ≤ 10000 := gr _ (by omega) _ (by omega)
                  have k2 := mul_box (b := per - balls % per) (B := 8) k1.1 k1.2 (by omega) (by omega)
                  refine Qq ?_
                  refine Qq ?_
                  refine Qq ?_
                  refine Qq ?_
                  refine Qq ?_
                  refine Qq ?_
                  refine Qq ?_
                  refine Qq ?_
                  refine Q_nil ?_
                  have tr : ∀ y0 y1 y2 y3 y4 y8 y9 y10 y11 y12 y13 y17 y46 y50 y70 z0 z1 z2 z3 z4 z5 z6 z7 : AV, trim [(12, z7), (11, z6), (56, z5), (55, z4), (54, z3), (53, z2), (52, z1), (51, z0), (0, y0), (1, y1), (2, y2), (3, y3), (4, y4), (8, y8), (9, y9), (10, y10), (11, y11), (12, y12), (13, y13), (17, y17), (46, y46), (50, y50), (70, y70)] [(0, y0), (1, y1), (2, y2), (3, y3), (4, y4), (8, y8), (9, y9), (10, y10), (11, y11), (12, y12), (13, y13), (17, y17), (46, y46), (50, y50), (70, y70)] = [(0, y0), (1, y1), (2, y2), (3, y3), (4, y4), (8, y8), (9, y9), (10, y10), (11, z6), (12, z7), (13, y13), (17, y17), (46, y46), (50, y50), (70, y70)] := fun y0 y1 y2 y3 y4 y8 y9 y10 y11 y12 y13 y17 y46 y50 y70 z0 z1 z2 z3 z4 z5 z6 z7 => rfl
                  refine R_nil (tr _ _ _ _ _ _ _ _ _ _ _ _ _ _ _ _ _ _ _ _ _ _ _) ?_; clear tr
                  refine then_n ?_
                  refine at_seq rfl ?_
                  refine rg rfl ?_
                  refine Rq ?_
                  refine Rq ?_
                  refine Rq ?_
                  refine Rq ?_
                  refine Rq ?_
                  refine Rq ?_
                  refine Rq ?_
                  refine Rq ?_
                  refine Rq ?_
                  refine Rq ?_
                  refine Rq ?_
                  refine Rq ?_
                  refine Rq ?_
                  have tr : ∀ y0 y1 y2 y3 y4 y8 y9 y10 y11 y12 y13 y17 y46 y50 y70 z0 z1 z2 z3 z4 z5 z6 z7 z8 z9 z10 z11 z12 : AV, trim [(13, z12), (68, z11), (67, z10), (66, z9), (65, z8), (64, z7), (63, z6), (62, z5), (61, z4), (60, z3), (59, z2), (58, z1), (57, z0), (0, y0), (1, y1), (2, y2), (3, y3), (4, y4), (8, y8), (9, y9), (10, y10), (11, y11), (12, y12), (13, y13), (17, y17), (46, y46), (50, y50), (70, y70)] [(0, y0), (1, y1), (2, y2), (3, y3), (4, y4), (8, y8), (9, y9), (10, y10), (11, y11), (12, y12), (13, y13), (17, y17), (46, y46), (50, y50), (70, y70)] = [(0, y0), (1, y1), (2, y2), (3, y3), (4, y4), (8, y8), (9, y9), (10, y10), (11, y11), (12, y12), (13, z12), (17, y17), (46, y46), (50, y50), (70, y70)] := fun y0 y1 y2 y3 y4 y8 y9 y10 y11 y12 y13 y17 y46 y50 y70 z0 z1 z2 z3 z4 z5 z6 z7 z8 z9 z10 z11 z12 => rfl
                  refine R_nil (tr _ _ _ _ _ _ _ _ _ _ _ _ _ _ _ _ _ _ _ _ _ _ _ _ _ _ _ _) ?_; clear tr
                  refine then_n ?_
                  refine at_seq rfl ?_
                  refine at_seq rfl ?_
                  refine rg rfl ?_
                  refine Rq ?_
                  refine Rq ?_
                  have tr : ∀ y0 y1 y2 y3 y4 y8 y9 y10 y11 y12 y13 y17 y46 y50 y70 z0 z1 : AV, trim [(70, z1), (69, z0), (0, y0), (1, y1), (2, y2), (3, y3), (4, y4), (8, y8), (9, y9), (10, y10), (11, y11), (12, y12), (13, y13), (17, y17), (46, y46), (50, y50), (70, y70)] [(0, y0), (1, y1), (2, y2), (3, y3), (4, y4), (8, y8), (9, y9), (10, y10), (11, y11), (12, y12), (13, y13), (17, y17), (46, y46), (50, y50), (70, y70)] = [(0, y0), (1, y1), (2, y2), (3, y3), (4, y4), (8, y8), (9, y9), (10, y10), (11, y11), (12, y12), (13, y13), (17, y17), (46, y46), (50, y50), (70, z1)] := fun y0 y1 y2 y3 y4 y8 y9 y10 y11 y12 y13 y17 y46 y50 y70 z0 z1 => rfl
                  refine R_nil (tr _ _ _ _ _ _ _ _ _ _ _ _ _ _ _ _ _) ?_; clear tr
                  refine then_n ?_
                  refine cdd (fun h9 => ?_) (fun h9 => ?_)
                  · try simp only [decide_eq_true_eq, decide_eq_false_iff_not, Bool.not_eq_true', Bool.not_eq_false', beq_iff_eq, beq_eq_false_iff_ne, ne_eq] at h9
                    refine rg rfl ?_
                    have q3 := q2 (by assumption)
                    have hl2 := gl (balls / per + 1).toNat (by omega)
                    have k3 : 0 ≤ gt (gt rows (balls / per + 1).toNat) w.toNat ∧ gt (gt rows (balls / per + 1).toNat) w.toNat ≤ 10000 := gr _ (by omega) _ (by omega)
                    have k4 := mul_box (b := balls % per) (B := 8) k3.1 k3.2 (by omega) (by omega)
                    refine Rq ?_
                    refine Rq ?_
                    refine Rq ?_
                    refine Rq ?_
                    refine Rq ?_
                    refine Rq ?_
                    refine Rq ?_
                    refine Rq ?_
                    refine Rq ?_
                    refine Rq ?_
                    refine Rq ?_
                    refine Rq ?_
                    refine Rq ?_
                    refine Rq ?_
                    have tr : ∀ y0 y1 y2 y3 y4 y8 y9 y10 y11 y12 y13 y17 y46 y50 y70 z0 z1 z2 z3 z4 z5 z6 z7 z8 z9 z10 z11 z12 z13 : AV, trim [(13, z13), (83, z12), (82, z11), (81, z10), (80, z9), (79, z8), (78, z7), (77, z6), (76, z5), (75, z4), (74, z3), (73, z2), (72, z1), (71, z0), (0, y0), (1, y1), (2, y2), (3, y3), (4, y4), (8, y8), (9, y9), (10, y10), (11, y11), (12, y12), (13, y13), (17, y17), (46, y46), (50, y50), (70, y70)] [(0, y0), (1, y1), (2, y2), (3, y3), (4, y4), (8, y8), (9, y9), (10, y10), (11, y11), (12, y12), (13, y13), (17, y17), (46, y46), (50, y50), (70, y70)] = [(0, y0), (1, y1), (2, y2), (3, y3), (4, y4), (8, y8), (9, y9), (10, y10), (11, y11), (12, y12), (13, z13), (17, y17), (46, y46), (50, y50), (70, y70)] := fun y0 y1 y2 y3 y4 y8 y9 y10 y11 y12 y13 y17 y46 y50 y70 z0 z1 z2 z3 z4 z5 z6 z7 z8 z9 z10 z11 z12 z13 => rfl
                    refine R_nil (tr _ _ _ _ _ _ _ _ _ _ _ _ _ _ _ _ _ _ _ _ _ _ _ _ _ _ _ _ _) ?_; clear tr
                    refine then_n ?_
                    refine at_seq rfl ?_
                    refine rg rfl ?_
                    refine Rq ?_
                    refine Rq ?_
                    refine Rq ?_
                    have tr : ∀ y0 y1 y2 y3 y4 y8 y9 y10 y11 y12 y13 y17 y46 y50 y70 z0 z1 z2 : AV, trim [(9, z2), (8, z1), (84, z0), (0, y0), (1, y1), (2, y2), (3, y3), (4, y4), (8, y8), (9, y9), (10, y10), (11, y11), (12, y12), (13, y13), (17, y17), (46, y46), (50, y50), (70, y70)] [(0, y0), (1, y1), (2, y2), (3, y3), (4, y4), (8, y8), (9, y9), (10, y10), (11, y11), (12, y12), (13, y13), (17, y17), (46, y46), (50, y50), (70, y70)] = [(0, y0), (1, y1), (2, y2), (3, y3), (4, y4), (8, z1), (9, z2), (10, y10), (11, y11), (12, y12), (13, y13), (17, y17), (46, y46), (50, y50), (70, y70)] := fun y0 y1 y2 y3 y4 y8 y9 y10 y11 y12 y13 y17 y46 y50 y70 z0 z1 z2 => rfl
                    refine R_nil (tr _ _ _ _ _ _ _ _ _ _ _ _ _ _ _ _ _ _) ?_; clear tr
                    refine then_n ?_
                    refine at_ret rfl ?_
                    refine fpure ?_
                    refine ⟨?_, rfl⟩
                    rw [atS, if_neg (by omega), if_neg (by unfold atBad; omega), if_neg (by omega), atV, cellI, cellI, if_pos (by omega)]
                  · try simp only [decide_eq_true_eq, decide_eq_false_iff_not, Bool.not_eq_true', Bool.not_eq_false', beq_iff_eq, beq_eq_false_iff_ne, ne_eq] at h9
                    refine at_skip rfl ?_
                    refine then_n ?_
                    refine at_seq rfl ?_
                    refine rg rfl ?_
                    refine Rq ?_
                    refine Rq ?_
                    refine Rq ?_
                    have tr : ∀ y0 y1 y2 y3 y4 y8 y9 y10 y11 y12 y13 y17 y46 y50 y70 z0 z1 z2 : AV, trim [(9, z2), (8, z1), (84, z0), (0, y0), (1, y1), (2, y2), (3, y3), (4, y4), (8, y8), (9, y9), (10, y10), (11, y11), (12, y12), (13, y13), (17, y17), (46, y46), (50, y50), (70, y70)] [(0, y0), (1, y1), (2, y2), (3, y3), (4, y4), (8, y8), (9, y9), (10, y10), (11, y11), (12, y12), (13, y13), (17, y17), (46, y46), (50, y50), (70, y70)] = [(0, y0), (1, y1), (2, y2), (3, y3), (4, y4), (8, z1), (9, z2), (10, y10), (11, y11), (12, y12), (13, y13), (17, y17), (46, y46), (50, y50), (70, y70)] := fun y0 y1 y2 y3 y4 y8 y9 y10 y11 y12 y13 y17 y46 y50 y70 z0 z1 z2 => rfl
                    refine R_nil (tr _ _ _ _ _ _ _ _ _ _ _ _ _ _ _ _ _ _) ?_; clear tr
                    refine then_n ?_
                    refine at_ret rfl ?_
                    refine fpure ?_
                    refine ⟨?_, rfl⟩
                    rw [atS, if_neg (by omega), if_neg (by unfold atBad; omega), if_neg (by omega), atV, cellI, cellI, if_neg (by omega), Int.add_zero]

end Go.Proofs.Ytaoondlakhocnaa
