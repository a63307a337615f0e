/-
  Walks of chapters 37, 39 and 40. The steps are written by program (walk.py).
-/
import Derived.Test.YtaoondlakhocnaaB
import Derived.Test.YtaoondlakhocnaaRP
set_option linter.unusedSimpArgs false
set_option linter.unusedVariables false
set_option maxHeartbeats 40000000
set_option maxRecDepth 4000
namespace Go.Proofs.Ytaoondlakhocnaa
open Go Go.Am

noncomputable def resE (rows : Tb) (per balls : Int) (l m : List Stp) : Int := if (leftS rows per balls l).2 ≠ 0 then (leftS rows per balls l).2 else (leftS rows per balls m).2
noncomputable def res1 (rows : Tb) (per balls : Int) (l m : List Stp) : Int := if resE rows per balls l m = 0 then (leftS rows per balls l).1 else 0
noncomputable def res2 (rows : Tb) (per balls : Int) (l m : List Stp) : Int := if resE rows per balls l m = 0 then (leftS rows per balls m).1 else 0
noncomputable def res3 (rows : Tb) (per balls : Int) (l m : List Stp) : Int := if resE rows per balls l m = 0 then 10000 * per else 0
noncomputable def tgtS (rows : Tb) (per tot wth balls : Int) (l m : List Stp) : Int × Int :=
  if resE rows per balls l m ≠ 0 then (0, resE rows per balls l m) else reviseS tot (res1 rows per balls l m) (res2 rows per balls l m) (res3 rows per balls l m) wth
def mostS (balls : Int) (m : List Stp) : Int := if 0 < m.length then (gt m (m.length - 1)).a else balls
def leastS (m : List Stp) : Int := if 0 < m.length then (gt m (m.length - 1)).w else 0
noncomputable def patS (rows : Tb) (per tot wth balls : Int) (l m : List Stp) (n w : Int) : Int × Int :=
  if (tgtS rows per tot wth balls l m).2 ≠ 0 then (0, (tgtS rows per tot wth balls l m).2) else if (atS rows per n w).2 ≠ 0 then (0, (atS rows per n w).2) else
  if mostS balls m < n ∨ w < leastS m then (0, 8) else parS tot (res1 rows per balls l m) (res2 rows per balls l m) (atS rows per n w).1 (res3 rows per balls l m) wth
noncomputable def winS (rows : Tb) (per tot wth balls : Int) (l m : List Stp) (k n w : Int) : Int × Int :=
  if (patS rows per tot wth balls l m n w).2 ≠ 0 then (0, (patS rows per tot wth balls l m n w).2) else if k < 0 ∨ 10000 < k then (0, 2) else
  if (patS rows per tot wth balls l m n w).1 < k then (2, 0) else if k < (patS rows per tot wth balls l m n w).1 then (1, 0) else (0, 0)
theorem most_case (balls : Int) (m : List Stp) : (0 < m.length ∧ mostS balls m = (gt m (m.length - 1)).a ∧ leastS m = (gt m (m.length - 1)).w) ∨ (¬ 0 < m.length ∧ mostS balls m = balls ∧ leastS m = 0) := by
  by_cases h : 0 < m.length
  · exact .inl ⟨h, by rw [mostS, if_pos h], by rw [leastS, if_pos h]⟩
  · exact .inr ⟨h, by rw [mostS, if_neg h], by rw [leastS, if_neg h]⟩
section
variable {rows : Tb} {per tot wth balls : Int} {l m : List Stp}
theorem left_per (h : (leftS rows per balls l).2 = 0) : 1 ≤ per ∧ per ≤ 8 := by
  have c := (left_zero h).1
  exact ⟨c.per1, c.per8⟩
theorem res_a (h : (leftS rows per balls l).2 ≠ 0) : resE rows per balls l m = (leftS rows per balls l).2 ∧ res1 rows per balls l m = 0 ∧ res2 rows per balls l m = 0 ∧ res3 rows per balls l m = 0 := by
  have e : resE rows per balls l m = (leftS rows per balls l).2 := by rw [resE, if_pos h]
  exact ⟨e, by rw [res1, e, if_neg h], by rw [res2, e, if_neg h], by rw [res3, e, if_neg h]⟩
theorem res_b (h : (leftS rows per balls l).2 = 0) (h' : (leftS rows per balls m).2 ≠ 0) : resE rows per balls l m = (leftS rows per balls m).2 ∧ res1 rows per balls l m = 0 ∧ res2 rows per balls l m = 0 ∧ res3 rows per balls l m = 0 := by
  have e : resE rows per balls l m = (leftS rows per balls m).2 := by rw [resE, if_neg (fun hh => hh h)]
  exact ⟨e, by rw [res1, e, if_neg h'], by rw [res2, e, if_neg h'], by rw [res3, e, if_neg h']⟩
theorem res_c (h : (leftS rows per balls l).2 = 0) (h' : (leftS rows per balls m).2 = 0) : resE rows per balls l m = 0 ∧ res1 rows per balls l m = (leftS rows per balls l).1 ∧ res2 rows per balls l m = (leftS rows per balls m).1 ∧ res3 rows per balls l m = 10000 * per := by
  have e : resE rows per balls l m = 0 := by rw [resE, if_neg (fun hh => hh h), h']
  exact ⟨e, by rw [res1, if_pos e], by rw [res2, if_pos e], by rw [res3, if_pos e]⟩
theorem res_zero (h : resE rows per balls l m = 0) : (leftS rows per balls l).2 = 0 ∧ (leftS rows per balls m).2 = 0 := by
  unfold resE at h
  split at h
  · rename_i h1; exact absurd h h1
  · rename_i h1; exact ⟨Decidable.not_not.mp h1, h⟩
theorem res_per (h : resE rows per balls l m = 0) : 1 ≤ per ∧ per ≤ 8 := left_per (res_zero h).1
theorem tgt_E (h : (tgtS rows per tot wth balls l m).2 = 0) : resE rows per balls l m = 0 := by
  unfold tgtS at h
  split at h
  · rename_i h1; exact absurd h h1
  · rename_i h1; exact Decidable.not_not.mp h1
theorem tgt_err (h : (tgtS rows per tot wth balls l m).2 ≠ 0) : (tgtS rows per tot wth balls l m).1 = 0 := by
  unfold tgtS at h ⊢
  split
  · rfl
  · rename_i h1
    rw [if_neg h1] at h
    rw [rev_err h]
theorem tgt_zero (h : (tgtS rows per tot wth balls l m).2 = 0) : ∃ L M : Int, leftS rows per balls l = (L, 0) ∧ leftS rows per balls m = (M, 0) ∧ ¬ revBad tot L M (10000 * per) wth ∧ tgtS rows per tot wth balls l m = (revV tot L M (10000 * per) wth, 0) := by
  have hE := tgt_E h
  obtain ⟨z1, z2⟩ := res_zero hE
  obtain ⟨_, e1, e2, e3⟩ := res_c z1 z2
  have ht : tgtS rows per tot wth balls l m = reviseS tot (leftS rows per balls l).1 (leftS rows per balls m).1 (10000 * per) wth := by rw [tgtS, if_neg (fun hh => hh hE), e1, e2, e3]
  rw [ht] at h
  have hb := rev_of0 h
  exact ⟨_, _, by rw [← z1], by rw [← z2], hb, by rw [ht, rev_ok0 hb]⟩
theorem tgt_of {L M : Int} (h1 : leftS rows per balls l = (L, 0)) (h2 : leftS rows per balls m = (M, 0)) : tgtS rows per tot wth balls l m = reviseS tot L M (10000 * per) wth := by
  obtain ⟨e0, e1, e2, e3⟩ := res_c (by rw [h1]) (by rw [h2] : (leftS rows per balls m).2 = 0)
  rw [tgtS, if_neg (fun hh => hh e0), e1, e2, e3, h1, h2]
end

theorem res_ok (lim : Nat) (H : Heap) (rows : Tb) (per tot wth balls : Int) (l m : List Stp) :
    ACall sig lim 50 [.agg [rowsAV rows, AV.i per, AV.i tot, AV.i wth, AV.i balls, stopsAV l, stopsAV m]] H fun r H' => r = .tup [AV.i (res1 rows per balls l m), AV.i (res2 rows per balls l m), AV.i (res3 rows per balls l m), AV.i (resE rows per balls l m)] ∧ H' = H := by
  refine ACall_pure (fa := fa50) rfl rfl rfl rfl ?_
  have tr : ∀ a0 : AV, env0 fa50.keep [a0] = [(0, a0), (1, .any), (2, .any), (3, .any), (4, .any), (5, .any), (19, .any), (34, .any)] := fun a0 => rfl
  refine W_to (tr _) ?_; clear tr
  refine at_seq rfl ?_
  refine rg rfl ?_
  refine R_box rfl (by simp (disch := first | omega | (simp only [List.length_map, List.length_append, List.length_set, List.length_cons, List.length_nil, List.length_take, List.length_drop]; omega)) only [go_sem, ↓reduceIte, Nat.reduceEqDiff, reduceCtorEq]; rfl) rfl rfl ?_
  refine Rq ?_
  refine Rq ?_
  refine Rq ?_
  refine Rq ?_
  have tr : ∀ y0 y1 y2 y3 y4 y5 y19 y34 z0 z1 z2 z3 z4 : AV, trim [(5, z4), (4, z3), (3, z2), (2, z1), (1, z0), (0, y0), (1, y1), (2, y2), (3, y3), (4, y4), (5, y5), (19, y19), (34, y34)] [(0, y0), (1, y1), (2, y2), (3, y3), (4, y4), (5, y5), (19, y19), (34, y34)] = [(0, y0), (1, z0), (2, z1), (3, z2), (4, z3), (5, z4), (19, y19), (34, y34)] := fun y0 y1 y2 y3 y4 y5 y19 y34 z0 z1 z2 z3 z4 => rfl
  refine R_nil (tr _ _ _ _ _ _ _ _ _ _ _ _ _) ?_; clear tr
  refine then_n ?_
  refine at_seq rfl ?_
  refine rg rfl ?_
  refine Rq ?_
  refine Rq ?_
  refine Rq ?_
  refine Rq ?_
  refine Rq ?_
  refine Rq ?_
  refine Rq ?_
  refine Rq ?_
  refine Rcall ?_
  refine ACall_eq (left_ok _ _ rows per balls l) ?_
  refine Rq ?_
  refine Rq ?_
  refine Rq ?_
  refine Rq ?_
  refine Rq ?_
  have tr : ∀ y0 y1 y2 y3 y4 y5 y19 y34 z0 z1 z2 z3 z4 z5 z6 z7 z8 z9 z10 z11 z12 z13 : AV, trim [(5, z13), (2, z12), (17, z11), (16, z10), (6, z9), (15, z8), (14, z7), (13, z6), (12, z5), (11, z4), (10, z3), (9, z2), (8, z1), (7, z0), (0, y0), (1, y1), (2, y2), (3, y3), (4, y4), (5, y5), (19, y19), (34, y34)] [(0, y0), (1, y1), (2, y2), (3, y3), (4, y4), (5, y5), (19, y19), (34, y34)] = [(0, y0), (1, y1), (2, z12), (3, y3), (4, y4), (5, z13), (19, y19), (34, y34)] := fun y0 y1 y2 y3 y4 y5 y19 y34 z0 z1 z2 z3 z4 z5 z6 z7 z8 z9 z10 z11 z12 z13 => rfl
  refine R_nil (tr _ _ _ _ _ _ _ _ _ _ _ _ _ _ _ _ _ _ _ _ _ _) ?_; clear tr
  refine then_n ?_
  refine at_seq rfl ?_
  refine at_seq rfl ?_
  refine rg rfl ?_
  refine Rq ?_
  refine Rq ?_
  have tr : ∀ y0 y1 y2 y3 y4 y5 y19 y34 z0 z1 : AV, trim [(19, z1), (18, z0), (0, y0), (1, y1), (2, y2), (3, y3), (4, y4), (5, y5), (19, y19), (34, y34)] [(0, y0), (1, y1), (2, y2), (3, y3), (4, y4), (5, y5), (19, y19), (34, y34)] = [(0, y0), (1, y1), (2, y2), (3, y3), (4, y4), (5, y5), (19, z1), (34, y34)] := fun y0 y1 y2 y3 y4 y5 y19 y34 z0 z1 => rfl
  refine R_nil (tr _ _ _ _ _ _ _ _ _ _) ?_; clear tr
  refine then_n ?_
  refine cdd (fun h1 => ?_) (fun h1 => ?_)
  · try simp only [decide_eq_true_eq, decide_eq_false_iff_not, Bool.not_eq_true', Bool.not_eq_false', beq_iff_eq, beq_eq_false_iff_ne, ne_eq] at h1
    refine at_seq rfl ?_
    refine rg rfl ?_
    refine Rq ?_
    refine Rq ?_
    refine Rq ?_
    refine Rq ?_
    refine Rq ?_
    have tr : ∀ y0 y1 y2 y3 y4 y5 y19 y34 z0 z1 z2 z3 z4 : AV, trim [(5, z4), (4, z3), (3, z2), (2, z1), (20, z0), (0, y0), (1, y1), (2, y2), (3, y3), (4, y4), (5, y5), (19, y19), (34, y34)] [(0, y0), (1, y1), (2, y2), (3, y3), (4, y4), (5, y5), (19, y19), (34, y34)] = [(0, y0), (1, y1), (2, z1), (3, z2), (4, z3), (5, z4), (19, y19), (34, y34)] := fun y0 y1 y2 y3 y4 y5 y19 y34 z0 z1 z2 z3 z4 => rfl
    refine R_nil (tr _ _ _ _ _ _ _ _ _ _ _ _ _) ?_; clear tr
    refine then_n ?_
    refine at_ret rfl ?_
    refine then_r ?_
    refine fpure ?_
    refine ⟨?_, rfl⟩
    obtain ⟨e0, e1, e2, e3⟩ := res_a (m := m) h1
    simp only [e0, e1, e2, e3]
  · try simp only [decide_eq_true_eq, decide_eq_false_iff_not, Bool.not_eq_true', Bool.not_eq_false', beq_iff_eq, beq_eq_false_iff_ne, ne_eq] at h1
    refine at_skip rfl ?_
    refine then_n ?_
    refine at_seq rfl ?_
    refine rg rfl ?_
    refine Rq ?_
    refine Rq ?_
    refine Rq ?_
    refine Rq ?_
    refine Rq ?_
    refine Rq ?_
    refine Rq ?_
    refine Rq ?_
    refine Rcall ?_
    refine ACall_eq (left_ok _ _ rows per balls m) ?_
    refine Rq ?_
    refine Rq ?_
    refine Rq ?_
    refine Rq ?_
    refine Rq ?_
    have tr : ∀ y0 y1 y2 y3 y4 y5 y19 y34 z0 z1 z2 z3 z4 z5 z6 z7 z8 z9 z10 z11 z12 z13 : AV, trim [(5, z13), (3, z12), (32, z11), (31, z10), (21, z9), (30, z8), (29, z7), (28, z6), (27, z5), (26, z4), (25, z3), (24, z2), (23, z1), (22, z0), (0, y0), (1, y1), (2, y2), (3, y3), (4, y4), (5, y5), (19, y19), (34, y34)] [(0, y0), (1, y1), (2, y2), (3, y3), (4, y4), (5, y5), (19, y19), (34, y34)] = [(0, y0), (1, y1), (2, y2), (3, z12), (4, y4), (5, z13), (19, y19), (34, y34)] := fun y0 y1 y2 y3 y4 y5 y19 y34 z0 z1 z2 z3 z4 z5 z6 z7 z8 z9 z10 z11 z12 z13 => rfl
    refine R_nil (tr _ _ _ _ _ _ _ _ _ _ _ _ _ _ _ _ _ _ _ _ _ _) ?_; clear tr
    refine then_n ?_
    refine at_seq rfl ?_
    refine at_seq rfl ?_
    refine rg rfl ?_
    refine Rq ?_
    refine Rq ?_
    have tr : ∀ y0 y1 y2 y3 y4 y5 y19 y34 z0 z1 : AV, trim [(34, z1), (33, z0), (0, y0), (1, y1), (2, y2), (3, y3), (4, y4), (5, y5), (19, y19), (34, y34)] [(0, y0), (1, y1), (2, y2), (3, y3), (4, y4), (5, y5), (19, y19), (34, y34)] = [(0, y0), (1, y1), (2, y2), (3, y3), (4, y4), (5, y5), (19, y19), (34, z1)] := fun y0 y1 y2 y3 y4 y5 y19 y34 z0 z1 => rfl
    refine R_nil (tr _ _ _ _ _ _ _ _ _ _) ?_; clear tr
    refine then_n ?_
    refine cdd (fun h2 => ?_) (fun h2 => ?_)
    · try simp only [decide_eq_true_eq, decide_eq_false_iff_not, Bool.not_eq_true', Bool.not_eq_false', beq_iff_eq, beq_eq_false_iff_ne, ne_eq] at h2
      refine at_seq rfl ?_
      refine rg rfl ?_
      refine Rq ?_
      refine Rq ?_
      refine Rq ?_
      refine Rq ?_
      refine Rq ?_
      have tr : ∀ y0 y1 y2 y3 y4 y5 y19 y34 z0 z1 z2 z3 z4 : AV, trim [(5, z4), (4, z3), (3, z2), (2, z1), (35, z0), (0, y0), (1, y1), (2, y2), (3, y3), (4, y4), (5, y5), (19, y19), (34, y34)] [(0, y0), (1, y1), (2, y2), (3, y3), (4, y4), (5, y5), (19, y19), (34, y34)] = [(0, y0), (1, y1), (2, z1), (3, z2), (4, z3), (5, z4), (19, y19), (34, y34)] := fun y0 y1 y2 y3 y4 y5 y19 y34 z0 z1 z2 z3 z4 => rfl
      refine R_nil (tr _ _ _ _ _ _ _ _ _ _ _ _ _) ?_; clear tr
      refine then_n ?_
      refine at_ret rfl ?_
      refine then_r ?_
      refine fpure ?_
      refine ⟨?_, rfl⟩
      obtain ⟨e0, e1, e2, e3⟩ := res_b h1 h2
      simp only [e0, e1, e2, e3]
    · try simp only [decide_eq_true_eq, decide_eq_false_iff_not, Bool.not_eq_true', Bool.not_eq_false', beq_iff_eq, beq_eq_false_iff_ne, ne_eq] at h2
      refine at_skip rfl ?_
      refine then_n ?_
      refine at_seq rfl ?_
      refine rd rfl rfl ?_
      have hper := left_per (by assumption : (leftS rows per balls l).2 = 0)
      refine Qq ?_
      refine Qq ?_
      refine Qq ?_
      refine Qq ?_
      refine Qq ?_
      refine Qq ?_
      refine Qq ?_
      refine Qq ?_
      refine Qq ?_
      refine Q_nil ?_
      have tr : ∀ y0 y1 y2 y3 y4 y5 y19 y34 z0 z1 z2 z3 z4 z5 z6 z7 z8 : AV, trim [(5, z8), (4, z7), (3, z6), (2, z5), (40, z4), (39, z3), (38, z2), (37, z1), (36, z0), (0, y0), (1, y1), (2, y2), (3, y3), (4, y4), (5, y5), (19, y19), (34, y34)] [(0, y0), (1, y1), (2, y2), (3, y3), (4, y4), (5, y5), (19, y19), (34, y34)] = [(0, y0), (1, y1), (2, z5), (3, z6), (4, z7), (5, z8), (19, y19), (34, y34)] := fun y0 y1 y2 y3 y4 y5 y19 y34 z0 z1 z2 z3 z4 z5 z6 z7 z8 => rfl
      refine R_nil (tr _ _ _ _ _ _ _ _ _ _ _ _ _ _ _ _ _) ?_; clear tr
      refine then_n ?_
      refine at_ret rfl ?_
      refine fpure ?_
      refine ⟨?_, rfl⟩
      obtain ⟨e0, e1, e2, e3⟩ := res_c h1 h2
      simp only [e0, e1, e2, e3]

end Go.Proofs.Ytaoondlakhocnaa
