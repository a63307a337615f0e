/-
  Walks of chapters 52 and 53. The steps are written by program (walk.py).
-/
import Derived.Test.YtdicnojnkbmdlaaSC
import Derived.Test.YtdicnojnkbmdlaaSG
set_option linter.unusedSimpArgs false
set_option linter.unusedVariables false
set_option maxHeartbeats 40000000
set_option maxRecDepth 4000
namespace Go.Proofs.Ytdicnojnkbmdlaa
open Go Go.Am

theorem chk53_ok (lim : Nat) (H : Heap) (P : List Int) (L : List Pr) :
    ACall sig lim 28 [.agg (raceC P L)] H fun r H' => r = AV.i (rchkS P L) ∧ H' = H := by
  refine ACall_pure (fa := fa28) rfl rfl rfl rfl ?_
  have tr : ∀ a0 : AV, env0 fa28.keep [a0] = [(0, a0), (1, .any), (2, .any), (3, .any), (5, .any), (7, .any), (16, .any), (18, .any), (19, .any), (20, .any), (21, .any), (29, .any), (34, .any), (36, .any), (37, .any), (38, .any), (39, .any), (68, .any), (74, .any)] := fun a0 => rfl
  refine W_to (tr _) ?_; clear tr
  refine at_seq rfl ?_
  refine rg rfl ?_
  refine R_box rfl (by simp (disch := first | omega | (simp only [List.length_map, List.length_append, List.length_set, List.length_cons, List.length_nil, List.length_take, List.length_drop]; omega)) only [go_sem, ↓reduceIte, Nat.reduceEqDiff, reduceCtorEq]; rfl) rfl rfl ?_
  refine Rq ?_
  have tr : ∀ y0 y1 y2 y3 y5 y7 y16 y18 y19 y20 y21 y29 y34 y36 y37 y38 y39 y68 y74 z0 z1 : AV, trim [(2, z1), (1, z0), (0, y0), (1, y1), (2, y2), (3, y3), (5, y5), (7, y7), (16, y16), (18, y18), (19, y19), (20, y20), (21, y21), (29, y29), (34, y34), (36, y36), (37, y37), (38, y38), (39, y39), (68, y68), (74, y74)] [(0, y0), (1, y1), (2, y2), (3, y3), (5, y5), (7, y7), (16, y16), (18, y18), (19, y19), (20, y20), (21, y21), (29, y29), (34, y34), (36, y36), (37, y37), (38, y38), (39, y39), (68, y68), (74, y74)] = [(0, y0), (1, z0), (2, z1), (3, y3), (5, y5), (7, y7), (16, y16), (18, y18), (19, y19), (20, y20), (21, y21), (29, y29), (34, y34), (36, y36), (37, y37), (38, y38), (39, y39), (68, y68), (74, y74)] := fun y0 y1 y2 y3 y5 y7 y16 y18 y19 y20 y21 y29 y34 y36 y37 y38 y39 y68 y74 z0 z1 => rfl
  refine R_nil (tr _ _ _ _ _ _ _ _ _ _ _ _ _ _ _ _ _ _ _ _ _) ?_; clear tr
  refine then_n ?_
  refine at_seq rfl ?_
  refine rg rfl ?_
  refine Rq ?_
  refine Rq ?_
  refine Rq ?_
  refine Rq ?_
  have tr : ∀ y0 y1 y2 y3 y5 y7 y16 y18 y19 y20 y21 y29 y34 y36 y37 y38 y39 y68 y74 z0 z1 z2 z3 : AV, trim [(3, z3), (10, z2), (9, z1), (8, z0), (0, y0), (1, y1), (2, y2), (3, y3), (5, y5), (7, y7), (16, y16), (18, y18), (19, y19), (20, y20), (21, y21), (29, y29), (34, y34), (36, y36), (37, y37), (38, y38), (39, y39), (68, y68), (74, y74)] [(0, y0), (1, y1), (2, y2), (3, y3), (5, y5), (7, y7), (16, y16), (18, y18), (19, y19), (20, y20), (21, y21), (29, y29), (34, y34), (36, y36), (37, y37), (38, y38), (39, y39), (68, y68), (74, y74)] = [(0, y0), (1, y1), (2, y2), (3, z3), (5, y5), (7, y7), (16, y16), (18, y18), (19, y19), (20, y20), (21, y21), (29, y29), (34, y34), (36, y36), (37, y37), (38, y38), (39, y39), (68, y68), (74, y74)] := fun y0 y1 y2 y3 y5 y7 y16 y18 y19 y20 y21 y29 y34 y36 y37 y38 y39 y68 y74 z0 z1 z2 z3 => rfl
  refine R_nil (tr _ _ _ _ _ _ _ _ _ _ _ _ _ _ _ _ _ _ _ _ _ _ _) ?_; clear tr
  refine then_n ?_
  refine at_seq rfl ?_
  refine at_seq rfl ?_
  refine rg rfl ?_
  refine Rq ?_
  refine Rq ?_
  refine Rq ?_
  refine Rp_split (fun h1 => ?_) (fun h1 => ?_)
  · try simp only [decide_eq_true_eq, decide_eq_false_iff_not, Bool.not_eq_true', Bool.not_eq_false', beq_iff_eq, beq_eq_false_iff_ne, ne_eq] at h1
    refine Rn ?_
    refine Rn ?_
    refine Rq ?_
    have tr : ∀ y0 y1 y2 y3 y5 y7 y16 y18 y19 y20 y21 y29 y34 y36 y37 y38 y39 y68 y74 z0 z1 z2 z3 z4 z5 : AV, trim [(16, z5), (15, z4), (14, z3), (13, z2), (12, z1), (11, z0), (0, y0), (1, y1), (2, y2), (3, y3), (5, y5), (7, y7), (16, y16), (18, y18), (19, y19), (20, y20), (21, y21), (29, y29), (34, y34), (36, y36), (37, y37), (38, y38), (39, y39), (68, y68), (74, y74)] [(0, y0), (1, y1), (2, y2), (3, y3), (5, y5), (7, y7), (16, y16), (18, y18), (19, y19), (20, y20), (21, y21), (29, y29), (34, y34), (36, y36), (37, y37), (38, y38), (39, y39), (68, y68), (74, y74)] = [(0, y0), (1, y1), (2, y2), (3, y3), (5, y5), (7, y7), (16, z5), (18, y18), (19, y19), (20, y20), (21, y21), (29, y29), (34, y34), (36, y36), (37, y37), (38, y38), (39, y39), (68, y68), (74, y74)] := fun y0 y1 y2 y3 y5 y7 y16 y18 y19 y20 y21 y29 y34 y36 y37 y38 y39 y68 y74 z0 z1 z2 z3 z4 z5 => rfl
    refine R_nil (tr _ _ _ _ _ _ _ _ _ _ _ _ _ _ _ _ _ _ _ _ _ _ _ _ _) ?_; clear tr
    refine then_n ?_
    refine cdt ?_
    refine at_seq rfl ?_
    refine rg rfl ?_
    refine Rq ?_
    have tr : ∀ y0 y1 y2 y3 y5 y7 y16 y18 y19 y20 y21 y29 y34 y36 y37 y38 y39 y68 y74 z0 : AV, trim [(2, z0), (0, y0), (1, y1), (2, y2), (3, y3), (5, y5), (7, y7), (16, y16), (18, y18), (19, y19), (20, y20), (21, y21), (29, y29), (34, y34), (36, y36), (37, y37), (38, y38), (39, y39), (68, y68), (74, y74)] [(0, y0), (1, y1), (2, y2), (3, y3), (5, y5), (7, y7), (16, y16), (18, y18), (19, y19), (20, y20), (21, y21), (29, y29), (34, y34), (36, y36), (37, y37), (38, y38), (39, y39), (68, y68), (74, y74)] = [(0, y0), (1, y1), (2, z0), (3, y3), (5, y5), (7, y7), (16, y16), (18, y18), (19, y19), (20, y20), (21, y21), (29, y29), (34, y34), (36, y36), (37, y37), (38, y38), (39, y39), (68, y68), (74, y74)] := fun y0 y1 y2 y3 y5 y7 y16 y18 y19 y20 y21 y29 y34 y36 y37 y38 y39 y68 y74 z0 => rfl
    refine R_nil (tr _ _ _ _ _ _ _ _ _ _ _ _ _ _ _ _ _ _ _ _) ?_; clear tr
    refine then_n ?_
    refine at_ret rfl ?_
    refine then_r ?_
    refine fpure ?_
    refine ⟨?_, rfl⟩
    rw [rchkS, if_pos (by omega)]
  · try simp only [decide_eq_true_eq, decide_eq_false_iff_not, Bool.not_eq_true', Bool.not_eq_false', beq_iff_eq, beq_eq_false_iff_ne, ne_eq] at h1
    refine Ry ?_
    refine Rq ?_
    refine Ry ?_
    refine Rq ?_
    refine Rq ?_
    have tr : ∀ y0 y1 y2 y3 y5 y7 y16 y18 y19 y20 y21 y29 y34 y36 y37 y38 y39 y68 y74 z0 z1 z2 z3 z4 z5 : AV, trim [(16, z5), (15, z4), (14, z3), (13, z2), (12, z1), (11, z0), (0, y0), (1, y1), (2, y2), (3, y3), (5, y5), (7, y7), (16, y16), (18, y18), (19, y19), (20, y20), (21, y21), (29, y29), (34, y34), (36, y36), (37, y37), (38, y38), (39, y39), (68, y68), (74, y74)] [(0, y0), (1, y1), (2, y2), (3, y3), (5, y5), (7, y7), (16, y16), (18, y18), (19, y19), (20, y20), (21, y21), (29, y29), (34, y34), (36, y36), (37, y37), (38, y38), (39, y39), (68, y68), (74, y74)] = [(0, y0), (1, y1), (2, y2), (3, y3), (5, y5), (7, y7), (16, z5), (18, y18), (19, y19), (20, y20), (21, y21), (29, y29), (34, y34), (36, y36), (37, y37), (38, y38), (39, y39), (68, y68), (74, y74)] := fun y0 y1 y2 y3 y5 y7 y16 y18 y19 y20 y21 y29 y34 y36 y37 y38 y39 y68 y74 z0 z1 z2 z3 z4 z5 => rfl
    refine R_nil (tr _ _ _ _ _ _ _ _ _ _ _ _ _ _ _ _ _ _ _ _ _ _ _ _ _) ?_; clear tr
    refine then_n ?_
    refine cdd (fun h2 => ?_) (fun h2 => ?_)
    · try simp only [decide_eq_true_eq, decide_eq_false_iff_not, Bool.not_eq_true', Bool.not_eq_false', beq_iff_eq, beq_eq_false_iff_ne, ne_eq] at h2
      refine at_seq rfl ?_
      refine rg rfl ?_
      refine Rq ?_
      have tr : ∀ y0 y1 y2 y3 y5 y7 y16 y18 y19 y20 y21 y29 y34 y36 y37 y38 y39 y68 y74 z0 : AV, trim [(2, z0), (0, y0), (1, y1), (2, y2), (3, y3), (5, y5), (7, y7), (16, y16), (18, y18), (19, y19), (20, y20), (21, y21), (29, y29), (34, y34), (36, y36), (37, y37), (38, y38), (39, y39), (68, y68), (74, y74)] [(0, y0), (1, y1), (2, y2), (3, y3), (5, y5), (7, y7), (16, y16), (18, y18), (19, y19), (20, y20), (21, y21), (29, y29), (34, y34), (36, y36), (37, y37), (38, y38), (39, y39), (68, y68), (74, y74)] = [(0, y0), (1, y1), (2, z0), (3, y3), (5, y5), (7, y7), (16, y16), (18, y18), (19, y19), (20, y20), (21, y21), (29, y29), (34, y34), (36, y36), (37, y37), (38, y38), (39, y39), (68, y68), (74, y74)] := fun y0 y1 y2 y3 y5 y7 y16 y18 y19 y20 y21 y29 y34 y36 y37 y38 y39 y68 y74 z0 => rfl
      refine R_nil (tr _ _ _ _ _ _ _ _ _ _ _ _ _ _ _ _ _ _ _ _) ?_; clear tr
      refine then_n ?_
      refine at_ret rfl ?_
      refine then_r ?_
      refine fpure ?_
      refine ⟨?_, rfl⟩
      rw [rchkS, if_pos (by omega)]
    · try simp only [decide_eq_true_eq, decide_eq_false_iff_not, Bool.not_eq_true', Bool.not_eq_false', beq_iff_eq, beq_eq_false_iff_ne, ne_eq] at h2
      refine at_skip rfl ?_
      refine then_n ?_
      refine at_seq rfl ?_
      refine at_seq rfl ?_
      refine rg rfl ?_
      refine Rq ?_
      refine Rq ?_
      refine Rq ?_
      refine Rq ?_
      have tr : ∀ y0 y1 y2 y3 y5 y7 y16 y18 y19 y20 y21 y29 y34 y36 y37 y38 y39 y68 y74 z0 z1 z2 z3 : AV, trim [(20, z3), (19, z2), (18, z1), (17, z0), (0, y0), (1, y1), (2, y2), (3, y3), (5, y5), (7, y7), (16, y16), (18, y18), (19, y19), (20, y20), (21, y21), (29, y29), (34, y34), (36, y36), (37, y37), (38, y38), (39, y39), (68, y68), (74, y74)] [(0, y0), (1, y1), (2, y2), (3, y3), (5, y5), (7, y7), (16, y16), (18, y18), (19, y19), (20, y20), (21, y21), (29, y29), (34, y34), (36, y36), (37, y37), (38, y38), (39, y39), (68, y68), (74, y74)] = [(0, y0), (1, y1), (2, y2), (3, y3), (5, y5), (7, y7), (16, y16), (18, z1), (19, z2), (20, z3), (21, y21), (29, y29), (34, y34), (36, y36), (37, y37), (38, y38), (39, y39), (68, y68), (74, y74)] := fun y0 y1 y2 y3 y5 y7 y16 y18 y19 y20 y21 y29 y34 y36 y37 y38 y39 y68 y74 z0 z1 z2 z3 => rfl
      refine R_nil (tr _ _ _ _ _ _ _ _ _ _ _ _ _ _ _ _ _ _ _ _ _ _ _) ?_; clear tr
      refine then_n ?_
      refine at_block rfl ?_
      refine loop_n rfl (fun mm kv H' => ∃ u : Nat, ∃ x2 x5 x21 x29 : AV, (kv = [(2, x2), (5, x5), (20, AV.i u), (21, x21), (29, x29)]) ∧ (mm = P.length - u) ∧ (H' = H ++ [some (raceC P L)]) ∧ (u ≤ P.length) ∧ (ferr (fun i => ptErr (gt P i)) u = 0)) ⟨0, _, _, _, _, rfl, rfl, rfl, by omega, by rfl⟩ (by rfl) ?_
      rintro mm kv H' ⟨u, x2, x5, x21, x29, rfl, rfl, rfl, hu, hz⟩
      have tr : ∀ y0 y1 y2 y3 y5 y7 y16 y18 y19 y20 y21 y29 y34 y36 y37 y38 y39 y68 y74 z2 z5 z20 z21 z29 : AV, upd [(0, y0), (1, y1), (2, y2), (3, y3), (5, y5), (7, y7), (16, y16), (18, y18), (19, y19), (20, y20), (21, y21), (29, y29), (34, y34), (36, y36), (37, y37), (38, y38), (39, y39), (68, y68), (74, y74)] [(2, z2), (5, z5), (20, z20), (21, z21), (29, z29)] = [(0, y0), (1, y1), (2, z2), (3, y3), (5, z5), (7, y7), (16, y16), (18, y18), (19, y19), (20, z20), (21, z21), (29, z29), (34, y34), (36, y36), (37, y37), (38, y38), (39, y39), (68, y68), (74, y74)] := fun y0 y1 y2 y3 y5 y7 y16 y18 y19 y20 y21 y29 y34 y36 y37 y38 y39 y68 y74 z2 z5 z20 z21 z29 => rfl
      refine W_to (tr _ _ _ _ _ _ _ _ _ _ _ _ _ _ _ _ _ _ _ _ _ _ _ _) ?_; clear tr
      refine at_seq rfl ?_
      refine rg rfl ?_
      refine Rq ?_
      have tr : ∀ y0 y1 y2 y3 y5 y7 y16 y18 y19 y20 y21 y29 y34 y36 y37 y38 y39 y68 y74 z0 : AV, trim [(21, z0), (0, y0), (1, y1), (2, y2), (3, y3), (5, y5), (7, y7), (16, y16), (18, y18), (19, y19), (20, y20), (21, y21), (29, y29), (34, y34), (36, y36), (37, y37), (38, y38), (39, y39), (68, y68), (74, y74)] [(0, y0), (1, y1), (2, y2), (3, y3), (5, y5), (7, y7), (16, y16), (18, y18), (19, y19), (20, y20), (21, y21), (29, y29), (34, y34), (36, y36), (37, y37), (38, y38), (39, y39), (68, y68), (74, y74)] = [(0, y0), (1, y1), (2, y2), (3, y3), (5, y5), (7, y7), (16, y16), (18, y18), (19, y19), (20, y20), (21, z0), (29, y29), (34, y34), (36, y36), (37, y37), (38, y38), (39, y39), (68, y68), (74, y74)] := fun y0 y1 y2 y3 y5 y7 y16 y18 y19 y20 y21 y29 y34 y36 y37 y38 y39 y68 y74 z0 => rfl
      refine R_nil (tr _ _ _ _ _ _ _ _ _ _ _ _ _ _ _ _ _ _ _ _) ?_; clear tr
      refine then_n ?_
      refine at_seq rfl ?_
      refine cdd (fun h3 => ?_) (fun h3 => ?_)
      · try simp only [decide_eq_true_eq, decide_eq_false_iff_not, Bool.not_eq_true', Bool.not_eq_false', beq_iff_eq, beq_eq_false_iff_ne, ne_eq] at h3
        refine at_skip rfl ?_
        refine then_n ?_
        refine at_seq rfl ?_
        refine at_block rfl ?_
        refine at_seq rfl ?_
        refine rg rfl ?_
        refine Rq ?_
        refine Rq ?_
        refine Rq ?_
        have tr : ∀ y0 y1 y2 y3 y5 y7 y16 y18 y19 y20 y21 y29 y34 y36 y37 y38 y39 y68 y74 z0 z1 z2 : AV, trim [(5, z2), (23, z1), (22, z0), (0, y0), (1, y1), (2, y2), (3, y3), (5, y5), (7, y7), (16, y16), (18, y18), (19, y19), (20, y20), (21, y21), (29, y29), (34, y34), (36, y36), (37, y37), (38, y38), (39, y39), (68, y68), (74, y74)] [(0, y0), (1, y1), (2, y2), (3, y3), (5, y5), (7, y7), (16, y16), (18, y18), (19, y19), (20, y20), (21, y21), (29, y29), (34, y34), (36, y36), (37, y37), (38, y38), (39, y39), (68, y68), (74, y74)] = [(0, y0), (1, y1), (2, y2), (3, y3), (5, z2), (7, y7), (16, y16), (18, y18), (19, y19), (20, y20), (21, y21), (29, y29), (34, y34), (36, y36), (37, y37), (38, y38), (39, y39), (68, y68), (74, y74)] := fun y0 y1 y2 y3 y5 y7 y16 y18 y19 y20 y21 y29 y34 y36 y37 y38 y39 y68 y74 z0 z1 z2 => rfl
        refine R_nil (tr _ _ _ _ _ _ _ _ _ _ _ _ _ _ _ _ _ _ _ _ _ _) ?_; clear tr
        refine then_n ?_
        refine at_seq rfl ?_
        refine rg rfl ?_
        refine Rq ?_
        refine Rq ?_
        refine Rq ?_
        refine Rp_split (fun h4 => ?_) (fun h4 => ?_)
        · try simp only [decide_eq_true_eq, decide_eq_false_iff_not, Bool.not_eq_true', Bool.not_eq_false', beq_iff_eq, beq_eq_false_iff_ne, ne_eq] at h4
          refine Rn ?_
          refine Rn ?_
          refine Rq ?_
          have tr : ∀ y0 y1 y2 y3 y5 y7 y16 y18 y19 y20 y21 y29 y34 y36 y37 y38 y39 y68 y74 z0 z1 z2 z3 z4 z5 : AV, trim [(29, z5), (28, z4), (27, z3), (26, z2), (25, z1), (24, z0), (0, y0), (1, y1), (2, y2), (3, y3), (5, y5), (7, y7), (16, y16), (18, y18), (19, y19), (20, y20), (21, y21), (29, y29), (34, y34), (36, y36), (37, y37), (38, y38), (39, y39), (68, y68), (74, y74)] [(0, y0), (1, y1), (2, y2), (3, y3), (5, y5), (7, y7), (16, y16), (18, y18), (19, y19), (20, y20), (21, y21), (29, y29), (34, y34), (36, y36), (37, y37), (38, y38), (39, y39), (68, y68), (74, y74)] = [(0, y0), (1, y1), (2, y2), (3, y3), (5, y5), (7, y7), (16, y16), (18, y18), (19, y19), (20, y20), (21, y21), (29, z5), (34, y34), (36, y36), (37, y37), (38, y38), (39, y39), (68, y68), (74, y74)] := fun y0 y1 y2 y3 y5 y7 y16 y18 y19 y20 y21 y29 y34 y36 y37 y38 y39 y68 y74 z0 z1 z2 z3 z4 z5 => rfl
          refine R_nil (tr _ _ _ _ _ _ _ _ _ _ _ _ _ _ _ _ _ _ _ _ _ _ _ _ _) ?_; clear tr
          refine then_n ?_
          refine cdt ?_
          refine at_seq rfl ?_
          refine rg rfl ?_
          refine Rq ?_
          have tr : ∀ y0 y1 y2 y3 y5 y7 y16 y18 y19 y20 y21 y29 y34 y36 y37 y38 y39 y68 y74 z0 : AV, trim [(2, z0), (0, y0), (1, y1), (2, y2), (3, y3), (5, y5), (7, y7), (16, y16), (18, y18), (19, y19), (20, y20), (21, y21), (29, y29), (34, y34), (36, y36), (37, y37), (38, y38), (39, y39), (68, y68), (74, y74)] [(0, y0), (1, y1), (2, y2), (3, y3), (5, y5), (7, y7), (16, y16), (18, y18), (19, y19), (20, y20), (21, y21), (29, y29), (34, y34), (36, y36), (37, y37), (38, y38), (39, y39), (68, y68), (74, y74)] = [(0, y0), (1, y1), (2, z0), (3, y3), (5, y5), (7, y7), (16, y16), (18, y18), (19, y19), (20, y20), (21, y21), (29, y29), (34, y34), (36, y36), (37, y37), (38, y38), (39, y39), (68, y68), (74, y74)] := fun y0 y1 y2 y3 y5 y7 y16 y18 y19 y20 y21 y29 y34 y36 y37 y38 y39 y68 y74 z0 => rfl
          refine R_nil (tr _ _ _ _ _ _ _ _ _ _ _ _ _ _ _ _ _ _ _ _) ?_; clear tr
          refine then_n ?_
          refine at_ret rfl ?_
          refine blk_r ?_
          refine then_r ?_
          refine then_r ?_
          refine blk_r ?_
          refine then_r ?_
          refine fpure ?_
          refine ⟨?_, rfl⟩
          have hse : ptErr (gt P u) = 2 := by unfold ptErr; rw [if_pos (by omega)]
          have hfe : ferr (fun i => ptErr (gt P i)) P.length = 2 := by rw [ferr_at hz (by omega) _ (by omega), hse]
          rw [rchkS, if_neg (by omega), if_pos (by omega), hfe]
        · try simp only [decide_eq_true_eq, decide_eq_false_iff_not, Bool.not_eq_true', Bool.not_eq_false', beq_iff_eq, beq_eq_false_iff_ne, ne_eq] at h4
          refine Ry ?_
          refine Rq ?_
          refine Ry ?_
          refine Rq ?_
          refine Rq ?_
          have tr : ∀ y0 y1 y2 y3 y5 y7 y16 y18 y19 y20 y21 y29 y34 y36 y37 y38 y39 y68 y74 z0 z1 z2 z3 z4 z5 : AV, trim [(29, z5), (28, z4), (27, z3), (26, z2), (25, z1), (24, z0), (0, y0), (1, y1), (2, y2), (3, y3), (5, y5), (7, y7), (16, y16), (18, y18), (19, y19), (20, y20), (21, y21), (29, y29), (34, y34), (36, y36), (37, y37), (38, y38), (39, y39), (68, y68), (74, y74)] [(0, y0), (1, y1), (2, y2), (3, y3), (5, y5), (7, y7), (16, y16), (18, y18), (19, y19), (20, y20), (21, y21), (29, y29), (34, y34), (36, y36), (37, y37), (38, y38), (39, y39), (68, y68), (74, y74)] = [(0, y0), (1, y1), (2, y2), (3, y3), (5, y5), (7, y7), (16, y16), (18, y18), (19, y19), (20, y20), (21, y21), (29, z5), (34, y34), (36, y36), (37, y37), (38, y38), (39, y39), (68, y68), (74, y74)] := fun y0 y1 y2 y3 y5 y7 y16 y18 y19 y20 y21 y29 y34 y36 y37 y38 y39 y68 y74 z0 z1 z2 z3 z4 z5 => rfl
          refine R_nil (tr _ _ _ _ _ _ _ _ _ _ _ _ _ _ _ _ _ _ _ _ _ _ _ _ _) ?_; clear tr
          refine then_n ?_
          refine cdd (fun h5 => ?_) (fun h5 => ?_)
          · try simp only [decide_eq_true_eq, decide_eq_false_iff_not, Bool.not_eq_true', Bool.not_eq_false', beq_iff_eq, beq_eq_false_iff_ne, ne_eq] at h5
            refine at_seq rfl ?_
            refine rg rfl ?_
            refine Rq ?_
            have tr : ∀ y0 y1 y2 y3 y5 y7 y16 y18 y19 y20 y21 y29 y34 y36 y37 y38 y39 y68 y74 z0 : AV, trim [(2, z0), (0, y0), (1, y1), (2, y2), (3, y3), (5, y5), (7, y7), (16, y16), (18, y18), (19, y19), (20, y20), (21, y21), (29, y29), (34, y34), (36, y36), (37, y37), (38, y38), (39, y39), (68, y68), (74, y74)] [(0, y0), (1, y1), (2, y2), (3, y3), (5, y5), (7, y7), (16, y16), (18, y18), (19, y19), (20, y20), (21, y21), (29, y29), (34, y34), (36, y36), (37, y37), (38, y38), (39, y39), (68, y68), (74, y74)] = [(0, y0), (1, y1), (2, z0), (3, y3), (5, y5), (7, y7), (16, y16), (18, y18), (19, y19), (20, y20), (21, y21), (29, y29), (34, y34), (36, y36), (37, y37), (38, y38), (39, y39), (68, y68), (74, y74)] := fun y0 y1 y2 y3 y5 y7 y16 y18 y19 y20 y21 y29 y34 y36 y37 y38 y39 y68 y74 z0 => rfl
            refine R_nil (tr _ _ _ _ _ _ _ _ _ _ _ _ _ _ _ _ _ _ _ _) ?_; clear tr
            refine then_n ?_
            refine at_ret rfl ?_
            refine blk_r ?_
            refine then_r ?_
            refine then_r ?_
            refine blk_r ?_
            refine then_r ?_
            refine fpure ?_
            refine ⟨?_, rfl⟩
            have hse : ptErr (gt P u) = 2 := by unfold ptErr; rw [if_pos (by omega)]
            have hfe : ferr (fun i => ptErr (gt P i)) P.length = 2 := by rw [ferr_at hz (by omega) _ (by omega), hse]
            rw [rchkS, if_neg (by omega), if_pos (by omega), hfe]
          · try simp only [decide_eq_true_eq, decide_eq_false_iff_not, Bool.not_eq_true', Bool.not_eq_false', beq_iff_eq, beq_eq_false_iff_ne, ne_eq] at h5
            refine at_skip rfl ?_
            refine blk_n ?_
            refine then_n ?_
            refine rg rfl ?_
            refine Rq ?_
            refine Rq ?_
            have tr : ∀ y0 y1 y2 y3 y5 y7 y16 y18 y19 y20 y21 y29 y34 y36 y37 y38 y39 y68 y74 z0 z1 : AV, trim [(20, z1), (30, z0), (0, y0), (1, y1), (2, y2), (3, y3), (5, y5), (7, y7), (16, y16), (18, y18), (19, y19), (20, y20), (21, y21), (29, y29), (34, y34), (36, y36), (37, y37), (38, y38), (39, y39), (68, y68), (74, y74)] [(0, y0), (1, y1), (2, y2), (3, y3), (5, y5), (7, y7), (16, y16), (18, y18), (19, y19), (20, y20), (21, y21), (29, y29), (34, y34), (36, y36), (37, y37), (38, y38), (39, y39), (68, y68), (74, y74)] = [(0, y0), (1, y1), (2, y2), (3, y3), (5, y5), (7, y7), (16, y16), (18, y18), (19, y19), (20, z1), (21, y21), (29, y29), (34, y34), (36, y36), (37, y37), (38, y38), (39, y39), (68, y68), (74, y74)] := fun y0 y1 y2 y3 y5 y7 y16 y18 y19 y20 y21 y29 y34 y36 y37 y38 y39 y68 y74 z0 z1 => rfl
            refine R_nil (tr _ _ _ _ _ _ _ _ _ _ _ _ _ _ _ _ _ _ _ _ _) ?_; clear tr
            refine then_n ?_
            exact ⟨_, _, ⟨u + 1, _, _, _, _, rfl, rfl, rfl, by omega, by exact ferr_ok hz (by show ptErr (gt P u) = 0; unfold ptErr; rw [if_neg (by omega)])⟩, by rfl, by omega⟩
      · try simp only [decide_eq_true_eq, decide_eq_false_iff_not, Bool.not_eq_true', Bool.not_eq_false', beq_iff_eq, beq_eq_false_iff_ne, ne_eq] at h3
        refine at_exit rfl ?_
        refine then_x ?_
        refine then_x ?_
        refine blk_x ?_
        refine then_n ?_
        refine at_seq rfl ?_
        refine at_seq rfl ?_
        refine rg rfl ?_
        have hze : ferr (fun i => ptErr (gt P i)) P.length = 0 := by rw [show P.length = u by omega]; exact hz
        refine Rq ?_
        refine Rq ?_
        refine Rq ?_
        refine Rq ?_
        have tr : ∀ y0 y1 y2 y3 y5 y7 y16 y18 y19 y20 y21 y29 y34 y36 y37 y38 y39 y68 y74 z0 z1 z2 z3 : AV, trim [(34, z3), (33, z2), (32, z1), (31, z0), (0, y0), (1, y1), (2, y2), (3, y3), (5, y5), (7, y7), (16, y16), (18, y18), (19, y19), (20, y20), (21, y21), (29, y29), (34, y34), (36, y36), (37, y37), (38, y38), (39, y39), (68, y68), (74, y74)] [(0, y0), (1, y1), (2, y2), (3, y3), (5, y5), (7, y7), (16, y16), (18, y18), (19, y19), (20, y20), (21, y21), (29, y29), (34, y34), (36, y36), (37, y37), (38, y38), (39, y39), (68, y68), (74, y74)] = [(0, y0), (1, y1), (2, y2), (3, y3), (5, y5), (7, y7), (16, y16), (18, y18), (19, y19), (20, y20), (21, y21), (29, y29), (34, z3), (36, y36), (37, y37), (38, y38), (39, y39), (68, y68), (74, y74)] := fun y0 y1 y2 y3 y5 y7 y16 y18 y19 y20 y21 y29 y34 y36 y37 y38 y39 y68 y74 z0 z1 z2 z3 => rfl
        refine R_nil (tr _ _ _ _ _ _ _ _ _ _ _ _ _ _ _ _ _ _ _ _ _ _ _) ?_; clear tr
        refine then_n ?_
        refine cdd (fun h6 => ?_) (fun h6 => ?_)
        · try simp only [decide_eq_true_eq, decide_eq_false_iff_not, Bool.not_eq_true', Bool.not_eq_false', beq_iff_eq, beq_eq_false_iff_ne, ne_eq] at h6
          refine at_seq rfl ?_
          refine rg rfl ?_
          refine Rq ?_
          have tr : ∀ y0 y1 y2 y3 y5 y7 y16 y18 y19 y20 y21 y29 y34 y36 y37 y38 y39 y68 y74 z0 : AV, trim [(2, z0), (0, y0), (1, y1), (2, y2), (3, y3), (5, y5), (7, y7), (16, y16), (18, y18), (19, y19), (20, y20), (21, y21), (29, y29), (34, y34), (36, y36), (37, y37), (38, y38), (39, y39), (68, y68), (74, y74)] [(0, y0), (1, y1), (2, y2), (3, y3), (5, y5), (7, y7), (16, y16), (18, y18), (19, y19), (20, y20), (21, y21), (29, y29), (34, y34), (36, y36), (37, y37), (38, y38), (39, y39), (68, y68), (74, y74)] = [(0, y0), (1, y1), (2, z0), (3, y3), (5, y5), (7, y7), (16, y16), (18, y18), (19, y19), (20, y20), (21, y21), (29, y29), (34, y34), (36, y36), (37, y37), (38, y38), (39, y39), (68, y68), (74, y74)] := fun y0 y1 y2 y3 y5 y7 y16 y18 y19 y20 y21 y29 y34 y36 y37 y38 y39 y68 y74 z0 => rfl
          refine R_nil (tr _ _ _ _ _ _ _ _ _ _ _ _ _ _ _ _ _ _ _ _) ?_; clear tr
          refine then_n ?_
          refine at_ret rfl ?_
          refine then_r ?_
          refine fpure ?_
          refine ⟨?_, rfl⟩
          rw [rchkS, if_neg (by omega), if_neg (by omega), if_pos (by omega)]
        · try simp only [decide_eq_true_eq, decide_eq_false_iff_not, Bool.not_eq_true', Bool.not_eq_false', beq_iff_eq, beq_eq_false_iff_ne, ne_eq] at h6
          refine at_skip rfl ?_
          refine then_n ?_
          refine at_seq rfl ?_
          refine at_seq rfl ?_
          refine rg rfl ?_
          refine Rq ?_
          refine Rq ?_
          refine Rq ?_
          refine Rq ?_
          have tr : ∀ y0 y1 y2 y3 y5 y7 y16 y18 y19 y20 y21 y29 y34 y36 y37 y38 y39 y68 y74 z0 z1 z2 z3 : AV, trim [(38, z3), (37, z2), (36, z1), (35, z0), (0, y0), (1, y1), (2, y2), (3, y3), (5, y5), (7, y7), (16, y16), (18, y18), (19, y19), (20, y20), (21, y21), (29, y29), (34, y34), (36, y36), (37, y37), (38, y38), (39, y39), (68, y68), (74, y74)] [(0, y0), (1, y1), (2, y2), (3, y3), (5, y5), (7, y7), (16, y16), (18, y18), (19, y19), (20, y20), (21, y21), (29, y29), (34, y34), (36, y36), (37, y37), (38, y38), (39, y39), (68, y68), (74, y74)] = [(0, y0), (1, y1), (2, y2), (3, y3), (5, y5), (7, y7), (16, y16), (18, y18), (19, y19), (20, y20), (21, y21), (29, y29), (34, y34), (36, z1), (37, z2), (38, z3), (39, y39), (68, y68), (74, y74)] := fun y0 y1 y2 y3 y5 y7 y16 y18 y19 y20 y21 y29 y34 y36 y37 y38 y39 y68 y74 z0 z1 z2 z3 => rfl
          refine R_nil (tr _ _ _ _ _ _ _ _ _ _ _ _ _ _ _ _ _ _ _ _ _ _ _) ?_; clear tr
          refine then_n ?_
          refine at_block rfl ?_
          refine loop_n rfl (fun mm kv H' => ∃ v : Nat, ∃ X : Heap, ∃ x2 x7 x39 x68 : AV, (kv = [(2, x2), (7, x7), (38, AV.i v), (39, x39), (68, x68)]) ∧ (mm = L.length - v) ∧ (H' = H ++ [some (raceC P L)] ++ X) ∧ (v ≤ L.length) ∧ (ferr (fun i => prErr P.length (gt L i)) v = 0)) ⟨0, [], _, _, _, _, rfl, rfl, by simp, by omega, by rfl⟩ (by rfl) ?_
          rintro mm kv H1 ⟨v, X, x2, x7, x39, x68, rfl, rfl, hX, hv, hy⟩
          have tr : ∀ y0 y1 y2 y3 y5 y7 y16 y18 y19 y20 y21 y29 y34 y36 y37 y38 y39 y68 y74 z2 z7 z38 z39 z68 : AV, upd [(0, y0), (1, y1), (2, y2), (3, y3), (5, y5), (7, y7), (16, y16), (18, y18), (19, y19), (20, y20), (21, y21), (29, y29), (34, y34), (36, y36), (37, y37), (38, y38), (39, y39), (68, y68), (74, y74)] [(2, z2), (7, z7), (38, z38), (39, z39), (68, z68)] = [(0, y0), (1, y1), (2, z2), (3, y3), (5, y5), (7, z7), (16, y16), (18, y18), (19, y19), (20, y20), (21, y21), (29, y29), (34, y34), (36, y36), (37, y37), (38, z38), (39, z39), (68, z68), (74, y74)] := fun y0 y1 y2 y3 y5 y7 y16 y18 y19 y20 y21 y29 y34 y36 y37 y38 y39 y68 y74 z2 z7 z38 z39 z68 => rfl
          refine W_to (tr _ _ _ _ _ _ _ _ _ _ _ _ _ _ _ _ _ _ _ _ _ _ _ _) ?_; clear tr
          subst hX
          refine at_seq rfl ?_
          refine rg rfl ?_
          refine Rq ?_
          have tr : ∀ y0 y1 y2 y3 y5 y7 y16 y18 y19 y20 y21 y29 y34 y36 y37 y38 y39 y68 y74 z0 : AV, trim [(39, z0), (0, y0), (1, y1), (2, y2), (3, y3), (5, y5), (7, y7), (16, y16), (18, y18), (19, y19), (20, y20), (21, y21), (29, y29), (34, y34), (36, y36), (37, y37), (38, y38), (39, y39), (68, y68), (74, y74)] [(0, y0), (1, y1), (2, y2), (3, y3), (5, y5), (7, y7), (16, y16), (18, y18), (19, y19), (20, y20), (21, y21), (29, y29), (34, y34), (36, y36), (37, y37), (38, y38), (39, y39), (68, y68), (74, y74)] = [(0, y0), (1, y1), (2, y2), (3, y3), (5, y5), (7, y7), (16, y16), (18, y18), (19, y19), (20, y20), (21, y21), (29, y29), (34, y34), (36, y36), (37, y37), (38, y38), (39, z0), (68, y68), (74, y74)] := fun y0 y1 y2 y3 y5 y7 y16 y18 y19 y20 y21 y29 y34 y36 y37 y38 y39 y68 y74 z0 => rfl
          refine R_nil (tr _ _ _ _ _ _ _ _ _ _ _ _ _ _ _ _ _ _ _ _) ?_; clear tr
          refine then_n ?_
          refine at_seq rfl ?_
          refine cdd (fun h7 => ?_) (fun h7 => ?_)
          · try simp only [decide_eq_true_eq, decide_eq_false_iff_not, Bool.not_eq_true', Bool.not_eq_false', beq_iff_eq, beq_eq_false_iff_ne, ne_eq] at h7
            refine at_skip rfl ?_
            refine then_n ?_
            refine at_seq rfl ?_
            refine at_block rfl ?_
            refine at_seq rfl ?_
            refine rg rfl ?_
            refine Rq ?_
            refine Rq ?_
            refine R_alloc (by simp (disch := first | omega | (simp only [List.length_map, List.length_append, List.length_set, List.length_cons, List.length_nil, List.length_take, List.length_drop]; omega)) only [go_sem, ↓reduceIte, Nat.reduceEqDiff, reduceCtorEq]; rfl) rfl (by simp only [List.map_cons, List.map_nil]; rfl) ?_
            refine R_store ty58 (by simp (disch := first | omega | (simp only [List.length_map, List.length_append, List.length_set, List.length_cons, List.length_nil, List.length_take, List.length_drop]; omega)) only [go_sem, ↓reduceIte, Nat.reduceEqDiff, reduceCtorEq]; rfl) (by simp (disch := first | omega | (simp only [List.length_map, List.length_append, List.length_set, List.length_cons, List.length_nil, List.length_take, List.length_drop]; omega)) only [go_sem, ↓reduceIte, Nat.reduceEqDiff, reduceCtorEq]; rfl) (by simp (disch := first | omega | (simp only [List.length_map, List.length_append, List.length_set, List.length_cons, List.length_nil, List.length_take, List.length_drop]; omega)) only [go_sem, ↓reduceIte, Nat.reduceEqDiff, reduceCtorEq]; rfl) (by simp) (by rfl) (by simp (disch := first | omega | (simp only [List.length_map, List.length_append, List.length_set, List.length_cons, List.length_nil, List.length_take, List.length_drop]; omega)) only [go_sem, ↓reduceIte, Nat.reduceEqDiff, reduceCtorEq]; rfl) ?_
            have tr : ∀ y0 y1 y2 y3 y5 y7 y16 y18 y19 y20 y21 y29 y34 y36 y37 y38 y39 y68 y74 z0 z1 z2 : AV, trim [(7, z2), (41, z1), (40, z0), (0, y0), (1, y1), (2, y2), (3, y3), (5, y5), (7, y7), (16, y16), (18, y18), (19, y19), (20, y20), (21, y21), (29, y29), (34, y34), (36, y36), (37, y37), (38, y38), (39, y39), (68, y68), (74, y74)] [(0, y0), (1, y1), (2, y2), (3, y3), (5, y5), (7, y7), (16, y16), (18, y18), (19, y19), (20, y20), (21, y21), (29, y29), (34, y34), (36, y36), (37, y37), (38, y38), (39, y39), (68, y68), (74, y74)] = [(0, y0), (1, y1), (2, y2), (3, y3), (5, y5), (7, z2), (16, y16), (18, y18), (19, y19), (20, y20), (21, y21), (29, y29), (34, y34), (36, y36), (37, y37), (38, y38), (39, y39), (68, y68), (74, y74)] := fun y0 y1 y2 y3 y5 y7 y16 y18 y19 y20 y21 y29 y34 y36 y37 y38 y39 y68 y74 z0 z1 z2 => rfl
            refine R_nil (tr _ _ _ _ _ _ _ _ _ _ _ _ _ _ _ _ _ _ _ _ _ _) ?_; clear tr
            refine then_n ?_
            refine at_seq rfl ?_
            refine rg rfl ?_
            refine Rq ?_
            refine Rq ?_
            refine Rq ?_
            refine Rq ?_
            refine Rp_split (fun h8 => ?_) (fun h8 => ?_)
            · try simp only [decide_eq_true_eq, decide_eq_false_iff_not, Bool.not_eq_true', Bool.not_eq_false', beq_iff_eq, beq_eq_false_iff_ne, ne_eq] at h8
              refine Rn ?_
              refine Rn ?_
              refine Rn ?_
              refine Rn ?_
              refine Rq ?_
              refine Rq ?_
              refine Rn ?_
              refine Rn ?_
              refine Rn ?_
              refine Rq ?_
              refine Rq ?_
              refine Rn ?_
              refine Rn ?_
              refine Rn ?_
              refine Rn ?_
              refine Rq ?_
              refine Rq ?_
              refine Rn ?_
              refine Rn ?_
              refine Rn ?_
              refine Rn ?_
              refine Rn ?_
              refine Rq ?_
              have tr : ∀ y0 y1 y2 y3 y5 y7 y16 y18 y19 y20 y21 y29 y34 y36 y37 y38 y39 y68 y74 z0 z1 z2 z3 z4 z5 z6 z7 z8 z9 z10 z11 z12 z13 z14 z15 z16 z17 z18 z19 z20 z21 z22 z23 z24 z25 z26 : AV, trim [(68, z26), (67, z25), (66, z24), (65, z23), (64, z22), (63, z21), (62, z20), (61, z19), (60, z18), (59, z17), (58, z16), (57, z15), (56, z14), (55, z13), (54, z12), (53, z11), (52, z10), (51, z9), (50, z8), (49, z7), (48, z6), (47, z5), (46, z4), (45, z3), (44, z2), (43, z1), (42, z0), (0, y0), (1, y1), (2, y2), (3, y3), (5, y5), (7, y7), (16, y16), (18, y18), (19, y19), (20, y20), (21, y21), (29, y29), (34, y34), (36, y36), (37, y37), (38, y38), (39, y39), (68, y68), (74, y74)] [(0, y0), (1, y1), (2, y2), (3, y3), (5, y5), (7, y7), (16, y16), (18, y18), (19, y19), (20, y20), (21, y21), (29, y29), (34, y34), (36, y36), (37, y37), (38, y38), (39, y39), (68, y68), (74, y74)] = [(0, y0), (1, y1), (2, y2), (3, y3), (5, y5), (7, y7), (16, y16), (18, y18), (19, y19), (20, y20), (21, y21), (29, y29), (34, y34), (36, y36), (37, y37), (38, y38), (39, y39), (68, z26), (74, y74)] := fun y0 y1 y2 y3 y5 y7 y16 y18 y19 y20 y21 y29 y34 y36 y37 y38 y39 y68 y74 z0 z1 z2 z3 z4 z5 z6 z7 z8 z9 z10 z11 z12 z13 z14 z15 z16 z17 z18 z19 z20 z21 z22 z23 z24 z25 z26 => rfl
              refine R_nil (tr _ _ _ _ _ _ _ _ _ _ _ _ _ _ _ _ _ _ _ _ _ _ _ _ _ _ _ _ _ _ _ _ _ _ _ _ _ _ _ _ _ _ _ _ _ _) ?_; clear tr
              refine then_n ?_
              refine cdt ?_
              refine at_seq rfl ?_
              refine rg rfl ?_
              refine Rq ?_
              have tr : ∀ y0 y1 y2 y3 y5 y7 y16 y18 y19 y20 y21 y29 y34 y36 y37 y38 y39 y68 y74 z0 : AV, trim [(2, z0), (0, y0), (1, y1), (2, y2), (3, y3), (5, y5), (7, y7), (16, y16), (18, y18), (19, y19), (20, y20), (21, y21), (29, y29), (34, y34), (36, y36), (37, y37), (38, y38), (39, y39), (68, y68), (74, y74)] [(0, y0), (1, y1), (2, y2), (3, y3), (5, y5), (7, y7), (16, y16), (18, y18), (19, y19), (20, y20), (21, y21), (29, y29), (34, y34), (36, y36), (37, y37), (38, y38), (39, y39), (68, y68), (74, y74)] = [(0, y0), (1, y1), (2, z0), (3, y3), (5, y5), (7, y7), (16, y16), (18, y18), (19, y19), (20, y20), (21, y21), (29, y29), (34, y34), (36, y36), (37, y37), (38, y38), (39, y39), (68, y68), (74, y74)] := fun y0 y1 y2 y3 y5 y7 y16 y18 y19 y20 y21 y29 y34 y36 y37 y38 y39 y68 y74 z0 => rfl
              refine R_nil (tr _ _ _ _ _ _ _ _ _ _ _ _ _ _ _ _ _ _ _ _) ?_; clear tr
              refine then_n ?_
              refine at_ret rfl ?_
              refine blk_r ?_
              refine then_r ?_
              refine then_r ?_
              refine blk_r ?_
              refine then_r ?_
              refine fpure ?_
              refine ⟨?_, rfl⟩
              have hse : prErr P.length (gt L v) = 1 := by unfold prErr; rw [if_pos (by omega)]
              have hfe : ferr (fun i => prErr P.length (gt L i)) L.length = 1 := by rw [ferr_at hy (by omega) _ (by omega), hse]
              rw [rchkS, if_neg (by omega), if_neg (by omega), if_neg (by omega), if_pos (by omega), hfe]
            · try simp only [decide_eq_true_eq, decide_eq_false_iff_not, Bool.not_eq_true', Bool.not_eq_false', beq_iff_eq, beq_eq_false_iff_ne, ne_eq] at h8
              refine Ry ?_
              refine Rq ?_
              refine Ry ?_
              refine Rq ?_
              refine Ry ?_
              refine Rq ?_
              refine Ry ?_
              refine Rq ?_
              refine Rq ?_
              refine Rq ?_
              refine Rp_split (fun h9 => ?_) (fun h9 => ?_)
              · try simp only [decide_eq_true_eq, decide_eq_false_iff_not, Bool.not_eq_true', Bool.not_eq_false', beq_iff_eq, beq_eq_false_iff_ne, ne_eq] at h9
                refine Rn ?_
                refine Rn ?_
                refine Rn ?_
                refine Rq ?_
                refine Rq ?_
                refine Rn ?_
                refine Rn ?_
                refine Rn ?_
                refine Rn ?_
                refine Rq ?_
                refine Rq ?_
                refine Rn ?_
                refine Rn ?_
                refine Rn ?_
                refine Rn ?_
                refine Rn ?_
                refine Rq ?_
                have tr : ∀ y0 y1 y2 y3 y5 y7 y16 y18 y19 y20 y21 y29 y34 y36 y37 y38 y39 y68 y74 z0 z1 z2 z3 z4 z5 z6 z7 z8 z9 z10 z11 z12 z13 z14 z15 z16 z17 z18 z19 z20 z21 z22 z23 z24 z25 z26 : AV, trim [(68, z26), (67, z25), (66, z24), (65, z23), (64, z22), (63, z21), (62, z20), (61, z19), (60, z18), (59, z17), (58, z16), (57, z15), (56, z14), (55, z13), (54, z12), (53, z11), (52, z10), (51, z9), (50, z8), (49, z7), (48, z6), (47, z5), (46, z4), (45, z3), (44, z2), (43, z1), (42, z0), (0, y0), (1, y1), (2, y2), (3, y3), (5, y5), (7, y7), (16, y16), (18, y18), (19, y19), (20, y20), (21, y21), (29, y29), (34, y34), (36, y36), (37, y37), (38, y38), (39, y39), (68, y68), (74, y74)] [(0, y0), (1, y1), (2, y2), (3, y3), (5, y5), (7, y7), (16, y16), (18, y18), (19, y19), (20, y20), (21, y21), (29, y29), (34, y34), (36, y36), (37, y37), (38, y38), (39, y39), (68, y68), (74, y74)] = [(0, y0), (1, y1), (2, y2), (3, y3), (5, y5), (7, y7), (16, y16), (18, y18), (19, y19), (20, y20), (21, y21), (29, y29), (34, y34), (36, y36), (37, y37), (38, y38), (39, y39), (68, z26), (74, y74)] := fun y0 y1 y2 y3 y5 y7 y16 y18 y19 y20 y21 y29 y34 y36 y37 y38 y39 y68 y74 z0 z1 z2 z3 z4 z5 z6 z7 z8 z9 z10 z11 z12 z13 z14 z15 z16 z17 z18 z19 z20 z21 z22 z23 z24 z25 z26 => rfl
                refine R_nil (tr _ _ _ _ _ _ _ _ _ _ _ _ _ _ _ _ _ _ _ _ _ _ _ _ _ _ _ _ _ _ _ _ _ _ _ _ _ _ _ _ _ _ _ _ _ _) ?_; clear tr
                refine then_n ?_
                refine cdt ?_
                refine at_seq rfl ?_
                refine rg rfl ?_
                refine Rq ?_
                have tr : ∀ y0 y1 y2 y3 y5 y7 y16 y18 y19 y20 y21 y29 y34 y36 y37 y38 y39 y68 y74 z0 : AV, trim [(2, z0), (0, y0), (1, y1), (2, y2), (3, y3), (5, y5), (7, y7), (16, y16), (18, y18), (19, y19), (20, y20), (21, y21), (29, y29), (34, y34), (36, y36), (37, y37), (38, y38), (39, y39), (68, y68), (74, y74)] [(0, y0), (1, y1), (2, y2), (3, y3), (5, y5), (7, y7), (16, y16), (18, y18), (19, y19), (20, y20), (21, y21), (29, y29), (34, y34), (36, y36), (37, y37), (38, y38), (39, y39), (68, y68), (74, y74)] = [(0, y0), (1, y1), (2, z0), (3, y3), (5, y5), (7, y7), (16, y16), (18, y18), (19, y19), (20, y20), (21, y21), (29, y29), (34, y34), (36, y36), (37, y37), (38, y38), (39, y39), (68, y68), (74, y74)] := fun y0 y1 y2 y3 y5 y7 y16 y18 y19 y20 y21 y29 y34 y36 y37 y38 y39 y68 y74 z0 => rfl
                refine R_nil (tr _ _ _ _ _ _ _ _ _ _ _ _ _ _ _ _ _ _ _ _) ?_; clear tr
                refine then_n ?_
                refine at_ret rfl ?_
                refine blk_r ?_
                refine then_r ?_
                refine then_r ?_
                refine blk_r ?_
                refine then_r ?_
                refine fpure ?_
                refine ⟨?_, rfl⟩
                have hse : prErr P.length (gt L v) = 1 := by unfold prErr; rw [if_pos (by omega)]
                have hfe : ferr (fun i => prErr P.length (gt L i)) L.length = 1 := by rw [ferr_at hy (by omega) _ (by omega), hse]
                rw [rchkS, if_neg (by omega), if_neg (by omega), if_neg (by omega), if_pos (by omega), hfe]
              · try simp only [decide_eq_true_eq, decide_eq_false_iff_not, Bool.not_eq_true', Bool.not_eq_false', beq_iff_eq, beq_eq_false_iff_ne, ne_eq] at h9
                refine Ry ?_
                refine Rq ?_
                refine Ry ?_
                refine Rq ?_
                refine Ry ?_
                refine Rq ?_
                refine Rq ?_
                refine Rq ?_
                refine Rp_split (fun h10 => ?_) (fun h10 => ?_)
                · try simp only [decide_eq_true_eq, decide_eq_false_iff_not, Bool.not_eq_true', Bool.not_eq_false', beq_iff_eq, beq_eq_false_iff_ne, ne_eq] at h10
                  refine Rn ?_
                  refine Rn ?_
                  refine Rn ?_
                  refine Rn ?_
                  refine Rq ?_
                  refine Rq ?_
                  refine Rn ?_
                  refine Rn ?_
                  refine Rn ?_
                  refine Rn ?_
                  refine Rn ?_
                  refine Rq ?_
                  have tr : ∀ y0 y1 y2 y3 y5 y7 y16 y18 y19 y20 y21 y29 y34 y36 y37 y38 y39 y68 y74 z0 z1 z2 z3 z4 z5 z6 z7 z8 z9 z10 z11 z12 z13 z14 z15 z16 z17 z18 z19 z20 z21 z22 z23 z24 z25 z26 : AV, trim [(68, z26), (67, z25), (66, z24), (65, z23), (64, z22), (63, z21), (62, z20), (61, z19), (60, z18), (59, z17), (58, z16), (57, z15), (56, z14), (55, z13), (54, z12), (53, z11), (52, z10), (51, z9), (50, z8), (49, z7), (48, z6), (47, z5), (46, z4), (45, z3), (44, z2), (43, z1), (42, z0), (0, y0), (1, y1), (2, y2), (3, y3), (5, y5), (7, y7), (16, y16), (18, y18), (19, y19), (20, y20), (21, y21), (29, y29), (34, y34), (36, y36), (37, y37), (38, y38), (39, y39), (68, y68), (74, y74)] [(0, y0), (1, y1), (2, y2), (3, y3), (5, y5), (7, y7), (16, y16), (18, y18), (19, y19), (20, y20), (21, y21), (29, y29), (34, y34), (36, y36), (37, y37), (38, y38), (39, y39), (68, y68), (74, y74)] = [(0, y0), (1, y1), (2, y2), (3, y3), (5, y5), (7, y7), (16, y16), (18, y18), (19, y19), (20, y20), (21, y21), (29, y29), (34, y34), (36, y36), (37, y37), (38, y38), (39, y39), (68, z26), (74, y74)] := fun y0 y1 y2 y3 y5 y7 y16 y18 y19 y20 y21 y29 y34 y36 y37 y38 y39 y68 y74 z0 z1 z2 z3 z4 z5 z6 z7 z8 z9 z10 z11 z12 z13 z14 z15 z16 z17 z18 z19 z20 z21 z22 z23 z24 z25 z26 => rfl
                  refine R_nil (tr _ _ _ _ _ _ _ _ _ _ _ _ _ _ _ _ _ _ _ _ _ _ _ _ _ _ _ _ _ _ _ _ _ _ _ _ _ _ _ _ _ _ _ _ _ _) ?_; clear tr
                  refine then_n ?_
                  refine cdt ?_
                  refine at_seq rfl ?_
                  refine rg rfl ?_
                  refine Rq ?_
                  have tr : ∀ y0 y1 y2 y3 y5 y7 y16 y18 y19 y20 y21 y29 y34 y36 y37 y38 y39 y68 y74 z0 : AV, trim [(2, z0), (0, y0), (1, y1), (2, y2), (3, y3), (5, y5), (7, y7), (16, y16), (18, y18), (19, y19), (20, y20), (21, y21), (29, y29), (34, y34), (36, y36), (37, y37), (38, y38), (39, y39), (68, y68), (74, y74)] [(0, y0), (1, y1), (2, y2), (3, y3), (5, y5), (7, y7), (16, y16), (18, y18), (19, y19), (20, y20), (21, y21), (29, y29), (34, y34), (36, y36), (37, y37), (38, y38), (39, y39), (68, y68), (74, y74)] = [(0, y0), (1, y1), (2, z0), (3, y3), (5, y5), (7, y7), (16, y16), (18, y18), (19, y19), (20, y20), (21, y21), (29, y29), (34, y34), (36, y36), (37, y37), (38, y38), (39, y39), (68, y68), (74, y74)] := fun y0 y1 y2 y3 y5 y7 y16 y18 y19 y20 y21 y29 y34 y36 y37 y38 y39 y68 y74 z0 => rfl
                  refine R_nil (tr _ _ _ _ _ _ _ _ _ _ _ _ _ _ _ _ _ _ _ _) ?_; clear tr
                  refine then_n ?_
                  refine at_ret rfl ?_
                  refine blk_r ?_
                  refine then_r ?_
                  refine then_r ?_
                  refine blk_r ?_
                  refine then_r ?_
                  refine fpure ?_
                  refine ⟨?_, rfl⟩
                  have hse : prErr P.length (gt L v) = 1 := by unfold prErr; rw [if_pos (by omega)]
                  have hfe : ferr (fun i => prErr P.length (gt L i)) L.length = 1 := by rw [ferr_at hy (by omega) _ (by omega), hse]
                  rw [rchkS, if_neg (by omega), if_neg (by omega), if_neg (by omega), if_pos (by omega), hfe]
                · try simp only [decide_eq_true_eq, decide_eq_false_iff_not, Bool.not_eq_true', Bool.not_eq_false', beq_iff_eq, beq_eq_false_iff_ne, ne_eq] at h10
                  refine Ry ?_
                  refine Rq ?_
                  refine Ry ?_
                  refine Rq ?_
                  refine Ry ?_
                  refine Rq ?_
                  refine Ry ?_
                  refine Rq ?_
                  refine Rq ?_
                  refine Rq ?_
                  refine Rp_split (fun h11 => ?_) (fun h11 => ?_)
                  · try simp only [decide_eq_true_eq, decide_eq_false_iff_not, Bool.not_eq_true', Bool.not_eq_false', beq_iff_eq, beq_eq_false_iff_ne, ne_eq] at h11
                    refine Rn ?_
                    refine Rn ?_
                    refine Rn ?_
                    refine Rn ?_
                    refine Rn ?_
                    refine Rq ?_
                    have tr : ∀ y0 y1 y2 y3 y5 y7 y16 y18 y19 y20 y21 y29 y34 y36 y37 y38 y39 y68 y74 z0 z1 z2 z3 z4 z5 z6 z7 z8 z9 z10 z11 z12 z13 z14 z15 z16 z17 z18 z19 z20 z21 z22 z23 z24 z25 z26 : AV, trim [(68, z26), (67, z25), (66, z24), (65, z23), (64, z22), (63, z21), (62, z20), (61, z19), (60, z18), (59, z17), (58, z16), (57, z15), (56, z14), (55, z13), (54, z12), (53, z11), (52, z10), (51, z9), (50, z8), (49, z7), (48, z6), (47, z5), (46, z4), (45, z3), (44, z2), (43, z1), (42, z0), (0, y0), (1, y1), (2, y2), (3, y3), (5, y5), (7, y7), (16, y16), (18, y18), (19, y19), (20, y20), (21, y21), (29, y29), (34, y34), (36, y36), (37, y37), (38, y38), (39, y39), (68, y68), (74, y74)] [(0, y0), (1, y1), (2, y2), (3, y3), (5, y5), (7, y7), (16, y16), (18, y18), (19, y19), (20, y20), (21, y21), (29, y29), (34, y34), (36, y36), (37, y37), (38, y38), (39, y39), (68, y68), (74, y74)] = [(0, y0), (1, y1), (2, y2), (3, y3), (5, y5), (7, y7), (16, y16), (18, y18), (19, y19), (20, y20), (21, y21), (29, y29), (34, y34), (36, y36), (37, y37), (38, y38), (39, y39), (68, z26), (74, y74)] := fun y0 y1 y2 y3 y5 y7 y16 y18 y19 y20 y21 y29 y34 y36 y37 y38 y39 y68 y74 z0 z1 z2 z3 z4 z5 z6 z7 z8 z9 z10 z11 z12 z13 z14 z15 z16 z17 z18 z19 z20 z21 z22 z23 z24 z25 z26 => rfl
                    refine R_nil (tr _ _ _ _ _ _ _ _ _ _ _ _ _ _ _ _ _ _ _ _ _ _ _ _ _ _ _ _ _ _ _ _ _ _ _ _ _ _ _ _ _ _ _ _ _ _) ?_; clear tr
                    refine then_n ?_
                    refine cdt ?_
                    refine at_seq rfl ?_
                    refine rg rfl ?_
                    refine Rq ?_
                    have tr : ∀ y0 y1 y2 y3 y5 y7 y16 y18 y19 y20 y21 y29 y34 y36 y37 y38 y39 y68 y74 z0 : AV, trim [(2, z0), (0, y0), (1, y1), (2, y2), (3, y3), (5, y5), (7, y7), (16, y16), (18, y18), (19, y19), (20, y20), (21, y21), (29, y29), (34, y34), (36, y36), (37, y37), (38, y38), (39, y39), (68, y68), (74, y74)] [(0, y0), (1, y1), (2, y2), (3, y3), (5, y5), (7, y7), (16, y16), (18, y18), (19, y19), (20, y20), (21, y21), (29, y29), (34, y34), (36, y36), (37, y37), (38, y38), (39, y39), (68, y68), (74, y74)] = [(0, y0), (1, y1), (2, z0), (3, y3), (5, y5), (7, y7), (16, y16), (18, y18), (19, y19), (20, y20), (21, y21), (29, y29), (34, y34), (36, y36), (37, y37), (38, y38), (39, y39), (68, y68), (74, y74)] := fun y0 y1 y2 y3 y5 y7 y16 y18 y19 y20 y21 y29 y34 y36 y37 y38 y39 y68 y74 z0 => rfl
                    refine R_nil (tr _ _ _ _ _ _ _ _ _ _ _ _ _ _ _ _ _ _ _ _) ?_; clear tr
                    refine then_n ?_
                    refine at_ret rfl ?_
                    refine blk_r ?_
                    refine then_r ?_
                    refine then_r ?_
                    refine blk_r ?_
                    refine then_r ?_
                    refine fpure ?_
                    refine ⟨?_, rfl⟩
                    have hse : prErr P.length (gt L v) = 1 := by unfold prErr; rw [if_pos (by omega)]
                    have hfe : ferr (fun i => prErr P.length (gt L i)) L.length = 1 := by rw [ferr_at hy (by omega) _ (by omega), hse]
                    rw [rchkS, if_neg (by omega), if_neg (by omega), if_neg (by omega), if_pos (by omega), hfe]
                  · try simp only [decide_eq_true_eq, decide_eq_false_iff_not, Bool.not_eq_true', Bool.not_eq_false', beq_iff_eq, beq_eq_false_iff_ne, ne_eq] at h11
                    refine Ry ?_
                    refine Rq ?_
                    refine Ry ?_
                    refine Rq ?_
                    refine Ry ?_
                    refine Rq ?_
                    refine Ry ?_
                    refine Rq ?_
                    refine Ry ?_
                    refine Rq ?_
                    refine Rq ?_
                    have tr : ∀ y0 y1 y2 y3 y5 y7 y16 y18 y19 y20 y21 y29 y34 y36 y37 y38 y39 y68 y74 z0 z1 z2 z3 z4 z5 z6 z7 z8 z9 z10 z11 z12 z13 z14 z15 z16 z17 z18 z19 z20 z21 z22 z23 z24 z25 z26 : AV, trim [(68, z26), (67, z25), (66, z24), (65, z23), (64, z22), (63, z21), (62, z20), (61, z19), (60, z18), (59, z17), (58, z16), (57, z15), (56, z14), (55, z13), (54, z12), (53, z11), (52, z10), (51, z9), (50, z8), (49, z7), (48, z6), (47, z5), (46, z4), (45, z3), (44, z2), (43, z1), (42, z0), (0, y0), (1, y1), (2, y2), (3, y3), (5, y5), (7, y7), (16, y16), (18, y18), (19, y19), (20, y20), (21, y21), (29, y29), (34, y34), (36, y36), (37, y37), (38, y38), (39, y39), (68, y68), (74, y74)] [(0, y0), (1, y1), (2, y2), (3, y3), (5, y5), (7, y7), (16, y16), (18, y18), (19, y19), (20, y20), (21, y21), (29, y29), (34, y34), (36, y36), (37, y37), (38, y38), (39, y39), (68, y68), (74, y74)] = [(0, y0), (1, y1), (2, y2), (3, y3), (5, y5), (7, y7), (16, y16), (18, y18), (19, y19), (20, y20), (21, y21), (29, y29), (34, y34), (36, y36), (37, y37), (38, y38), (39, y39), (68, z26), (74, y74)] := fun y0 y1 y2 y3 y5 y7 y16 y18 y19 y20 y21 y29 y34 y36 y37 y38 y39 y68 y74 z0 z1 z2 z3 z4 z5 z6 z7 z8 z9 z10 z11 z12 z13 z14 z15 z16 z17 z18 z19 z20 z21 z22 z23 z24 z25 z26 => rfl
                    refine R_nil (tr _ _ _ _ _ _ _ _ _ _ _ _ _ _ _ _ _ _ _ _ _ _ _ _ _ _ _ _ _ _ _ _ _ _ _ _ _ _ _ _ _ _ _ _ _ _) ?_; clear tr
                    refine then_n ?_
                    refine cdd (fun h12 => ?_) (fun h12 => ?_)
                    · try simp only [decide_eq_true_eq, decide_eq_false_iff_not, Bool.not_eq_true', Bool.not_eq_false', beq_iff_eq, beq_eq_false_iff_ne, ne_eq] at h12
                      refine at_seq rfl ?_
                      refine rg rfl ?_
                      refine Rq ?_
                      have tr : ∀ y0 y1 y2 y3 y5 y7 y16 y18 y19 y20 y21 y29 y34 y36 y37 y38 y39 y68 y74 z0 : AV, trim [(2, z0), (0, y0), (1, y1), (2, y2), (3, y3), (5, y5), (7, y7), (16, y16), (18, y18), (19, y19), (20, y20), (21, y21), (29, y29), (34, y34), (36, y36), (37, y37), (38, y38), (39, y39), (68, y68), (74, y74)] [(0, y0), (1, y1), (2, y2), (3, y3), (5, y5), (7, y7), (16, y16), (18, y18), (19, y19), (20, y20), (21, y21), (29, y29), (34, y34), (36, y36), (37, y37), (38, y38), (39, y39), (68, y68), (74, y74)] = [(0, y0), (1, y1), (2, z0), (3, y3), (5, y5), (7, y7), (16, y16), (18, y18), (19, y19), (20, y20), (21, y21), (29, y29), (34, y34), (36, y36), (37, y37), (38, y38), (39, y39), (68, y68), (74, y74)] := fun y0 y1 y2 y3 y5 y7 y16 y18 y19 y20 y21 y29 y34 y36 y37 y38 y39 y68 y74 z0 => rfl
                      refine R_nil (tr _ _ _ _ _ _ _ _ _ _ _ _ _ _ _ _ _ _ _ _) ?_; clear tr
                      refine then_n ?_
                      refine at_ret rfl ?_
                      refine blk_r ?_
                      refine then_r ?_
                      refine then_r ?_
                      refine blk_r ?_
                      refine then_r ?_
                      refine fpure ?_
                      refine ⟨?_, rfl⟩
                      have hse : prErr P.length (gt L v) = 1 := by unfold prErr; rw [if_pos (by omega)]
                      have hfe : ferr (fun i => prErr P.length (gt L i)) L.length = 1 := by rw [ferr_at hy (by omega) _ (by omega), hse]
                      rw [rchkS, if_neg (by omega), if_neg (by omega), if_neg (by omega), if_pos (by omega), hfe]
                    · try simp only [decide_eq_true_eq, decide_eq_false_iff_not, Bool.not_eq_true', Bool.not_eq_false', beq_iff_eq, beq_eq_false_iff_ne, ne_eq] at h12
                      refine at_skip rfl ?_
                      refine blk_n ?_
                      refine then_n ?_
                      refine rg rfl ?_
                      refine Rq ?_
                      refine Rq ?_
                      have tr : ∀ y0 y1 y2 y3 y5 y7 y16 y18 y19 y20 y21 y29 y34 y36 y37 y38 y39 y68 y74 z0 z1 : AV, trim [(38, z1), (69, z0), (0, y0), (1, y1), (2, y2), (3, y3), (5, y5), (7, y7), (16, y16), (18, y18), (19, y19), (20, y20), (21, y21), (29, y29), (34, y34), (36, y36), (37, y37), (38, y38), (39, y39), (68, y68), (74, y74)] [(0, y0), (1, y1), (2, y2), (3, y3), (5, y5), (7, y7), (16, y16), (18, y18), (19, y19), (20, y20), (21, y21), (29, y29), (34, y34), (36, y36), (37, y37), (38, y38), (39, y39), (68, y68), (74, y74)] = [(0, y0), (1, y1), (2, y2), (3, y3), (5, y5), (7, y7), (16, y16), (18, y18), (19, y19), (20, y20), (21, y21), (29, y29), (34, y34), (36, y36), (37, y37), (38, z1), (39, y39), (68, y68), (74, y74)] := fun y0 y1 y2 y3 y5 y7 y16 y18 y19 y20 y21 y29 y34 y36 y37 y38 y39 y68 y74 z0 z1 => rfl
                      refine R_nil (tr _ _ _ _ _ _ _ _ _ _ _ _ _ _ _ _ _ _ _ _ _) ?_; clear tr
                      refine then_n ?_
                      exact ⟨_, _, ⟨v + 1, X ++ [some (prC (gt L v))], _, _, _, _, rfl, rfl, by simp; rfl, by omega, by exact ferr_ok hy (by show prErr P.length (gt L v) = 0; unfold prErr; rw [if_neg (by omega)])⟩, by rfl, by omega⟩
          · try simp only [decide_eq_true_eq, decide_eq_false_iff_not, Bool.not_eq_true', Bool.not_eq_false', beq_iff_eq, beq_eq_false_iff_ne, ne_eq] at h7
            refine at_exit rfl ?_
            refine then_x ?_
            refine then_x ?_
            refine blk_x ?_
            refine then_n ?_
            refine at_seq rfl ?_
            refine at_seq rfl ?_
            refine rg rfl ?_
            have hye : ferr (fun i => prErr P.length (gt L i)) L.length = 0 := by rw [show L.length = v by omega]; exact hy
            refine Rq ?_
            refine Rq ?_
            refine Rcall ?_
            refine ACall_eq (pairs_ok _ _ L (by omega)) ?_
            refine R_q rfl (by simp (disch := first | omega | (simp only [List.length_map, List.length_append, List.length_set, List.length_cons, List.length_nil, List.length_take, List.length_drop]; omega)) only [go_sem, ↓reduceIte, Nat.reduceEqDiff, reduceCtorEq]; exact pairsA_len L) ?_
            refine Rq ?_
            have tr : ∀ y0 y1 y2 y3 y5 y7 y16 y18 y19 y20 y21 y29 y34 y36 y37 y38 y39 y68 y74 z0 z1 z2 z3 z4 : AV, trim [(74, z4), (73, z3), (72, z2), (71, z1), (70, z0), (0, y0), (1, y1), (2, y2), (3, y3), (5, y5), (7, y7), (16, y16), (18, y18), (19, y19), (20, y20), (21, y21), (29, y29), (34, y34), (36, y36), (37, y37), (38, y38), (39, y39), (68, y68), (74, y74)] [(0, y0), (1, y1), (2, y2), (3, y3), (5, y5), (7, y7), (16, y16), (18, y18), (19, y19), (20, y20), (21, y21), (29, y29), (34, y34), (36, y36), (37, y37), (38, y38), (39, y39), (68, y68), (74, y74)] = [(0, y0), (1, y1), (2, y2), (3, y3), (5, y5), (7, y7), (16, y16), (18, y18), (19, y19), (20, y20), (21, y21), (29, y29), (34, y34), (36, y36), (37, y37), (38, y38), (39, y39), (68, y68), (74, z4)] := fun y0 y1 y2 y3 y5 y7 y16 y18 y19 y20 y21 y29 y34 y36 y37 y38 y39 y68 y74 z0 z1 z2 z3 z4 => rfl
            refine R_nil (tr _ _ _ _ _ _ _ _ _ _ _ _ _ _ _ _ _ _ _ _ _ _ _ _) ?_; clear tr
            refine then_n ?_
            refine cdd (fun h13 => ?_) (fun h13 => ?_)
            · try simp only [decide_eq_true_eq, decide_eq_false_iff_not, Bool.not_eq_true', Bool.not_eq_false', beq_iff_eq, beq_eq_false_iff_ne, ne_eq] at h13
              refine at_seq rfl ?_
              refine rg rfl ?_
              refine Rq ?_
              have tr : ∀ y0 y1 y2 y3 y5 y7 y16 y18 y19 y20 y21 y29 y34 y36 y37 y38 y39 y68 y74 z0 : AV, trim [(2, z0), (0, y0), (1, y1), (2, y2), (3, y3), (5, y5), (7, y7), (16, y16), (18, y18), (19, y19), (20, y20), (21, y21), (29, y29), (34, y34), (36, y36), (37, y37), (38, y38), (39, y39), (68, y68), (74, y74)] [(0, y0), (1, y1), (2, y2), (3, y3), (5, y5), (7, y7), (16, y16), (18, y18), (19, y19), (20, y20), (21, y21), (29, y29), (34, y34), (36, y36), (37, y37), (38, y38), (39, y39), (68, y68), (74, y74)] = [(0, y0), (1, y1), (2, z0), (3, y3), (5, y5), (7, y7), (16, y16), (18, y18), (19, y19), (20, y20), (21, y21), (29, y29), (34, y34), (36, y36), (37, y37), (38, y38), (39, y39), (68, y68), (74, y74)] := fun y0 y1 y2 y3 y5 y7 y16 y18 y19 y20 y21 y29 y34 y36 y37 y38 y39 y68 y74 z0 => rfl
              refine R_nil (tr _ _ _ _ _ _ _ _ _ _ _ _ _ _ _ _ _ _ _ _) ?_; clear tr
              refine then_n ?_
              refine at_ret rfl ?_
              refine then_r ?_
              refine fpure ?_
              refine ⟨?_, rfl⟩
              rw [rchkS, if_neg (by omega), if_neg (by omega), if_neg (by omega), if_neg (by omega), if_pos (by omega)]
            · try simp only [decide_eq_true_eq, decide_eq_false_iff_not, Bool.not_eq_true', Bool.not_eq_false', beq_iff_eq, beq_eq_false_iff_ne, ne_eq] at h13
              refine at_skip rfl ?_
              refine then_n ?_
              refine at_seq rfl ?_
              refine rg rfl ?_
              refine Rq ?_
              have tr : ∀ y0 y1 y2 y3 y5 y7 y16 y18 y19 y20 y21 y29 y34 y36 y37 y38 y39 y68 y74 z0 : AV, trim [(2, z0), (0, y0), (1, y1), (2, y2), (3, y3), (5, y5), (7, y7), (16, y16), (18, y18), (19, y19), (20, y20), (21, y21), (29, y29), (34, y34), (36, y36), (37, y37), (38, y38), (39, y39), (68, y68), (74, y74)] [(0, y0), (1, y1), (2, y2), (3, y3), (5, y5), (7, y7), (16, y16), (18, y18), (19, y19), (20, y20), (21, y21), (29, y29), (34, y34), (36, y36), (37, y37), (38, y38), (39, y39), (68, y68), (74, y74)] = [(0, y0), (1, y1), (2, z0), (3, y3), (5, y5), (7, y7), (16, y16), (18, y18), (19, y19), (20, y20), (21, y21), (29, y29), (34, y34), (36, y36), (37, y37), (38, y38), (39, y39), (68, y68), (74, y74)] := fun y0 y1 y2 y3 y5 y7 y16 y18 y19 y20 y21 y29 y34 y36 y37 y38 y39 y68 y74 z0 => rfl
              refine R_nil (tr _ _ _ _ _ _ _ _ _ _ _ _ _ _ _ _ _ _ _ _) ?_; clear tr
              refine then_n ?_
              refine at_ret rfl ?_
              refine fpure ?_
              refine ⟨?_, rfl⟩
              rw [rchkS, if_neg (by omega), if_neg (by omega), if_neg (by omega), if_neg (by omega), if_neg (by omega)]

theorem rchk53_ok (lim : Nat) (H : Heap) (P : List Int) (L : List Pr) :
    ACall sig lim 43 [.agg (raceC P L)] H fun r H' => r = AV.i (rchkS P L) ∧ H' = H := by
  refine ACall_pure (fa := fa43) rfl rfl rfl rfl ?_
  have tr : ∀ a0 : AV, env0 fa43.keep [a0] = [(0, a0), (1, .any), (2, .any), (3, .any), (5, .any), (7, .any), (8, .any), (18, .any), (20, .any), (21, .any), (22, .any), (23, .any), (31, .any), (36, .any), (38, .any), (39, .any), (40, .any), (41, .any), (70, .any), (79, .any)] := fun a0 => rfl
  refine W_to (tr _) ?_; clear tr
  refine at_seq rfl ?_
  refine rg rfl ?_
  refine R_box rfl (by simp (disch := first | omega | (simp only [List.length_map, List.length_append, List.length_set, List.length_cons, List.length_nil, List.length_take, List.length_drop]; omega)) only [go_sem, ↓reduceIte, Nat.reduceEqDiff, reduceCtorEq]; rfl) rfl rfl ?_
  refine Rq ?_
  have tr : ∀ y0 y1 y2 y3 y5 y7 y8 y18 y20 y21 y22 y23 y31 y36 y38 y39 y40 y41 y70 y79 z0 z1 : AV, trim [(2, z1), (1, z0), (0, y0), (1, y1), (2, y2), (3, y3), (5, y5), (7, y7), (8, y8), (18, y18), (20, y20), (21, y21), (22, y22), (23, y23), (31, y31), (36, y36), (38, y38), (39, y39), (40, y40), (41, y41), (70, y70), (79, y79)] [(0, y0), (1, y1), (2, y2), (3, y3), (5, y5), (7, y7), (8, y8), (18, y18), (20, y20), (21, y21), (22, y22), (23, y23), (31, y31), (36, y36), (38, y38), (39, y39), (40, y40), (41, y41), (70, y70), (79, y79)] = [(0, y0), (1, z0), (2, z1), (3, y3), (5, y5), (7, y7), (8, y8), (18, y18), (20, y20), (21, y21), (22, y22), (23, y23), (31, y31), (36, y36), (38, y38), (39, y39), (40, y40), (41, y41), (70, y70), (79, y79)] := fun y0 y1 y2 y3 y5 y7 y8 y18 y20 y21 y22 y23 y31 y36 y38 y39 y40 y41 y70 y79 z0 z1 => rfl
  refine R_nil (tr _ _ _ _ _ _ _ _ _ _ _ _ _ _ _ _ _ _ _ _ _ _) ?_; clear tr
  refine then_n ?_
  refine at_seq rfl ?_
  refine rg rfl ?_
  refine Rq ?_
  refine Rq ?_
  refine Rq ?_
  refine Rq ?_
  have tr : ∀ y0 y1 y2 y3 y5 y7 y8 y18 y20 y21 y22 y23 y31 y36 y38 y39 y40 y41 y70 y79 z0 z1 z2 z3 : AV, trim [(3, z3), (12, z2), (11, z1), (10, z0), (0, y0), (1, y1), (2, y2), (3, y3), (5, y5), (7, y7), (8, y8), (18, y18), (20, y20), (21, y21), (22, y22), (23, y23), (31, y31), (36, y36), (38, y38), (39, y39), (40, y40), (41, y41), (70, y70), (79, y79)] [(0, y0), (1, y1), (2, y2), (3, y3), (5, y5), (7, y7), (8, y8), (18, y18), (20, y20), (21, y21), (22, y22), (23, y23), (31, y31), (36, y36), (38, y38), (39, y39), (40, y40), (41, y41), (70, y70), (79, y79)] = [(0, y0), (1, y1), (2, y2), (3, z3), (5, y5), (7, y7), (8, y8), (18, y18), (20, y20), (21, y21), (22, y22), (23, y23), (31, y31), (36, y36), (38, y38), (39, y39), (40, y40), (41, y41), (70, y70), (79, y79)] := fun y0 y1 y2 y3 y5 y7 y8 y18 y20 y21 y22 y23 y31 y36 y38 y39 y40 y41 y70 y79 z0 z1 z2 z3 => rfl
  refine R_nil (tr _ _ _ _ _ _ _ _ _ _ _ _ _ _ _ _ _ _ _ _ _ _ _ _) ?_; clear tr
  refine then_n ?_
  refine at_seq rfl ?_
  refine at_seq rfl ?_
  refine rg rfl ?_
  refine Rq ?_
  refine Rq ?_
  refine Rq ?_
  refine Rp_split (fun h1 => ?_) (fun h1 => ?_)
  · try simp only [decide_eq_true_eq, decide_eq_false_iff_not, Bool.not_eq_true', Bool.not_eq_false', beq_iff_eq, beq_eq_false_iff_ne, ne_eq] at h1
    refine Rn ?_
    refine Rn ?_
    refine Rq ?_
    have tr : ∀ y0 y1 y2 y3 y5 y7 y8 y18 y20 y21 y22 y23 y31 y36 y38 y39 y40 y41 y70 y79 z0 z1 z2 z3 z4 z5 : AV, trim [(18, z5), (17, z4), (16, z3), (15, z2), (14, z1), (13, z0), (0, y0), (1, y1), (2, y2), (3, y3), (5, y5), (7, y7), (8, y8), (18, y18), (20, y20), (21, y21), (22, y22), (23, y23), (31, y31), (36, y36), (38, y38), (39, y39), (40, y40), (41, y41), (70, y70), (79, y79)] [(0, y0), (1, y1), (2, y2), (3, y3), (5, y5), (7, y7), (8, y8), (18, y18), (20, y20), (21, y21), (22, y22), (23, y23), (31, y31), (36, y36), (38, y38), (39, y39), (40, y40), (41, y41), (70, y70), (79, y79)] = [(0, y0), (1, y1), (2, y2), (3, y3), (5, y5), (7, y7), (8, y8), (18, z5), (20, y20), (21, y21), (22, y22), (23, y23), (31, y31), (36, y36), (38, y38), (39, y39), (40, y40), (41, y41), (70, y70), (79, y79)] := fun y0 y1 y2 y3 y5 y7 y8 y18 y20 y21 y22 y23 y31 y36 y38 y39 y40 y41 y70 y79 z0 z1 z2 z3 z4 z5 => rfl
    refine R_nil (tr _ _ _ _ _ _ _ _ _ _ _ _ _ _ _ _ _ _ _ _ _ _ _ _ _ _) ?_; clear tr
    refine then_n ?_
    refine cdt ?_
    refine at_seq rfl ?_
    refine rg rfl ?_
    refine Rq ?_
    have tr : ∀ y0 y1 y2 y3 y5 y7 y8 y18 y20 y21 y22 y23 y31 y36 y38 y39 y40 y41 y70 y79 z0 : AV, trim [(2, z0), (0, y0), (1, y1), (2, y2), (3, y3), (5, y5), (7, y7), (8, y8), (18, y18), (20, y20), (21, y21), (22, y22), (23, y23), (31, y31), (36, y36), (38, y38), (39, y39), (40, y40), (41, y41), (70, y70), (79, y79)] [(0, y0), (1, y1), (2, y2), (3, y3), (5, y5), (7, y7), (8, y8), (18, y18), (20, y20), (21, y21), (22, y22), (23, y23), (31, y31), (36, y36), (38, y38), (39, y39), (40, y40), (41, y41), (70, y70), (79, y79)] = [(0, y0), (1, y1), (2, z0), (3, y3), (5, y5), (7, y7), (8, y8), (18, y18), (20, y20), (21, y21), (22, y22), (23, y23), (31, y31), (36, y36), (38, y38), (39, y39), (40, y40), (41, y41), (70, y70), (79, y79)] := fun y0 y1 y2 y3 y5 y7 y8 y18 y20 y21 y22 y23 y31 y36 y38 y39 y40 y41 y70 y79 z0 => rfl
    refine R_nil (tr _ _ _ _ _ _ _ _ _ _ _ _ _ _ _ _ _ _ _ _ _) ?_; clear tr
    refine then_n ?_
    refine at_ret rfl ?_
    refine then_r ?_
    refine fpure ?_
    refine ⟨?_, rfl⟩
    rw [rchkS, if_pos (by omega)]
  · try simp only [decide_eq_true_eq, decide_eq_false_iff_not, Bool.not_eq_true', Bool.not_eq_false', beq_iff_eq, beq_eq_false_iff_ne, ne_eq] at h1
    refine Ry ?_
    refine Rq ?_
    refine Ry ?_
    refine Rq ?_
    refine Rq ?_
    have tr : ∀ y0 y1 y2 y3 y5 y7 y8 y18 y20 y21 y22 y23 y31 y36 y38 y39 y40 y41 y70 y79 z0 z1 z2 z3 z4 z5 : AV, trim [(18, z5), (17, z4), (16, z3), (15, z2), (14, z1), (13, z0), (0, y0), (1, y1), (2, y2), (3, y3), (5, y5), (7, y7), (8, y8), (18, y18), (20, y20), (21, y21), (22, y22), (23, y23), (31, y31), (36, y36), (38, y38), (39, y39), (40, y40), (41, y41), (70, y70), (79, y79)] [(0, y0), (1, y1), (2, y2), (3, y3), (5, y5), (7, y7), (8, y8), (18, y18), (20, y20), (21, y21), (22, y22), (23, y23), (31, y31), (36, y36), (38, y38), (39, y39), (40, y40), (41, y41), (70, y70), (79, y79)] = [(0, y0), (1, y1), (2, y2), (3, y3), (5, y5), (7, y7), (8, y8), (18, z5), (20, y20), (21, y21), (22, y22), (23, y23), (31, y31), (36, y36), (38, y38), (39, y39), (40, y40), (41, y41), (70, y70), (79, y79)] := fun y0 y1 y2 y3 y5 y7 y8 y18 y20 y21 y22 y23 y31 y36 y38 y39 y40 y41 y70 y79 z0 z1 z2 z3 z4 z5 => rfl
    refine R_nil (tr _ _ _ _ _ _ _ _ _ _ _ _ _ _ _ _ _ _ _ _ _ _ _ _ _ _) ?_; clear tr
    refine then_n ?_
    refine cdd (fun h2 => ?_) (fun h2 => ?_)
    · try simp only [decide_eq_true_eq, decide_eq_false_iff_not, Bool.not_eq_true', Bool.not_eq_false', beq_iff_eq, beq_eq_false_iff_ne, ne_eq] at h2
      refine at_seq rfl ?_
      refine rg rfl ?_
      refine Rq ?_
      have tr : ∀ y0 y1 y2 y3 y5 y7 y8 y18 y20 y21 y22 y23 y31 y36 y38 y39 y40 y41 y70 y79 z0 : AV, trim [(2, z0), (0, y0), (1, y1), (2, y2), (3, y3), (5, y5), (7, y7), (8, y8), (18, y18), (20, y20), (21, y21), (22, y22), (23, y23), (31, y31), (36, y36), (38, y38), (39, y39), (40, y40), (41, y41), (70, y70), (79, y79)] [(0, y0), (1, y1), (2, y2), (3, y3), (5, y5), (7, y7), (8, y8), (18, y18), (20, y20), (21, y21), (22, y22), (23, y23), (31, y31), (36, y36), (38, y38), (39, y39), (40, y40), (41, y41), (70, y70), (79, y79)] = [(0, y0), (1, y1), (2, z0), (3, y3), (5, y5), (7, y7), (8, y8), (18, y18), (20, y20), (21, y21), (22, y22), (23, y23), (31, y31), (36, y36), (38, y38), (39, y39), (40, y40), (41, y41), (70, y70), (79, y79)] := fun y0 y1 y2 y3 y5 y7 y8 y18 y20 y21 y22 y23 y31 y36 y38 y39 y40 y41 y70 y79 z0 => rfl
      refine R_nil (tr _ _ _ _ _ _ _ _ _ _ _ _ _ _ _ _ _ _ _ _ _) ?_; clear tr
      refine then_n ?_
      refine at_ret rfl ?_
      refine then_r ?_
      refine fpure ?_
      refine ⟨?_, rfl⟩
      rw [rchkS, if_pos (by omega)]
    · try simp only [decide_eq_true_eq, decide_eq_false_iff_not, Bool.not_eq_true', Bool.not_eq_false', beq_iff_eq, beq_eq_false_iff_ne, ne_eq] at h2
      refine at_skip rfl ?_
      refine then_n ?_
      refine at_seq rfl ?_
      refine at_seq rfl ?_
      refine rg rfl ?_
      refine Rq ?_
      refine Rq ?_
      refine Rq ?_
      refine Rq ?_
      have tr : ∀ y0 y1 y2 y3 y5 y7 y8 y18 y20 y21 y22 y23 y31 y36 y38 y39 y40 y41 y70 y79 z0 z1 z2 z3 : AV, trim [(22, z3), (21, z2), (20, z1), (19, z0), (0, y0), (1, y1), (2, y2), (3, y3), (5, y5), (7, y7), (8, y8), (18, y18), (20, y20), (21, y21), (22, y22), (23, y23), (31, y31), (36, y36), (38, y38), (39, y39), (40, y40), (41, y41), (70, y70), (79, y79)] [(0, y0), (1, y1), (2, y2), (3, y3), (5, y5), (7, y7), (8, y8), (18, y18), (20, y20), (21, y21), (22, y22), (23, y23), (31, y31), (36, y36), (38, y38), (39, y39), (40, y40), (41, y41), (70, y70), (79, y79)] = [(0, y0), (1, y1), (2, y2), (3, y3), (5, y5), (7, y7), (8, y8), (18, y18), (20, z1), (21, z2), (22, z3), (23, y23), (31, y31), (36, y36), (38, y38), (39, y39), (40, y40), (41, y41), (70, y70), (79, y79)] := fun y0 y1 y2 y3 y5 y7 y8 y18 y20 y21 y22 y23 y31 y36 y38 y39 y40 y41 y70 y79 z0 z1 z2 z3 => rfl
      refine R_nil (tr _ _ _ _ _ _ _ _ _ _ _ _ _ _ _ _ _ _ _ _ _ _ _ _) ?_; clear tr
      refine then_n ?_
      refine at_block rfl ?_
      refine loop_n rfl (fun mm kv H' => ∃ u : Nat, ∃ x2 x5 x23 x31 : AV, (kv = [(2, x2), (5, x5), (22, AV.i u), (23, x23), (31, x31)]) ∧ (mm = P.length - u) ∧ (H' = H ++ [some (raceC P L)]) ∧ (u ≤ P.length) ∧ (ferr (fun i => ptErr (gt P i)) u = 0)) ⟨0, _, _, _, _, rfl, rfl, rfl, by omega, by rfl⟩ (by rfl) ?_
      rintro mm kv H' ⟨u, x2, x5, x23, x31, rfl, rfl, rfl, hu, hz⟩
      have tr : ∀ y0 y1 y2 y3 y5 y7 y8 y18 y20 y21 y22 y23 y31 y36 y38 y39 y40 y41 y70 y79 z2 z5 z22 z23 z31 : AV, upd [(0, y0), (1, y1), (2, y2), (3, y3), (5, y5), (7, y7), (8, y8), (18, y18), (20, y20), (21, y21), (22, y22), (23, y23), (31, y31), (36, y36), (38, y38), (39, y39), (40, y40), (41, y41), (70, y70), (79, y79)] [(2, z2), (5, z5), (22, z22), (23, z23), (31, z31)] = [(0, y0), (1, y1), (2, z2), (3, y3), (5, z5), (7, y7), (8, y8), (18, y18), (20, y20), (21, y21), (22, z22), (23, z23), (31, z31), (36, y36), (38, y38), (39, y39), (40, y40), (41, y41), (70, y70), (79, y79)] := fun y0 y1 y2 y3 y5 y7 y8 y18 y20 y21 y22 y23 y31 y36 y38 y39 y40 y41 y70 y79 z2 z5 z22 z23 z31 => rfl
      refine W_to (tr _ _ _ _ _ _ _ _ _ _ _ _ _ _ _ _ _ _ _ _ _ _ _ _ _) ?_; clear tr
      refine at_seq rfl ?_
      refine rg rfl ?_
      refine Rq ?_
      have tr : ∀ y0 y1 y2 y3 y5 y7 y8 y18 y20 y21 y22 y23 y31 y36 y38 y39 y40 y41 y70 y79 z0 : AV, trim [(23, z0), (0, y0), (1, y1), (2, y2), (3, y3), (5, y5), (7, y7), (8, y8), (18, y18), (20, y20), (21, y21), (22, y22), (23, y23), (31, y31), (36, y36), (38, y38), (39, y39), (40, y40), (41, y41), (70, y70), (79, y79)] [(0, y0), (1, y1), (2, y2), (3, y3), (5, y5), (7, y7), (8, y8), (18, y18), (20, y20), (21, y21), (22, y22), (23, y23), (31, y31), (36, y36), (38, y38), (39, y39), (40, y40), (41, y41), (70, y70), (79, y79)] = [(0, y0), (1, y1), (2, y2), (3, y3), (5, y5), (7, y7), (8, y8), (18, y18), (20, y20), (21, y21), (22, y22), (23, z0), (31, y31), (36, y36), (38, y38), (39, y39), (40, y40), (41, y41), (70, y70), (79, y79)] := fun y0 y1 y2 y3 y5 y7 y8 y18 y20 y21 y22 y23 y31 y36 y38 y39 y40 y41 y70 y79 z0 => rfl
      refine R_nil (tr _ _ _ _ _ _ _ _ _ _ _ _ _ _ _ _ _ _ _ _ _) ?_; clear tr
      refine then_n ?_
      refine at_seq rfl ?_
      refine cdd (fun h3 => ?_) (fun h3 => ?_)
      · try simp only [decide_eq_true_eq, decide_eq_false_iff_not, Bool.not_eq_true', Bool.not_eq_false', beq_iff_eq, beq_eq_false_iff_ne, ne_eq] at h3
        refine at_skip rfl ?_
        refine then_n ?_
        refine at_seq rfl ?_
        refine at_block rfl ?_
        refine at_seq rfl ?_
        refine rg rfl ?_
        refine Rq ?_
        refine Rq ?_
        refine Rq ?_
        have tr : ∀ y0 y1 y2 y3 y5 y7 y8 y18 y20 y21 y22 y23 y31 y36 y38 y39 y40 y41 y70 y79 z0 z1 z2 : AV, trim [(5, z2), (25, z1), (24, z0), (0, y0), (1, y1), (2, y2), (3, y3), (5, y5), (7, y7), (8, y8), (18, y18), (20, y20), (21, y21), (22, y22), (23, y23), (31, y31), (36, y36), (38, y38), (39, y39), (40, y40), (41, y41), (70, y70), (79, y79)] [(0, y0), (1, y1), (2, y2), (3, y3), (5, y5), (7, y7), (8, y8), (18, y18), (20, y20), (21, y21), (22, y22), (23, y23), (31, y31), (36, y36), (38, y38), (39, y39), (40, y40), (41, y41), (70, y70), (79, y79)] = [(0, y0), (1, y1), (2, y2), (3, y3), (5, z2), (7, y7), (8, y8), (18, y18), (20, y20), (21, y21), (22, y22), (23, y23), (31, y31), (36, y36), (38, y38), (39, y39), (40, y40), (41, y41), (70, y70), (79, y79)] := fun y0 y1 y2 y3 y5 y7 y8 y18 y20 y21 y22 y23 y31 y36 y38 y39 y40 y41 y70 y79 z0 z1 z2 => rfl
        refine R_nil (tr _ _ _ _ _ _ _ _ _ _ _ _ _ _ _ _ _ _ _ _ _ _ _) ?_; clear tr
        refine then_n ?_
        refine at_seq rfl ?_
        refine rg rfl ?_
        refine Rq ?_
        refine Rq ?_
        refine Rq ?_
        refine Rp_split (fun h4 => ?_) (fun h4 => ?_)
        · try simp only [decide_eq_true_eq, decide_eq_false_iff_not, Bool.not_eq_true', Bool.not_eq_false', beq_iff_eq, beq_eq_false_iff_ne, ne_eq] at h4
          refine Rn ?_
          refine Rn ?_
          refine Rq ?_
          have tr : ∀ y0 y1 y2 y3 y5 y7 y8 y18 y20 y21 y22 y23 y31 y36 y38 y39 y40 y41 y70 y79 z0 z1 z2 z3 z4 z5 : AV, trim [(31, z5), (30, z4), (29, z3), (28, z2), (27, z1), (26, z0), (0, y0), (1, y1), (2, y2), (3, y3), (5, y5), (7, y7), (8, y8), (18, y18), (20, y20), (21, y21), (22, y22), (23, y23), (31, y31), (36, y36), (38, y38), (39, y39), (40, y40), (41, y41), (70, y70), (79, y79)] [(0, y0), (1, y1), (2, y2), (3, y3), (5, y5), (7, y7), (8, y8), (18, y18), (20, y20), (21, y21), (22, y22), (23, y23), (31, y31), (36, y36), (38, y38), (39, y39), (40, y40), (41, y41), (70, y70), (79, y79)] = [(0, y0), (1, y1), (2, y2), (3, y3), (5, y5), (7, y7), (8, y8), (18, y18), (20, y20), (21, y21), (22, y22), (23, y23), (31, z5), (36, y36), (38, y38), (39, y39), (40, y40), (41, y41), (70, y70), (79, y79)] := fun y0 y1 y2 y3 y5 y7 y8 y18 y20 y21 y22 y23 y31 y36 y38 y39 y40 y41 y70 y79 z0 z1 z2 z3 z4 z5 => rfl
          refine R_nil (tr _ _ _ _ _ _ _ _ _ _ _ _ _ _ _ _ _ _ _ _ _ _ _ _ _ _) ?_; clear tr
          refine then_n ?_
          refine cdt ?_
          refine at_seq rfl ?_
          refine rg rfl ?_
          refine Rq ?_
          have tr : ∀ y0 y1 y2 y3 y5 y7 y8 y18 y20 y21 y22 y23 y31 y36 y38 y39 y40 y41 y70 y79 z0 : AV, trim [(2, z0), (0, y0), (1, y1), (2, y2), (3, y3), (5, y5), (7, y7), (8, y8), (18, y18), (20, y20), (21, y21), (22, y22), (23, y23), (31, y31), (36, y36), (38, y38), (39, y39), (40, y40), (41, y41), (70, y70), (79, y79)] [(0, y0), (1, y1), (2, y2), (3, y3), (5, y5), (7, y7), (8, y8), (18, y18), (20, y20), (21, y21), (22, y22), (23, y23), (31, y31), (36, y36), (38, y38), (39, y39), (40, y40), (41, y41), (70, y70), (79, y79)] = [(0, y0), (1, y1), (2, z0), (3, y3), (5, y5), (7, y7), (8, y8), (18, y18), (20, y20), (21, y21), (22, y22), (23, y23), (31, y31), (36, y36), (38, y38), (39, y39), (40, y40), (41, y41), (70, y70), (79, y79)] := fun y0 y1 y2 y3 y5 y7 y8 y18 y20 y21 y22 y23 y31 y36 y38 y39 y40 y41 y70 y79 z0 => rfl
          refine R_nil (tr _ _ _ _ _ _ _ _ _ _ _ _ _ _ _ _ _ _ _ _ _) ?_; clear tr
          refine then_n ?_
          refine at_ret rfl ?_
          refine blk_r ?_
          refine then_r ?_
          refine then_r ?_
          refine blk_r ?_
          refine then_r ?_
          refine fpure ?_
          refine ⟨?_, rfl⟩
          have hse : ptErr (gt P u) = 2 := by unfold ptErr; rw [if_pos (by omega)]
          have hfe : ferr (fun i => ptErr (gt P i)) P.length = 2 := by rw [ferr_at hz (by omega) _ (by omega), hse]
          rw [rchkS, if_neg (by omega), if_pos (by omega), hfe]
        · try simp only [decide_eq_true_eq, decide_eq_false_iff_not, Bool.not_eq_true', Bool.not_eq_false', beq_iff_eq, beq_eq_false_iff_ne, ne_eq] at h4
          refine Ry ?_
          refine Rq ?_
          refine Ry ?_
          refine Rq ?_
          refine Rq ?_
          have tr : ∀ y0 y1 y2 y3 y5 y7 y8 y18 y20 y21 y22 y23 y31 y36 y38 y39 y40 y41 y70 y79 z0 z1 z2 z3 z4 z5 : AV, trim [(31, z5), (30, z4), (29, z3), (28, z2), (27, z1), (26, z0), (0, y0), (1, y1), (2, y2), (3, y3), (5, y5), (7, y7), (8, y8), (18, y18), (20, y20), (21, y21), (22, y22), (23, y23), (31, y31), (36, y36), (38, y38), (39, y39), (40, y40), (41, y41), (70, y70), (79, y79)] [(0, y0), (1, y1), (2, y2), (3, y3), (5, y5), (7, y7), (8, y8), (18, y18), (20, y20), (21, y21), (22, y22), (23, y23), (31, y31), (36, y36), (38, y38), (39, y39), (40, y40), (41, y41), (70, y70), (79, y79)] = [(0, y0), (1, y1), (2, y2), (3, y3), (5, y5), (7, y7), (8, y8), (18, y18), (20, y20), (21, y21), (22, y22), (23, y23), (31, z5), (36, y36), (38, y38), (39, y39), (40, y40), (41, y41), (70, y70), (79, y79)] := fun y0 y1 y2 y3 y5 y7 y8 y18 y20 y21 y22 y23 y31 y36 y38 y39 y40 y41 y70 y79 z0 z1 z2 z3 z4 z5 => rfl
          refine R_nil (tr _ _ _ _ _ _ _ _ _ _ _ _ _ _ _ _ _ _ _ _ _ _ _ _ _ _) ?_; clear tr
          refine then_n ?_
          refine cdd (fun h5 => ?_) (fun h5 => ?_)
          · try simp only [decide_eq_true_eq, decide_eq_false_iff_not, Bool.not_eq_true', Bool.not_eq_false', beq_iff_eq, beq_eq_false_iff_ne, ne_eq] at h5
            refine at_seq rfl ?_
            refine rg rfl ?_
            refine Rq ?_
            have tr : ∀ y0 y1 y2 y3 y5 y7 y8 y18 y20 y21 y22 y23 y31 y36 y38 y39 y40 y41 y70 y79 z0 : AV, trim [(2, z0), (0, y0), (1, y1), (2, y2), (3, y3), (5, y5), (7, y7), (8, y8), (18, y18), (20, y20), (21, y21), (22, y22), (23, y23), (31, y31), (36, y36), (38, y38), (39, y39), (40, y40), (41, y41), (70, y70), (79, y79)] [(0, y0), (1, y1), (2, y2), (3, y3), (5, y5), (7, y7), (8, y8), (18, y18), (20, y20), (21, y21), (22, y22), (23, y23), (31, y31), (36, y36), (38, y38), (39, y39), (40, y40), (41, y41), (70, y70), (79, y79)] = [(0, y0), (1, y1), (2, z0), (3, y3), (5, y5), (7, y7), (8, y8), (18, y18), (20, y20), (21, y21), (22, y22), (23, y23), (31, y31), (36, y36), (38, y38), (39, y39), (40, y40), (41, y41), (70, y70), (79, y79)] := fun y0 y1 y2 y3 y5 y7 y8 y18 y20 y21 y22 y23 y31 y36 y38 y39 y40 y41 y70 y79 z0 => rfl
            refine R_nil (tr _ _ _ _ _ _ _ _ _ _ _ _ _ _ _ _ _ _ _ _ _) ?_; clear tr
            refine then_n ?_
            refine at_ret rfl ?_
            refine blk_r ?_
            refine then_r ?_
            refine then_r ?_
            refine blk_r ?_
            refine then_r ?_
            refine fpure ?_
            refine ⟨?_, rfl⟩
            have hse : ptErr (gt P u) = 2 := by unfold ptErr; rw [if_pos (by omega)]
            have hfe : ferr (fun i => ptErr (gt P i)) P.length = 2 := by rw [ferr_at hz (by omega) _ (by omega), hse]
            rw [rchkS, if_neg (by omega), if_pos (by omega), hfe]
          · try simp only [decide_eq_true_eq, decide_eq_false_iff_not, Bool.not_eq_true', Bool.not_eq_false', beq_iff_eq, beq_eq_false_iff_ne, ne_eq] at h5
            refine at_skip rfl ?_
            refine blk_n ?_
            refine then_n ?_
            refine rg rfl ?_
            refine Rq ?_
            refine Rq ?_
            have tr : ∀ y0 y1 y2 y3 y5 y7 y8 y18 y20 y21 y22 y23 y31 y36 y38 y39 y40 y41 y70 y79 z0 z1 : AV, trim [(22, z1), (32, z0), (0, y0), (1, y1), (2, y2), (3, y3), (5, y5), (7, y7), (8, y8), (18, y18), (20, y20), (21, y21), (22, y22), (23, y23), (31, y31), (36, y36), (38, y38), (39, y39), (40, y40), (41, y41), (70, y70), (79, y79)] [(0, y0), (1, y1), (2, y2), (3, y3), (5, y5), (7, y7), (8, y8), (18, y18), (20, y20), (21, y21), (22, y22), (23, y23), (31, y31), (36, y36), (38, y38), (39, y39), (40, y40), (41, y41), (70, y70), (79, y79)] = [(0, y0), (1, y1), (2, y2), (3, y3), (5, y5), (7, y7), (8, y8), (18, y18), (20, y20), (21, y21), (22, z1), (23, y23), (31, y31), (36, y36), (38, y38), (39, y39), (40, y40), (41, y41), (70, y70), (79, y79)] := fun y0 y1 y2 y3 y5 y7 y8 y18 y20 y21 y22 y23 y31 y36 y38 y39 y40 y41 y70 y79 z0 z1 => rfl
            refine R_nil (tr _ _ _ _ _ _ _ _ _ _ _ _ _ _ _ _ _ _ _ _ _ _) ?_; clear tr
            refine then_n ?_
            exact ⟨_, _, ⟨u + 1, _, _, _, _, rfl, rfl, rfl, by omega, by exact ferr_ok hz (by show ptErr (gt P u) = 0; unfold ptErr; rw [if_neg (by omega)])⟩, by rfl, by omega⟩
      · try simp only [decide_eq_true_eq, decide_eq_false_iff_not, Bool.not_eq_true', Bool.not_eq_false', beq_iff_eq, beq_eq_false_iff_ne, ne_eq] at h3
        refine at_exit rfl ?_
        refine then_x ?_
        refine then_x ?_
        refine blk_x ?_
        refine then_n ?_
        refine at_seq rfl ?_
        refine at_seq rfl ?_
        refine rg rfl ?_
        have hze : ferr (fun i => ptErr (gt P i)) P.length = 0 := by rw [show P.length = u by omega]; exact hz
        refine Rq ?_
        refine Rq ?_
        refine Rq ?_
        refine Rq ?_
        have tr : ∀ y0 y1 y2 y3 y5 y7 y8 y18 y20 y21 y22 y23 y31 y36 y38 y39 y40 y41 y70 y79 z0 z1 z2 z3 : AV, trim [(36, z3), (35, z2), (34, z1), (33, z0), (0, y0), (1, y1), (2, y2), (3, y3), (5, y5), (7, y7), (8, y8), (18, y18), (20, y20), (21, y21), (22, y22), (23, y23), (31, y31), (36, y36), (38, y38), (39, y39), (40, y40), (41, y41), (70, y70), (79, y79)] [(0, y0), (1, y1), (2, y2), (3, y3), (5, y5), (7, y7), (8, y8), (18, y18), (20, y20), (21, y21), (22, y22), (23, y23), (31, y31), (36, y36), (38, y38), (39, y39), (40, y40), (41, y41), (70, y70), (79, y79)] = [(0, y0), (1, y1), (2, y2), (3, y3), (5, y5), (7, y7), (8, y8), (18, y18), (20, y20), (21, y21), (22, y22), (23, y23), (31, y31), (36, z3), (38, y38), (39, y39), (40, y40), (41, y41), (70, y70), (79, y79)] := fun y0 y1 y2 y3 y5 y7 y8 y18 y20 y21 y22 y23 y31 y36 y38 y39 y40 y41 y70 y79 z0 z1 z2 z3 => rfl
        refine R_nil (tr _ _ _ _ _ _ _ _ _ _ _ _ _ _ _ _ _ _ _ _ _ _ _ _) ?_; clear tr
        refine then_n ?_
        refine cdd (fun h6 => ?_) (fun h6 => ?_)
        · try simp only [decide_eq_true_eq, decide_eq_false_iff_not, Bool.not_eq_true', Bool.not_eq_false', beq_iff_eq, beq_eq_false_iff_ne, ne_eq] at h6
          refine at_seq rfl ?_
          refine rg rfl ?_
          refine Rq ?_
          have tr : ∀ y0 y1 y2 y3 y5 y7 y8 y18 y20 y21 y22 y23 y31 y36 y38 y39 y40 y41 y70 y79 z0 : AV, trim [(2, z0), (0, y0), (1, y1), (2, y2), (3, y3), (5, y5), (7, y7), (8, y8), (18, y18), (20, y20), (21, y21), (22, y22), (23, y23), (31, y31), (36, y36), (38, y38), (39, y39), (40, y40), (41, y41), (70, y70), (79, y79)] [(0, y0), (1, y1), (2, y2), (3, y3), (5, y5), (7, y7), (8, y8), (18, y18), (20, y20), (21, y21), (22, y22), (23, y23), (31, y31), (36, y36), (38, y38), (39, y39), (40, y40), (41, y41), (70, y70), (79, y79)] = [(0, y0), (1, y1), (2, z0), (3, y3), (5, y5), (7, y7), (8, y8), (18, y18), (20, y20), (21, y21), (22, y22), (23, y23), (31, y31), (36, y36), (38, y38), (39, y39), (40, y40), (41, y41), (70, y70), (79, y79)] := fun y0 y1 y2 y3 y5 y7 y8 y18 y20 y21 y22 y23 y31 y36 y38 y39 y40 y41 y70 y79 z0 => rfl
          refine R_nil (tr _ _ _ _ _ _ _ _ _ _ _ _ _ _ _ _ _ _ _ _ _) ?_; clear tr
          refine then_n ?_
          refine at_ret rfl ?_
          refine then_r ?_
          refine fpure ?_
          refine ⟨?_, rfl⟩
          rw [rchkS, if_neg (by omega), if_neg (by omega), if_pos (by omega)]
        · try simp only [decide_eq_true_eq, decide_eq_false_iff_not, Bool.not_eq_true', Bool.not_eq_false', beq_iff_eq, beq_eq_false_iff_ne, ne_eq] at h6
          refine at_skip rfl ?_
          refine then_n ?_
          refine at_seq rfl ?_
          refine at_seq rfl ?_
          refine rg rfl ?_
          refine Rq ?_
          refine Rq ?_
          refine Rq ?_
          refine Rq ?_
          have tr : ∀ y0 y1 y2 y3 y5 y7 y8 y18 y20 y21 y22 y23 y31 y36 y38 y39 y40 y41 y70 y79 z0 z1 z2 z3 : AV, trim [(40, z3), (39, z2), (38, z1), (37, z0), (0, y0), (1, y1), (2, y2), (3, y3), (5, y5), (7, y7), (8, y8), (18, y18), (20, y20), (21, y21), (22, y22), (23, y23), (31, y31), (36, y36), (38, y38), (39, y39), (40, y40), (41, y41), (70, y70), (79, y79)] [(0, y0), (1, y1), (2, y2), (3, y3), (5, y5), (7, y7), (8, y8), (18, y18), (20, y20), (21, y21), (22, y22), (23, y23), (31, y31), (36, y36), (38, y38), (39, y39), (40, y40), (41, y41), (70, y70), (79, y79)] = [(0, y0), (1, y1), (2, y2), (3, y3), (5, y5), (7, y7), (8, y8), (18, y18), (20, y20), (21, y21), (22, y22), (23, y23), (31, y31), (36, y36), (38, z1), (39, z2), (40, z3), (41, y41), (70, y70), (79, y79)] := fun y0 y1 y2 y3 y5 y7 y8 y18 y20 y21 y22 y23 y31 y36 y38 y39 y40 y41 y70 y79 z0 z1 z2 z3 => rfl
          refine R_nil (tr _ _ _ _ _ _ _ _ _ _ _ _ _ _ _ _ _ _ _ _ _ _ _ _) ?_; clear tr
          refine then_n ?_
          refine at_block rfl ?_
          refine loop_n rfl (fun mm kv H' => ∃ v : Nat, ∃ X : Heap, ∃ x2 x7 x41 x70 : AV, (kv = [(2, x2), (7, x7), (40, AV.i v), (41, x41), (70, x70)]) ∧ (mm = L.length - v) ∧ (H' = H ++ [some (raceC P L)] ++ X) ∧ (v ≤ L.length) ∧ (ferr (fun i => prErr P.length (gt L i)) v = 0)) ⟨0, [], _, _, _, _, rfl, rfl, by simp, by omega, by rfl⟩ (by rfl) ?_
          rintro mm kv H1 ⟨v, X, x2, x7, x41, x70, rfl, rfl, hX, hv, hy⟩
          have tr : ∀ y0 y1 y2 y3 y5 y7 y8 y18 y20 y21 y22 y23 y31 y36 y38 y39 y40 y41 y70 y79 z2 z7 z40 z41 z70 : AV, upd [(0, y0), (1, y1), (2, y2), (3, y3), (5, y5), (7, y7), (8, y8), (18, y18), (20, y20), (21, y21), (22, y22), (23, y23), (31, y31), (36, y36), (38, y38), (39, y39), (40, y40), (41, y41), (70, y70), (79, y79)] [(2, z2), (7, z7), (40, z40), (41, z41), (70, z70)] = [(0, y0), (1, y1), (2, z2), (3, y3), (5, y5), (7, z7), (8, y8), (18, y18), (20, y20), (21, y21), (22, y22), (23, y23), (31, y31), (36, y36), (38, y38), (39, y39), (40, z40), (41, z41), (70, z70), (79, y79)] := fun y0 y1 y2 y3 y5 y7 y8 y18 y20 y21 y22 y23 y31 y36 y38 y39 y40 y41 y70 y79 z2 z7 z40 z41 z70 => rfl
          refine W_to (tr _ _ _ _ _ _ _ _ _ _ _ _ _ _ _ _ _ _ _ _ _ _ _ _ _) ?_; clear tr
          subst hX
          refine at_seq rfl ?_
          refine rg rfl ?_
          refine Rq ?_
          have tr : ∀ y0 y1 y2 y3 y5 y7 y8 y18 y20 y21 y22 y23 y31 y36 y38 y39 y40 y41 y70 y79 z0 : AV, trim [(41, z0), (0, y0), (1, y1), (2, y2), (3, y3), (5, y5), (7, y7), (8, y8), (18, y18), (20, y20), (21, y21), (22, y22), (23, y23), (31, y31), (36, y36), (38, y38), (39, y39), (40, y40), (41, y41), (70, y70), (79, y79)] [(0, y0), (1, y1), (2, y2), (3, y3), (5, y5), (7, y7), (8, y8), (18, y18), (20, y20), (21, y21), (22, y22), (23, y23), (31, y31), (36, y36), (38, y38), (39, y39), (40, y40), (41, y41), (70, y70), (79, y79)] = [(0, y0), (1, y1), (2, y2), (3, y3), (5, y5), (7, y7), (8, y8), (18, y18), (20, y20), (21, y21), (22, y22), (23, y23), (31, y31), (36, y36), (38, y38), (39, y39), (40, y40), (41, z0), (70, y70), (79, y79)] := fun y0 y1 y2 y3 y5 y7 y8 y18 y20 y21 y22 y23 y31 y36 y38 y39 y40 y41 y70 y79 z0 => rfl
          refine R_nil (tr _ _ _ _ _ _ _ _ _ _ _ _ _ _ _ _ _ _ _ _ _) ?_; clear tr
          refine then_n ?_
          refine at_seq rfl ?_
          refine cdd (fun h7 => ?_) (fun h7 => ?_)
          · try simp only [decide_eq_true_eq, decide_eq_false_iff_not, Bool.not_eq_true', Bool.not_eq_false', beq_iff_eq, beq_eq_false_iff_ne, ne_eq] at h7
            refine at_skip rfl ?_
            refine then_n ?_
            refine at_seq rfl ?_
            refine at_block rfl ?_
            refine at_seq rfl ?_
            refine rg rfl ?_
            refine Rq ?_
            refine Rq ?_
            refine R_alloc (by simp (disch := first | omega | (simp only [List.length_map, List.length_append, List.length_set, List.length_cons, List.length_nil, List.length_take, List.length_drop]; omega)) only [go_sem, ↓reduceIte, Nat.reduceEqDiff, reduceCtorEq]; rfl) rfl (by simp only [List.map_cons, List.map_nil]; rfl) ?_
            refine R_store ty58 (by simp (disch := first | omega | (simp only [List.length_map, List.length_append, List.length_set, List.length_cons, List.length_nil, List.length_take, List.length_drop]; omega)) only [go_sem, ↓reduceIte, Nat.reduceEqDiff, reduceCtorEq]; rfl) (by simp (disch := first | omega | (simp only [List.length_map, List.length_append, List.length_set, List.length_cons, List.length_nil, List.length_take, List.length_drop]; omega)) only [go_sem, ↓reduceIte, Nat.reduceEqDiff, reduceCtorEq]; rfl) (by simp (disch := first | omega | (simp only [List.length_map, List.length_append, List.length_set, List.length_cons, List.length_nil, List.length_take, List.length_drop]; omega)) only [go_sem, ↓reduceIte, Nat.reduceEqDiff, reduceCtorEq]; rfl) (by simp) (by rfl) (by simp (disch := first | omega | (simp only [List.length_map, List.length_append, List.length_set, List.length_cons, List.length_nil, List.length_take, List.length_drop]; omega)) only [go_sem, ↓reduceIte, Nat.reduceEqDiff, reduceCtorEq]; rfl) ?_
            have tr : ∀ y0 y1 y2 y3 y5 y7 y8 y18 y20 y21 y22 y23 y31 y36 y38 y39 y40 y41 y70 y79 z0 z1 z2 : AV, trim [(7, z2), (43, z1), (42, z0), (0, y0), (1, y1), (2, y2), (3, y3), (5, y5), (7, y7), (8, y8), (18, y18), (20, y20), (21, y21), (22, y22), (23, y23), (31, y31), (36, y36), (38, y38), (39, y39), (40, y40), (41, y41), (70, y70), (79, y79)] [(0, y0), (1, y1), (2, y2), (3, y3), (5, y5), (7, y7), (8, y8), (18, y18), (20, y20), (21, y21), (22, y22), (23, y23), (31, y31), (36, y36), (38, y38), (39, y39), (40, y40), (41, y41), (70, y70), (79, y79)] = [(0, y0), (1, y1), (2, y2), (3, y3), (5, y5), (7, z2), (8, y8), (18, y18), (20, y20), (21, y21), (22, y22), (23, y23), (31, y31), (36, y36), (38, y38), (39, y39), (40, y40), (41, y41), (70, y70), (79, y79)] := fun y0 y1 y2 y3 y5 y7 y8 y18 y20 y21 y22 y23 y31 y36 y38 y39 y40 y41 y70 y79 z0 z1 z2 => rfl
            refine R_nil (tr _ _ _ _ _ _ _ _ _ _ _ _ _ _ _ _ _ _ _ _ _ _ _) ?_; clear tr
            refine then_n ?_
            refine at_seq rfl ?_
            refine rg rfl ?_
            refine Rq ?_
            refine Rq ?_
            refine Rq ?_
            refine Rq ?_
            refine Rp_split (fun h8 => ?_) (fun h8 => ?_)
            · try simp only [decide_eq_true_eq, decide_eq_false_iff_not, Bool.not_eq_true', Bool.not_eq_false', beq_iff_eq, beq_eq_false_iff_ne, ne_eq] at h8
              refine Rn ?_
              refine Rn ?_
              refine Rn ?_
              refine Rn ?_
              refine Rq ?_
              refine Rq ?_
              refine Rn ?_
              refine Rn ?_
              refine Rn ?_
              refine Rq ?_
              refine Rq ?_
              refine Rn ?_
              refine Rn ?_
              refine Rn ?_
              refine Rn ?_
              refine Rq ?_
              refine Rq ?_
              refine Rn ?_
              refine Rn ?_
              refine Rn ?_
              refine Rn ?_
              refine Rn ?_
              refine Rq ?_
              have tr : ∀ y0 y1 y2 y3 y5 y7 y8 y18 y20 y21 y22 y23 y31 y36 y38 y39 y40 y41 y70 y79 z0 z1 z2 z3 z4 z5 z6 z7 z8 z9 z10 z11 z12 z13 z14 z15 z16 z17 z18 z19 z20 z21 z22 z23 z24 z25 z26 : AV, trim [(70, z26), (69, z25), (68, z24), (67, z23), (66, z22), (65, z21), (64, z20), (63, z19), (62, z18), (61, z17), (60, z16), (59, z15), (58, z14), (57, z13), (56, z12), (55, z11), (54, z10), (53, z9), (52, z8), (51, z7), (50, z6), (49, z5), (48, z4), (47, z3), (46, z2), (45, z1), (44, z0), (0, y0), (1, y1), (2, y2), (3, y3), (5, y5), (7, y7), (8, y8), (18, y18), (20, y20), (21, y21), (22, y22), (23, y23), (31, y31), (36, y36), (38, y38), (39, y39), (40, y40), (41, y41), (70, y70), (79, y79)] [(0, y0), (1, y1), (2, y2), (3, y3), (5, y5), (7, y7), (8, y8), (18, y18), (20, y20), (21, y21), (22, y22), (23, y23), (31, y31), (36, y36), (38, y38), (39, y39), (40, y40), (41, y41), (70, y70), (79, y79)] = [(0, y0), (1, y1), (2, y2), (3, y3), (5, y5), (7, y7), (8, y8), (18, y18), (20, y20), (21, y21), (22, y22), (23, y23), (31, y31), (36, y36), (38, y38), (39, y39), (40, y40), (41, y41), (70, z26), (79, y79)] := fun y0 y1 y2 y3 y5 y7 y8 y18 y20 y21 y22 y23 y31 y36 y38 y39 y40 y41 y70 y79 z0 z1 z2 z3 z4 z5 z6 z7 z8 z9 z10 z11 z12 z13 z14 z15 z16 z17 z18 z19 z20 z21 z22 z23 z24 z25 z26 => rfl
              refine R_nil (tr _ _ _ _ _ _ _ _ _ _ _ _ _ _ _ _ _ _ _ _ _ _ _ _ _ _ _ _ _ _ _ _ _ _ _ _ _ _ _ _ _ _ _ _ _ _ _) ?_; clear tr
              refine then_n ?_
              refine cdt ?_
              refine at_seq rfl ?_
              refine rg rfl ?_
              refine Rq ?_
              have tr : ∀ y0 y1 y2 y3 y5 y7 y8 y18 y20 y21 y22 y23 y31 y36 y38 y39 y40 y41 y70 y79 z0 : AV, trim [(2, z0), (0, y0), (1, y1), (2, y2), (3, y3), (5, y5), (7, y7), (8, y8), (18, y18), (20, y20), (21, y21), (22, y22), (23, y23), (31, y31), (36, y36), (38, y38), (39, y39), (40, y40), (41, y41), (70, y70), (79, y79)] [(0, y0), (1, y1), (2, y2), (3, y3), (5, y5), (7, y7), (8, y8), (18, y18), (20, y20), (21, y21), (22, y22), (23, y23), (31, y31), (36, y36), (38, y38), (39, y39), (40, y40), (41, y41), (70, y70), (79, y79)] = [(0, y0), (1, y1), (2, z0), (3, y3), (5, y5), (7, y7), (8, y8), (18, y18), (20, y20), (21, y21), (22, y22), (23, y23), (31, y31), (36, y36), (38, y38), (39, y39), (40, y40), (41, y41), (70, y70), (79, y79)] := fun y0 y1 y2 y3 y5 y7 y8 y18 y20 y21 y22 y23 y31 y36 y38 y39 y40 y41 y70 y79 z0 => rfl
              refine R_nil (tr _ _ _ _ _ _ _ _ _ _ _ _ _ _ _ _ _ _ _ _ _) ?_; clear tr
              refine then_n ?_
              refine at_ret rfl ?_
              refine blk_r ?_
              refine then_r ?_
              refine then_r ?_
              refine blk_r ?_
              refine then_r ?_
              refine fpure ?_
              refine ⟨?_, rfl⟩
              have hse : prErr P.length (gt L v) = 1 := by unfold prErr; rw [if_pos (by omega)]
              have hfe : ferr (fun i => prErr P.length (gt L i)) L.length = 1 := by rw [ferr_at hy (by omega) _ (by omega), hse]
              rw [rchkS, if_neg (by omega), if_neg (by omega), if_neg (by omega), if_pos (by omega), hfe]
            · try simp only [decide_eq_true_eq, decide_eq_false_iff_not, Bool.not_eq_true', Bool.not_eq_false', beq_iff_eq, beq_eq_false_iff_ne, ne_eq] at h8
              refine Ry ?_
              refine Rq ?_
              refine Ry ?_
              refine Rq ?_
              refine Ry ?_
              refine Rq ?_
              refine Ry ?_
              refine Rq ?_
              refine Rq ?_
              refine Rq ?_
              refine Rp_split (fun h9 => ?_) (fun h9 => ?_)
              · try simp only [decide_eq_true_eq, decide_eq_false_iff_not, Bool.not_eq_true', Bool.not_eq_false', beq_iff_eq, beq_eq_false_iff_ne, ne_eq] at h9
                refine Rn ?_
                refine Rn ?_
                refine Rn ?_
                refine Rq ?_
                refine Rq ?_
                refine Rn ?_
                refine Rn ?_
                refine Rn ?_
                refine Rn ?_
                refine Rq ?_
                refine Rq ?_
                refine Rn ?_
                refine Rn ?_
                refine Rn ?_
                refine Rn ?_
                refine Rn ?_
                refine Rq ?_
                have tr : ∀ y0 y1 y2 y3 y5 y7 y8 y18 y20 y21 y22 y23 y31 y36 y38 y39 y40 y41 y70 y79 z0 z1 z2 z3 z4 z5 z6 z7 z8 z9 z10 z11 z12 z13 z14 z15 z16 z17 z18 z19 z20 z21 z22 z23 z24 z25 z26 : AV, trim [(70, z26), (69, z25), (68, z24), (67, z23), (66, z22), (65, z21), (64, z20), (63, z19), (62, z18), (61, z17), (60, z16), (59, z15), (58, z14), (57, z13), (56, z12), (55, z11), (54, z10), (53, z9), (52, z8), (51, z7), (50, z6), (49, z5), (48, z4), (47, z3), (46, z2), (45, z1), (44, z0), (0, y0), (1, y1), (2, y2), (3, y3), (5, y5), (7, y7), (8, y8), (18, y18), (20, y20), (21, y21), (22, y22), (23, y23), (31, y31), (36, y36), (38, y38), (39, y39), (40, y40), (41, y41), (70, y70), (79, y79)] [(0, y0), (1, y1), (2, y2), (3, y3), (5, y5), (7, y7), (8, y8), (18, y18), (20, y20), (21, y21), (22, y22), (23, y23), (31, y31), (36, y36), (38, y38), (39, y39), (40, y40), (41, y41), (70, y70), (79, y79)] = [(0, y0), (1, y1), (2, y2), (3, y3), (5, y5), (7, y7), (8, y8), (18, y18), (20, y20), (21, y21), (22, y22), (23, y23), (31, y31), (36, y36), (38, y38), (39, y39), (40, y40), (41, y41), (70, z26), (79, y79)] := fun y0 y1 y2 y3 y5 y7 y8 y18 y20 y21 y22 y23 y31 y36 y38 y39 y40 y41 y70 y79 z0 z1 z2 z3 z4 z5 z6 z7 z8 z9 z10 z11 z12 z13 z14 z15 z16 z17 z18 z19 z20 z21 z22 z23 z24 z25 z26 => rfl
                refine R_nil (tr _ _ _ _ _ _ _ _ _ _ _ _ _ _ _ _ _ _ _ _ _ _ _ _ _ _ _ _ _ _ _ _ _ _ _ _ _ _ _ _ _ _ _ _ _ _ _) ?_; clear tr
                refine then_n ?_
                refine cdt ?_
                refine at_seq rfl ?_
                refine rg rfl ?_
                refine Rq ?_
                have tr : ∀ y0 y1 y2 y3 y5 y7 y8 y18 y20 y21 y22 y23 y31 y36 y38 y39 y40 y41 y70 y79 z0 : AV, trim [(2, z0), (0, y0), (1, y1), (2, y2), (3, y3), (5, y5), (7, y7), (8, y8), (18, y18), (20, y20), (21, y21), (22, y22), (23, y23), (31, y31), (36, y36), (38, y38), (39, y39), (40, y40), (41, y41), (70, y70), (79, y79)] [(0, y0), (1, y1), (2, y2), (3, y3), (5, y5), (7, y7), (8, y8), (18, y18), (20, y20), (21, y21), (22, y22), (23, y23), (31, y31), (36, y36), (38, y38), (39, y39), (40, y40), (41, y41), (70, y70), (79, y79)] = [(0, y0), (1, y1), (2, z0), (3, y3), (5, y5), (7, y7), (8, y8), (18, y18), (20, y20), (21, y21), (22, y22), (23, y23), (31, y31), (36, y36), (38, y38), (39, y39), (40, y40), (41, y41), (70, y70), (79, y79)] := fun y0 y1 y2 y3 y5 y7 y8 y18 y20 y21 y22 y23 y31 y36 y38 y39 y40 y41 y70 y79 z0 => rfl
                refine R_nil (tr _ _ _ _ _ _ _ _ _ _ _ _ _ _ _ _ _ _ _ _ _) ?_; clear tr
                refine then_n ?_
                refine at_ret rfl ?_
                refine blk_r ?_
                refine then_r ?_
                refine then_r ?_
                refine blk_r ?_
                refine then_r ?_
                refine fpure ?_
                refine ⟨?_, rfl⟩
                have hse : prErr P.length (gt L v) = 1 := by unfold prErr; rw [if_pos (by omega)]
                have hfe : ferr (fun i => prErr P.length (gt L i)) L.length = 1 := by rw [ferr_at hy (by omega) _ (by omega), hse]
                rw [rchkS, if_neg (by omega), if_neg (by omega), if_neg (by omega), if_pos (by omega), hfe]
              · try simp only [decide_eq_true_eq, decide_eq_false_iff_not, Bool.not_eq_true', Bool.not_eq_false', beq_iff_eq, beq_eq_false_iff_ne, ne_eq] at h9
                refine Ry ?_
                refine Rq ?_
                refine Ry ?_
                refine Rq ?_
                refine Ry ?_
                refine Rq ?_
                refine Rq ?_
                refine Rq ?_
                refine Rp_split (fun h10 => ?_) (fun h10 => ?_)
                · try simp only [decide_eq_true_eq, decide_eq_false_iff_not, Bool.not_eq_true', Bool.not_eq_false', beq_iff_eq, beq_eq_false_iff_ne, ne_eq] at h10
                  refine Rn ?_
                  refine Rn ?_
                  refine Rn ?_
                  refine Rn ?_
                  refine Rq ?_
                  refine Rq ?_
                  refine Rn ?_
                  refine Rn ?_
                  refine Rn ?_
                  refine Rn ?_
                  refine Rn ?_
                  refine Rq ?_
                  have tr : ∀ y0 y1 y2 y3 y5 y7 y8 y18 y20 y21 y22 y23 y31 y36 y38 y39 y40 y41 y70 y79 z0 z1 z2 z3 z4 z5 z6 z7 z8 z9 z10 z11 z12 z13 z14 z15 z16 z17 z18 z19 z20 z21 z22 z23 z24 z25 z26 : AV, trim [(70, z26), (69, z25), (68, z24), (67, z23), (66, z22), (65, z21), (64, z20), (63, z19), (62, z18), (61, z17), (60, z16), (59, z15), (58, z14), (57, z13), (56, z12), (55, z11), (54, z10), (53, z9), (52, z8), (51, z7), (50, z6), (49, z5), (48, z4), (47, z3), (46, z2), (45, z1), (44, z0), (0, y0), (1, y1), (2, y2), (3, y3), (5, y5), (7, y7), (8, y8), (18, y18), (20, y20), (21, y21), (22, y22), (23, y23), (31, y31), (36, y36), (38, y38), (39, y39), (40, y40), (41, y41), (70, y70), (79, y79)] [(0, y0), (1, y1), (2, y2), (3, y3), (5, y5), (7, y7), (8, y8), (18, y18), (20, y20), (21, y21), (22, y22), (23, y23), (31, y31), (36, y36), (38, y38), (39, y39), (40, y40), (41, y41), (70, y70), (79, y79)] = [(0, y0), (1, y1), (2, y2), (3, y3), (5, y5), (7, y7), (8, y8), (18, y18), (20, y20), (21, y21), (22, y22), (23, y23), (31, y31), (36, y36), (38, y38), (39, y39), (40, y40), (41, y41), (70, z26), (79, y79)] := fun y0 y1 y2 y3 y5 y7 y8 y18 y20 y21 y22 y23 y31 y36 y38 y39 y40 y41 y70 y79 z0 z1 z2 z3 z4 z5 z6 z7 z8 z9 z10 z11 z12 z13 z14 z15 z16 z17 z18 z19 z20 z21 z22 z23 z24 z25 z26 => rfl
                  refine R_nil (tr _ _ _ _ _ _ _ _ _ _ _ _ _ _ _ _ _ _ _ _ _ _ _ _ _ _ _ _ _ _ _ _ _ _ _ _ _ _ _ _ _ _ _ _ _ _ _) ?_; clear tr
                  refine then_n ?_
                  refine cdt ?_
                  refine at_seq rfl ?_
                  refine rg rfl ?_
                  refine Rq ?_
                  have tr : ∀ y0 y1 y2 y3 y5 y7 y8 y18 y20 y21 y22 y23 y31 y36 y38 y39 y40 y41 y70 y79 z0 : AV, trim [(2, z0), (0, y0), (1, y1), (2, y2), (3, y3), (5, y5), (7, y7), (8, y8), (18, y18), (20, y20), (21, y21), (22, y22), (23, y23), (31, y31), (36, y36), (38, y38), (39, y39), (40, y40), (41, y41), (70, y70), (79, y79)] [(0, y0), (1, y1), (2, y2), (3, y3), (5, y5), (7, y7), (8, y8), (18, y18), (20, y20), (21, y21), (22, y22), (23, y23), (31, y31), (36, y36), (38, y38), (39, y39), (40, y40), (41, y41), (70, y70), (79, y79)] = [(0, y0), (1, y1), (2, z0), (3, y3), (5, y5), (7, y7), (8, y8), (18, y18), (20, y20), (21, y21), (22, y22), (23, y23), (31, y31), (36, y36), (38, y38), (39, y39), (40, y40), (41, y41), (70, y70), (79, y79)] := fun y0 y1 y2 y3 y5 y7 y8 y18 y20 y21 y22 y23 y31 y36 y38 y39 y40 y41 y70 y79 z0 => rfl
                  refine R_nil (tr _ _ _ _ _ _ _ _ _ _ _ _ _ _ _ _ _ _ _ _ _) ?_; clear tr
                  refine then_n ?_
                  refine at_ret rfl ?_
                  refine blk_r ?_
                  refine then_r ?_
                  refine then_r ?_
                  refine blk_r ?_
                  refine then_r ?_
                  refine fpure ?_
                  refine ⟨?_, rfl⟩
                  have hse : prErr P.length (gt L v) = 1 := by unfold prErr; rw [if_pos (by omega)]
                  have hfe : ferr (fun i => prErr P.length (gt L i)) L.length = 1 := by rw [ferr_at hy (by omega) _ (by omega), hse]
                  rw [rchkS, if_neg (by omega), if_neg (by omega), if_neg (by omega), if_pos (by omega), hfe]
                · try simp only [decide_eq_true_eq, decide_eq_false_iff_not, Bool.not_eq_true', Bool.not_eq_false', beq_iff_eq, beq_eq_false_iff_ne, ne_eq] at h10
                  refine Ry ?_
                  refine Rq ?_
                  refine Ry ?_
                  refine Rq ?_
                  refine Ry ?_
                  refine Rq ?_
                  refine Ry ?_
                  refine Rq ?_
                  refine Rq ?_
                  refine Rq ?_
                  refine Rp_split (fun h11 => ?_) (fun h11 => ?_)
                  · try simp only [decide_eq_true_eq, decide_eq_false_iff_not, Bool.not_eq_true', Bool.not_eq_false', beq_iff_eq, beq_eq_false_iff_ne, ne_eq] at h11
                    refine Rn ?_
                    refine Rn ?_
                    refine Rn ?_
                    refine Rn ?_
                    refine Rn ?_
                    refine Rq ?_
                    have tr : ∀ y0 y1 y2 y3 y5 y7 y8 y18 y20 y21 y22 y23 y31 y36 y38 y39 y40 y41 y70 y79 z0 z1 z2 z3 z4 z5 z6 z7 z8 z9 z10 z11 z12 z13 z14 z15 z16 z17 z18 z19 z20 z21 z22 z23 z24 z25 z26 : AV, trim [(70, z26), (69, z25), (68, z24), (67, z23), (66, z22), (65, z21), (64, z20), (63, z19), (62, z18), (61, z17), (60, z16), (59, z15), (58, z14), (57, z13), (56, z12), (55, z11), (54, z10), (53, z9), (52, z8), (51, z7), (50, z6), (49, z5), (48, z4), (47, z3), (46, z2), (45, z1), (44, z0), (0, y0), (1, y1), (2, y2), (3, y3), (5, y5), (7, y7), (8, y8), (18, y18), (20, y20), (21, y21), (22, y22), (23, y23), (31, y31), (36, y36), (38, y38), (39, y39), (40, y40), (41, y41), (70, y70), (79, y79)] [(0, y0), (1, y1), (2, y2), (3, y3), (5, y5), (7, y7), (8, y8), (18, y18), (20, y20), (21, y21), (22, y22), (23, y23), (31, y31), (36, y36), (38, y38), (39, y39), (40, y40), (41, y41), (70, y70), (79, y79)] = [(0, y0), (1, y1), (2, y2), (3, y3), (5, y5), (7, y7), (8, y8), (18, y18), (20, y20), (21, y21), (22, y22), (23, y23), (31, y31), (36, y36), (38, y38), (39, y39), (40, y40), (41, y41), (70, z26), (79, y79)] := fun y0 y1 y2 y3 y5 y7 y8 y18 y20 y21 y22 y23 y31 y36 y38 y39 y40 y41 y70 y79 z0 z1 z2 z3 z4 z5 z6 z7 z8 z9 z10 z11 z12 z13 z14 z15 z16 z17 z18 z19 z20 z21 z22 z23 z24 z25 z26 => rfl
                    refine R_nil (tr _ _ _ _ _ _ _ _ _ _ _ _ _ _ _ _ _ _ _ _ _ _ _ _ _ _ _ _ _ _ _ _ _ _ _ _ _ _ _ _ _ _ _ _ _ _ _) ?_; clear tr
                    refine then_n ?_
                    refine cdt ?_
                    refine at_seq rfl ?_
                    refine rg rfl ?_
                    refine Rq ?_
                    have tr : ∀ y0 y1 y2 y3 y5 y7 y8 y18 y20 y21 y22 y23 y31 y36 y38 y39 y40 y41 y70 y79 z0 : AV, trim [(2, z0), (0, y0), (1, y1), (2, y2), (3, y3), (5, y5), (7, y7), (8, y8), (18, y18), (20, y20), (21, y21), (22, y22), (23, y23), (31, y31), (36, y36), (38, y38), (39, y39), (40, y40), (41, y41), (70, y70), (79, y79)] [(0, y0), (1, y1), (2, y2), (3, y3), (5, y5), (7, y7), (8, y8), (18, y18), (20, y20), (21, y21), (22, y22), (23, y23), (31, y31), (36, y36), (38, y38), (39, y39), (40, y40), (41, y41), (70, y70), (79, y79)] = [(0, y0), (1, y1), (2, z0), (3, y3), (5, y5), (7, y7), (8, y8), (18, y18), (20, y20), (21, y21), (22, y22), (23, y23), (31, y31), (36, y36), (38, y38), (39, y39), (40, y40), (41, y41), (70, y70), (79, y79)] := fun y0 y1 y2 y3 y5 y7 y8 y18 y20 y21 y22 y23 y31 y36 y38 y39 y40 y41 y70 y79 z0 => rfl
                    refine R_nil (tr _ _ _ _ _ _ _ _ _ _ _ _ _ _ _ _ _ _ _ _ _) ?_; clear tr
                    refine then_n ?_
                    refine at_ret rfl ?_
                    refine blk_r ?_
                    refine then_r ?_
                    refine then_r ?_
                    refine blk_r ?_
                    refine then_r ?_
                    refine fpure ?_
                    refine ⟨?_, rfl⟩
                    have hse : prErr P.length (gt L v) = 1 := by unfold prErr; rw [if_pos (by omega)]
                    have hfe : ferr (fun i => prErr P.length (gt L i)) L.length = 1 := by rw [ferr_at hy (by omega) _ (by omega), hse]
                    rw [rchkS, if_neg (by omega), if_neg (by omega), if_neg (by omega), if_pos (by omega), hfe]
                  · try simp only [decide_eq_true_eq, decide_eq_false_iff_not, Bool.not_eq_true', Bool.not_eq_false', beq_iff_eq, beq_eq_false_iff_ne, ne_eq] at h11
                    refine Ry ?_
                    refine Rq ?_
                    refine Ry ?_
                    refine Rq ?_
                    refine Ry ?_
                    refine Rq ?_
                    refine Ry ?_
                    refine Rq ?_
                    refine Ry ?_
                    refine Rq ?_
                    refine Rq ?_
                    have tr : ∀ y0 y1 y2 y3 y5 y7 y8 y18 y20 y21 y22 y23 y31 y36 y38 y39 y40 y41 y70 y79 z0 z1 z2 z3 z4 z5 z6 z7 z8 z9 z10 z11 z12 z13 z14 z15 z16 z17 z18 z19 z20 z21 z22 z23 z24 z25 z26 : AV, trim [(70, z26), (69, z25), (68, z24), (67, z23), (66, z22), (65, z21), (64, z20), (63, z19), (62, z18), (61, z17), (60, z16), (59, z15), (58, z14), (57, z13), (56, z12), (55, z11), (54, z10), (53, z9), (52, z8), (51, z7), (50, z6), (49, z5), (48, z4), (47, z3), (46, z2), (45, z1), (44, z0), (0, y0), (1, y1), (2, y2), (3, y3), (5, y5), (7, y7), (8, y8), (18, y18), (20, y20), (21, y21), (22, y22), (23, y23), (31, y31), (36, y36), (38, y38), (39, y39), (40, y40), (41, y41), (70, y70), (79, y79)] [(0, y0), (1, y1), (2, y2), (3, y3), (5, y5), (7, y7), (8, y8), (18, y18), (20, y20), (21, y21), (22, y22), (23, y23), (31, y31), (36, y36), (38, y38), (39, y39), (40, y40), (41, y41), (70, y70), (79, y79)] = [(0, y0), (1, y1), (2, y2), (3, y3), (5, y5), (7, y7), (8, y8), (18, y18), (20, y20), (21, y21), (22, y22), (23, y23), (31, y31), (36, y36), (38, y38), (39, y39), (40, y40), (41, y41), (70, z26), (79, y79)] := fun y0 y1 y2 y3 y5 y7 y8 y18 y20 y21 y22 y23 y31 y36 y38 y39 y40 y41 y70 y79 z0 z1 z2 z3 z4 z5 z6 z7 z8 z9 z10 z11 z12 z13 z14 z15 z16 z17 z18 z19 z20 z21 z22 z23 z24 z25 z26 => rfl
                    refine R_nil (tr _ _ _ _ _ _ _ _ _ _ _ _ _ _ _ _ _ _ _ _ _ _ _ _ _ _ _ _ _ _ _ _ _ _ _ _ _ _ _ _ _ _ _ _ _ _ _) ?_; clear tr
                    refine then_n ?_
                    refine cdd (fun h12 => ?_) (fun h12 => ?_)
                    · try simp only [decide_eq_true_eq, decide_eq_false_iff_not, Bool.not_eq_true', Bool.not_eq_false', beq_iff_eq, beq_eq_false_iff_ne, ne_eq] at h12
                      refine at_seq rfl ?_
                      refine rg rfl ?_
                      refine Rq ?_
                      have tr : ∀ y0 y1 y2 y3 y5 y7 y8 y18 y20 y21 y22 y23 y31 y36 y38 y39 y40 y41 y70 y79 z0 : AV, trim [(2, z0), (0, y0), (1, y1), (2, y2), (3, y3), (5, y5), (7, y7), (8, y8), (18, y18), (20, y20), (21, y21), (22, y22), (23, y23), (31, y31), (36, y36), (38, y38), (39, y39), (40, y40), (41, y41), (70, y70), (79, y79)] [(0, y0), (1, y1), (2, y2), (3, y3), (5, y5), (7, y7), (8, y8), (18, y18), (20, y20), (21, y21), (22, y22), (23, y23), (31, y31), (36, y36), (38, y38), (39, y39), (40, y40), (41, y41), (70, y70), (79, y79)] = [(0, y0), (1, y1), (2, z0), (3, y3), (5, y5), (7, y7), (8, y8), (18, y18), (20, y20), (21, y21), (22, y22), (23, y23), (31, y31), (36, y36), (38, y38), (39, y39), (40, y40), (41, y41), (70, y70), (79, y79)] := fun y0 y1 y2 y3 y5 y7 y8 y18 y20 y21 y22 y23 y31 y36 y38 y39 y40 y41 y70 y79 z0 => rfl
                      refine R_nil (tr _ _ _ _ _ _ _ _ _ _ _ _ _ _ _ _ _ _ _ _ _) ?_; clear tr
                      refine then_n ?_
                      refine at_ret rfl ?_
                      refine blk_r ?_
                      refine then_r ?_
                      refine then_r ?_
                      refine blk_r ?_
                      refine then_r ?_
                      refine fpure ?_
                      refine ⟨?_, rfl⟩
                      have hse : prErr P.length (gt L v) = 1 := by unfold prErr; rw [if_pos (by omega)]
                      have hfe : ferr (fun i => prErr P.length (gt L i)) L.length = 1 := by rw [ferr_at hy (by omega) _ (by omega), hse]
                      rw [rchkS, if_neg (by omega), if_neg (by omega), if_neg (by omega), if_pos (by omega), hfe]
                    · try simp only [decide_eq_true_eq, decide_eq_false_iff_not, Bool.not_eq_true', Bool.not_eq_false', beq_iff_eq, beq_eq_false_iff_ne, ne_eq] at h12
                      refine at_skip rfl ?_
                      refine blk_n ?_
                      refine then_n ?_
                      refine rg rfl ?_
                      refine Rq ?_
                      refine Rq ?_
                      have tr : ∀ y0 y1 y2 y3 y5 y7 y8 y18 y20 y21 y22 y23 y31 y36 y38 y39 y40 y41 y70 y79 z0 z1 : AV, trim [(40, z1), (71, z0), (0, y0), (1, y1), (2, y2), (3, y3), (5, y5), (7, y7), (8, y8), (18, y18), (20, y20), (21, y21), (22, y22), (23, y23), (31, y31), (36, y36), (38, y38), (39, y39), (40, y40), (41, y41), (70, y70), (79, y79)] [(0, y0), (1, y1), (2, y2), (3, y3), (5, y5), (7, y7), (8, y8), (18, y18), (20, y20), (21, y21), (22, y22), (23, y23), (31, y31), (36, y36), (38, y38), (39, y39), (40, y40), (41, y41), (70, y70), (79, y79)] = [(0, y0), (1, y1), (2, y2), (3, y3), (5, y5), (7, y7), (8, y8), (18, y18), (20, y20), (21, y21), (22, y22), (23, y23), (31, y31), (36, y36), (38, y38), (39, y39), (40, z1), (41, y41), (70, y70), (79, y79)] := fun y0 y1 y2 y3 y5 y7 y8 y18 y20 y21 y22 y23 y31 y36 y38 y39 y40 y41 y70 y79 z0 z1 => rfl
                      refine R_nil (tr _ _ _ _ _ _ _ _ _ _ _ _ _ _ _ _ _ _ _ _ _ _) ?_; clear tr
                      refine then_n ?_
                      exact ⟨_, _, ⟨v + 1, X ++ [some (prC (gt L v))], _, _, _, _, rfl, rfl, by simp; rfl, by omega, by exact ferr_ok hy (by show prErr P.length (gt L v) = 0; unfold prErr; rw [if_neg (by omega)])⟩, by rfl, by omega⟩
          · try simp only [decide_eq_true_eq, decide_eq_false_iff_not, Bool.not_eq_true', Bool.not_eq_false', beq_iff_eq, beq_eq_false_iff_ne, ne_eq] at h7
            refine at_exit rfl ?_
            refine then_x ?_
            refine then_x ?_
            refine blk_x ?_
            refine then_n ?_
            refine at_seq rfl ?_
            refine at_seq rfl ?_
            refine rg rfl ?_
            have hye : ferr (fun i => prErr P.length (gt L i)) L.length = 0 := by rw [show L.length = v by omega]; exact hy
            refine Rq ?_
            refine Rcall ?_
            refine ACall_mono (rpairs_ok _ _ P L (by omega) (fun i hi => (pr_of (ferr_all hye i hi)))) ?_
            rintro r H6 ⟨⟨N, rfl⟩, rfl⟩
            refine Rq ?_
            refine Rq ?_
            refine Rq ?_
            refine Rq ?_
            refine Rq ?_
            have tr : ∀ y0 y1 y2 y3 y5 y7 y8 y18 y20 y21 y22 y23 y31 y36 y38 y39 y40 y41 y70 y79 z0 z1 z2 z3 z4 z5 z6 : AV, trim [(9, z6), (8, z5), (76, z4), (75, z3), (72, z2), (74, z1), (73, z0), (0, y0), (1, y1), (2, y2), (3, y3), (5, y5), (7, y7), (8, y8), (18, y18), (20, y20), (21, y21), (22, y22), (23, y23), (31, y31), (36, y36), (38, y38), (39, y39), (40, y40), (41, y41), (70, y70), (79, y79)] [(0, y0), (1, y1), (2, y2), (3, y3), (5, y5), (7, y7), (8, y8), (18, y18), (20, y20), (21, y21), (22, y22), (23, y23), (31, y31), (36, y36), (38, y38), (39, y39), (40, y40), (41, y41), (70, y70), (79, y79)] = [(0, y0), (1, y1), (2, y2), (3, y3), (5, y5), (7, y7), (8, z5), (18, y18), (20, y20), (21, y21), (22, y22), (23, y23), (31, y31), (36, y36), (38, y38), (39, y39), (40, y40), (41, y41), (70, y70), (79, y79)] := fun y0 y1 y2 y3 y5 y7 y8 y18 y20 y21 y22 y23 y31 y36 y38 y39 y40 y41 y70 y79 z0 z1 z2 z3 z4 z5 z6 => rfl
            refine R_nil (tr _ _ _ _ _ _ _ _ _ _ _ _ _ _ _ _ _ _ _ _ _ _ _ _ _ _ _) ?_; clear tr
            refine then_n ?_
            refine at_seq rfl ?_
            refine rg rfl ?_
            refine Rq ?_
            refine R_q rfl (by simp (disch := first | omega | (simp only [List.length_map, List.length_append, List.length_set, List.length_cons, List.length_nil, List.length_take, List.length_drop]; omega)) only [go_sem, ↓reduceIte, Nat.reduceEqDiff, reduceCtorEq]; exact refA_len L) ?_
            refine Rq ?_
            have tr : ∀ y0 y1 y2 y3 y5 y7 y8 y18 y20 y21 y22 y23 y31 y36 y38 y39 y40 y41 y70 y79 z0 z1 z2 : AV, trim [(79, z2), (78, z1), (77, z0), (0, y0), (1, y1), (2, y2), (3, y3), (5, y5), (7, y7), (8, y8), (18, y18), (20, y20), (21, y21), (22, y22), (23, y23), (31, y31), (36, y36), (38, y38), (39, y39), (40, y40), (41, y41), (70, y70), (79, y79)] [(0, y0), (1, y1), (2, y2), (3, y3), (5, y5), (7, y7), (8, y8), (18, y18), (20, y20), (21, y21), (22, y22), (23, y23), (31, y31), (36, y36), (38, y38), (39, y39), (40, y40), (41, y41), (70, y70), (79, y79)] = [(0, y0), (1, y1), (2, y2), (3, y3), (5, y5), (7, y7), (8, y8), (18, y18), (20, y20), (21, y21), (22, y22), (23, y23), (31, y31), (36, y36), (38, y38), (39, y39), (40, y40), (41, y41), (70, y70), (79, z2)] := fun y0 y1 y2 y3 y5 y7 y8 y18 y20 y21 y22 y23 y31 y36 y38 y39 y40 y41 y70 y79 z0 z1 z2 => rfl
            refine R_nil (tr _ _ _ _ _ _ _ _ _ _ _ _ _ _ _ _ _ _ _ _ _ _ _) ?_; clear tr
            refine then_n ?_
            refine cdd (fun h13 => ?_) (fun h13 => ?_)
            · try simp only [decide_eq_true_eq, decide_eq_false_iff_not, Bool.not_eq_true', Bool.not_eq_false', beq_iff_eq, beq_eq_false_iff_ne, ne_eq] at h13
              refine at_seq rfl ?_
              refine rg rfl ?_
              refine Rq ?_
              have tr : ∀ y0 y1 y2 y3 y5 y7 y8 y18 y20 y21 y22 y23 y31 y36 y38 y39 y40 y41 y70 y79 z0 : AV, trim [(2, z0), (0, y0), (1, y1), (2, y2), (3, y3), (5, y5), (7, y7), (8, y8), (18, y18), (20, y20), (21, y21), (22, y22), (23, y23), (31, y31), (36, y36), (38, y38), (39, y39), (40, y40), (41, y41), (70, y70), (79, y79)] [(0, y0), (1, y1), (2, y2), (3, y3), (5, y5), (7, y7), (8, y8), (18, y18), (20, y20), (21, y21), (22, y22), (23, y23), (31, y31), (36, y36), (38, y38), (39, y39), (40, y40), (41, y41), (70, y70), (79, y79)] = [(0, y0), (1, y1), (2, z0), (3, y3), (5, y5), (7, y7), (8, y8), (18, y18), (20, y20), (21, y21), (22, y22), (23, y23), (31, y31), (36, y36), (38, y38), (39, y39), (40, y40), (41, y41), (70, y70), (79, y79)] := fun y0 y1 y2 y3 y5 y7 y8 y18 y20 y21 y22 y23 y31 y36 y38 y39 y40 y41 y70 y79 z0 => rfl
              refine R_nil (tr _ _ _ _ _ _ _ _ _ _ _ _ _ _ _ _ _ _ _ _ _) ?_; clear tr
              refine then_n ?_
              refine at_ret rfl ?_
              refine then_r ?_
              refine fpure ?_
              refine ⟨?_, rfl⟩
              rw [rchkS, if_neg (by omega), if_neg (by omega), if_neg (by omega), if_neg (by omega), if_pos (by omega)]
            · try simp only [decide_eq_true_eq, decide_eq_false_iff_not, Bool.not_eq_true', Bool.not_eq_false', beq_iff_eq, beq_eq_false_iff_ne, ne_eq] at h13
              refine at_skip rfl ?_
              refine then_n ?_
              refine at_seq rfl ?_
              refine rg rfl ?_
              refine Rq ?_
              have tr : ∀ y0 y1 y2 y3 y5 y7 y8 y18 y20 y21 y22 y23 y31 y36 y38 y39 y40 y41 y70 y79 z0 : AV, trim [(2, z0), (0, y0), (1, y1), (2, y2), (3, y3), (5, y5), (7, y7), (8, y8), (18, y18), (20, y20), (21, y21), (22, y22), (23, y23), (31, y31), (36, y36), (38, y38), (39, y39), (40, y40), (41, y41), (70, y70), (79, y79)] [(0, y0), (1, y1), (2, y2), (3, y3), (5, y5), (7, y7), (8, y8), (18, y18), (20, y20), (21, y21), (22, y22), (23, y23), (31, y31), (36, y36), (38, y38), (39, y39), (40, y40), (41, y41), (70, y70), (79, y79)] = [(0, y0), (1, y1), (2, z0), (3, y3), (5, y5), (7, y7), (8, y8), (18, y18), (20, y20), (21, y21), (22, y22), (23, y23), (31, y31), (36, y36), (38, y38), (39, y39), (40, y40), (41, y41), (70, y70), (79, y79)] := fun y0 y1 y2 y3 y5 y7 y8 y18 y20 y21 y22 y23 y31 y36 y38 y39 y40 y41 y70 y79 z0 => rfl
              refine R_nil (tr _ _ _ _ _ _ _ _ _ _ _ _ _ _ _ _ _ _ _ _ _) ?_; clear tr
              refine then_n ?_
              refine at_ret rfl ?_
              refine fpure ?_
              refine ⟨?_, rfl⟩
              rw [rchkS, if_neg (by omega), if_neg (by omega), if_neg (by omega), if_neg (by omega), if_neg (by omega)]

end Go.Proofs.Ytdicnojnkbmdlaa
