/-
  Walks of chapter 38. The steps are written by program (walk.py).
-/
import Derived.Test.YtdkhgpdojjdadaaWM
import Derived.Test.YtdkhgpdojjdadaaWC
set_option linter.unusedSimpArgs false
set_option linter.unusedVariables false
set_option maxHeartbeats 40000000
set_option maxRecDepth 4000
namespace Go.Proofs.Ytdkhgpdojjdadaa
open Go Go.Am

theorem rovers_ok (lim : Nat) (H : Heap) (rows : Tb) (h91 : rows.length ≤ 91) (h2 : 2 ≤ rows.length) :
    ACall sig lim 40 [.agg [rowsAV rows]] H fun r H' => r = AV.i ((rows.length : Int) - 1) ∧ H' = H := by
  refine ACall_pure (fa := fa40) rfl rfl rfl rfl ?_
  have tr : ∀ a0 : AV, env0 fa40.keep [a0] = [(0, a0), (1, .any), (2, .any)] := fun a0 => rfl
  refine W_to (tr _) ?_; clear tr
  refine at_seq rfl ?_
  refine rg rfl ?_
  refine R_box rfl (by simp (disch := first | omega | (simp only [List.length_map, List.length_append, List.length_set, List.length_cons, List.length_nil, List.length_take, List.length_drop]; omega)) only [go_sem, ↓reduceIte, Nat.reduceEqDiff, reduceCtorEq]; rfl) rfl rfl ?_
  refine Rq ?_
  have tr : ∀ y0 y1 y2 z0 z1 : AV, trim [(2, z1), (1, z0), (0, y0), (1, y1), (2, y2)] [(0, y0), (1, y1), (2, y2)] = [(0, y0), (1, z0), (2, z1)] := fun y0 y1 y2 z0 z1 => rfl
  refine R_nil (tr _ _ _ _ _) ?_; clear tr
  refine then_n ?_
  refine at_seq rfl ?_
  refine rg rfl ?_
  refine Rq ?_
  refine Rq ?_
  refine Rq ?_
  refine Rq ?_
  refine Rq ?_
  refine Rq ?_
  have tr : ∀ y0 y1 y2 z0 z1 z2 z3 z4 z5 : AV, trim [(2, z5), (7, z4), (6, z3), (5, z2), (4, z1), (3, z0), (0, y0), (1, y1), (2, y2)] [(0, y0), (1, y1), (2, y2)] = [(0, y0), (1, y1), (2, z5)] := fun y0 y1 y2 z0 z1 z2 z3 z4 z5 => rfl
  refine R_nil (tr _ _ _ _ _ _ _ _ _) ?_; clear tr
  refine then_n ?_
  refine at_ret rfl ?_
  refine fpure ?_
  refine ⟨?_, rfl⟩
  congr 2
  omega

theorem rwickets_ok (lim : Nat) (H : Heap) (rows : Tb) (h2 : 2 ≤ rows.length) :
    ACall sig lim 41 [.agg [rowsAV rows]] H fun r H' => r = AV.i (gt rows 0).length ∧ H' = H := by
  refine ACall_pure (fa := fa41) rfl rfl rfl rfl ?_
  have tr : ∀ a0 : AV, env0 fa41.keep [a0] = [(0, a0), (1, .any), (2, .any), (6, .any)] := fun a0 => rfl
  refine W_to (tr _) ?_; clear tr
  refine at_seq rfl ?_
  refine rg rfl ?_
  refine R_box rfl (by simp (disch := first | omega | (simp only [List.length_map, List.length_append, List.length_set, List.length_cons, List.length_nil, List.length_take, List.length_drop]; omega)) only [go_sem, ↓reduceIte, Nat.reduceEqDiff, reduceCtorEq]; rfl) rfl rfl ?_
  refine Rq ?_
  have tr : ∀ y0 y1 y2 y6 z0 z1 : AV, trim [(2, z1), (1, z0), (0, y0), (1, y1), (2, y2), (6, y6)] [(0, y0), (1, y1), (2, y2), (6, y6)] = [(0, y0), (1, z0), (2, z1), (6, y6)] := fun y0 y1 y2 y6 z0 z1 => rfl
  refine R_nil (tr _ _ _ _ _ _) ?_; clear tr
  refine then_n ?_
  refine at_seq rfl ?_
  refine at_seq rfl ?_
  refine rg rfl ?_
  refine Rq ?_
  refine Rq ?_
  refine Rq ?_
  refine Rq ?_
  have tr : ∀ y0 y1 y2 y6 z0 z1 z2 z3 : AV, trim [(6, z3), (5, z2), (4, z1), (3, z0), (0, y0), (1, y1), (2, y2), (6, y6)] [(0, y0), (1, y1), (2, y2), (6, y6)] = [(0, y0), (1, y1), (2, y2), (6, z3)] := fun y0 y1 y2 y6 z0 z1 z2 z3 => rfl
  refine R_nil (tr _ _ _ _ _ _ _ _) ?_; clear tr
  refine then_n ?_
  refine cdd (fun h1 => ?_) (fun h1 => ?_)
  · try simp only [decide_eq_true_eq, decide_eq_false_iff_not, Bool.not_eq_true', Bool.not_eq_false', beq_iff_eq, beq_eq_false_iff_ne, ne_eq] at h1
    refine at_seq rfl ?_
    refine rg rfl ?_
    refine Rq ?_
    have tr : ∀ y0 y1 y2 y6 z0 : AV, trim [(2, z0), (0, y0), (1, y1), (2, y2), (6, y6)] [(0, y0), (1, y1), (2, y2), (6, y6)] = [(0, y0), (1, y1), (2, z0), (6, y6)] := fun y0 y1 y2 y6 z0 => rfl
    refine R_nil (tr _ _ _ _ _) ?_; clear tr
    refine then_n ?_
    refine at_ret rfl ?_
    refine then_r ?_
    exfalso; omega
  · try simp only [decide_eq_true_eq, decide_eq_false_iff_not, Bool.not_eq_true', Bool.not_eq_false', beq_iff_eq, beq_eq_false_iff_ne, ne_eq] at h1
    refine at_skip rfl ?_
    refine then_n ?_
    refine at_seq rfl ?_
    refine rg rfl ?_
    refine Rq ?_
    refine Rq ?_
    refine Rq ?_
    refine Rq ?_
    refine Rq ?_
    refine Rq ?_
    have tr : ∀ y0 y1 y2 y6 z0 z1 z2 z3 z4 z5 : AV, trim [(2, z5), (11, z4), (10, z3), (9, z2), (8, z1), (7, z0), (0, y0), (1, y1), (2, y2), (6, y6)] [(0, y0), (1, y1), (2, y2), (6, y6)] = [(0, y0), (1, y1), (2, z5), (6, y6)] := fun y0 y1 y2 y6 z0 z1 z2 z3 z4 z5 => rfl
    refine R_nil (tr _ _ _ _ _ _ _ _ _ _) ?_; clear tr
    refine then_n ?_
    refine at_ret rfl ?_
    refine fpure ?_
    exact ⟨rfl, rfl⟩

theorem ralike_ok (lim : Nat) (H : Heap) (a b : Tb) :
    ACall sig lim 37 [.agg [rowsAV a], .agg [rowsAV b]] H fun r H' => r = .v (.bool (alikeB a b)) ∧ H' = H := by
  refine ACall_pure (fa := fa37) rfl rfl rfl rfl ?_
  have tr : ∀ a0 a1 : AV, env0 fa37.keep [a0, a1] = [(0, a0), (1, a1), (2, .any), (3, .any), (4, .any)] := fun a0 a1 => rfl
  refine W_to (tr _ _) ?_; clear tr
  refine at_seq rfl ?_
  refine rg rfl ?_
  refine R_box rfl (by simp (disch := first | omega | (simp only [List.length_map, List.length_append, List.length_set, List.length_cons, List.length_nil, List.length_take, List.length_drop]; omega)) only [go_sem, ↓reduceIte, Nat.reduceEqDiff, reduceCtorEq]; rfl) rfl rfl ?_
  refine R_box rfl (by simp (disch := first | omega | (simp only [List.length_map, List.length_append, List.length_set, List.length_cons, List.length_nil, List.length_take, List.length_drop]; omega)) only [go_sem, ↓reduceIte, Nat.reduceEqDiff, reduceCtorEq]; rfl) rfl rfl ?_
  refine Rq ?_
  have tr : ∀ y0 y1 y2 y3 y4 z0 z1 z2 : AV, trim [(4, z2), (3, z1), (2, z0), (0, y0), (1, y1), (2, y2), (3, y3), (4, y4)] [(0, y0), (1, y1), (2, y2), (3, y3), (4, y4)] = [(0, y0), (1, y1), (2, z0), (3, z1), (4, z2)] := fun y0 y1 y2 y3 y4 z0 z1 z2 => rfl
  refine R_nil (tr _ _ _ _ _ _ _ _) ?_; clear tr
  refine then_n ?_
  refine at_seq rfl ?_
  refine rd rfl rfl ?_
  refine Qq ?_
  refine Qcall ?_
  refine ACall_eq (rshape_ok _ _ a) ⟨rfl, ?_⟩
  refine Qq ?_
  refine Qq ?_
  refine Qp_split (fun h1 => ?_) (fun h1 => ?_)
  · try simp only [decide_eq_true_eq, decide_eq_false_iff_not, Bool.not_eq_true', Bool.not_eq_false', beq_iff_eq, beq_eq_false_iff_ne, ne_eq] at h1
    refine Qy ?_
    refine Qq ?_
    refine Qy ?_
    refine Qcall ?_
    refine ACall_eq (rshape_ok _ _ b) ⟨rfl, ?_⟩
    refine Qy ?_
    refine Qq ?_
    refine Qq ?_
    refine Qq ?_
    refine Qp_split (fun h2 => ?_) (fun h2 => ?_)
    · try simp only [decide_eq_true_eq, decide_eq_false_iff_not, Bool.not_eq_true', Bool.not_eq_false', beq_iff_eq, beq_eq_false_iff_ne, ne_eq] at h2
      refine Qy ?_
      refine Qq ?_
      refine Qy ?_
      refine Qcall ?_
      have sa := shaped_of (by assumption : shapeS a = 0)
      have sb := shaped_of (by assumption : shapeS b = 0)
      have a2 := sa.two
      have a91 := sa.most
      have b2 := sb.two
      have b91 := sb.most
      refine ACall_eq (rovers_ok _ _ a a91 a2) ⟨rfl, ?_⟩
      refine Qy ?_
      refine Qq ?_
      refine Qy ?_
      refine Qcall ?_
      refine ACall_eq (rovers_ok _ _ b b91 b2) ⟨rfl, ?_⟩
      refine Qy ?_
      refine Qq ?_
      refine Qq ?_
      refine Qq ?_
      refine Qp_split (fun h3 => ?_) (fun h3 => ?_)
      · try simp only [decide_eq_true_eq, decide_eq_false_iff_not, Bool.not_eq_true', Bool.not_eq_false', beq_iff_eq, beq_eq_false_iff_ne, ne_eq] at h3
        refine Qy ?_
        refine Qq ?_
        refine Qy ?_
        refine Qcall ?_
        refine ACall_eq (rwickets_ok _ _ a a2) ⟨rfl, ?_⟩
        refine Qy ?_
        refine Qq ?_
        refine Qy ?_
        refine Qcall ?_
        refine ACall_eq (rwickets_ok _ _ b b2) ⟨rfl, ?_⟩
        refine Qy ?_
        refine Qq ?_
        refine Qq ?_
        refine Qq ?_
        refine Q_nil ?_
        have tr : ∀ y0 y1 y2 y3 y4 z0 z1 z2 z3 z4 z5 z6 z7 z8 z9 z10 z11 z12 z13 z14 z15 z16 z17 z18 z19 z20 z21 z22 : AV, trim [(4, z22), (26, z21), (25, z20), (24, z19), (23, z18), (22, z17), (21, z16), (20, z15), (19, z14), (18, z13), (17, z12), (16, z11), (15, z10), (14, z9), (13, z8), (12, z7), (11, z6), (10, z5), (9, z4), (8, z3), (7, z2), (6, z1), (5, z0), (0, y0), (1, y1), (2, y2), (3, y3), (4, y4)] [(0, y0), (1, y1), (2, y2), (3, y3), (4, y4)] = [(0, y0), (1, y1), (2, y2), (3, y3), (4, z22)] := fun y0 y1 y2 y3 y4 z0 z1 z2 z3 z4 z5 z6 z7 z8 z9 z10 z11 z12 z13 z14 z15 z16 z17 z18 z19 z20 z21 z22 => rfl
        refine R_nil (tr _ _ _ _ _ _ _ _ _ _ _ _ _ _ _ _ _ _ _ _ _ _ _ _ _ _ _ _) ?_; clear tr
        refine then_n ?_
        refine at_ret rfl ?_
        refine fpure ?_
        refine ⟨?_, rfl⟩
        by_cases hl : (gt a 0).length = (gt b 0).length
        · rw [alikeB_t ⟨by omega, by omega, by omega, hl⟩, hl]; simp
        · rw [alikeB_f (fun hh => hl hh.2.2.2)]; congr 2; simp; omega
      · try simp only [decide_eq_true_eq, decide_eq_false_iff_not, Bool.not_eq_true', Bool.not_eq_false', beq_iff_eq, beq_eq_false_iff_ne, ne_eq] at h3
        refine Qn ?_
        refine Qn ?_
        refine Qn ?_
        refine Qn ?_
        refine Qn ?_
        refine Qq ?_
        refine Qq ?_
        refine Q_nil ?_
        have tr : ∀ y0 y1 y2 y3 y4 z0 z1 z2 z3 z4 z5 z6 z7 z8 z9 z10 z11 z12 z13 z14 z15 z16 z17 z18 z19 z20 z21 z22 : AV, trim [(4, z22), (26, z21), (25, z20), (24, z19), (23, z18), (22, z17), (21, z16), (20, z15), (19, z14), (18, z13), (17, z12), (16, z11), (15, z10), (14, z9), (13, z8), (12, z7), (11, z6), (10, z5), (9, z4), (8, z3), (7, z2), (6, z1), (5, z0), (0, y0), (1, y1), (2, y2), (3, y3), (4, y4)] [(0, y0), (1, y1), (2, y2), (3, y3), (4, y4)] = [(0, y0), (1, y1), (2, y2), (3, y3), (4, z22)] := fun y0 y1 y2 y3 y4 z0 z1 z2 z3 z4 z5 z6 z7 z8 z9 z10 z11 z12 z13 z14 z15 z16 z17 z18 z19 z20 z21 z22 => rfl
        refine R_nil (tr _ _ _ _ _ _ _ _ _ _ _ _ _ _ _ _ _ _ _ _ _ _ _ _ _ _ _ _) ?_; clear tr
        refine then_n ?_
        refine at_ret rfl ?_
        refine fpure ?_
        refine ⟨?_, rfl⟩
        rw [alikeB_f (fun hh => by unfold Alike at hh; omega)]
    · try simp only [decide_eq_true_eq, decide_eq_false_iff_not, Bool.not_eq_true', Bool.not_eq_false', beq_iff_eq, beq_eq_false_iff_ne, ne_eq] at h2
      refine Qn ?_
      refine Qn ?_
      refine Qn ?_
      refine Qn ?_
      refine Qn ?_
      refine Qq ?_
      refine Qq ?_
      refine Qn ?_
      refine Qn ?_
      refine Qn ?_
      refine Qn ?_
      refine Qn ?_
      refine Qq ?_
      refine Qq ?_
      refine Q_nil ?_
      have tr : ∀ y0 y1 y2 y3 y4 z0 z1 z2 z3 z4 z5 z6 z7 z8 z9 z10 z11 z12 z13 z14 z15 z16 z17 z18 z19 z20 z21 z22 : AV, trim [(4, z22), (26, z21), (25, z20), (24, z19), (23, z18), (22, z17), (21, z16), (20, z15), (19, z14), (18, z13), (17, z12), (16, z11), (15, z10), (14, z9), (13, z8), (12, z7), (11, z6), (10, z5), (9, z4), (8, z3), (7, z2), (6, z1), (5, z0), (0, y0), (1, y1), (2, y2), (3, y3), (4, y4)] [(0, y0), (1, y1), (2, y2), (3, y3), (4, y4)] = [(0, y0), (1, y1), (2, y2), (3, y3), (4, z22)] := fun y0 y1 y2 y3 y4 z0 z1 z2 z3 z4 z5 z6 z7 z8 z9 z10 z11 z12 z13 z14 z15 z16 z17 z18 z19 z20 z21 z22 => rfl
      refine R_nil (tr _ _ _ _ _ _ _ _ _ _ _ _ _ _ _ _ _ _ _ _ _ _ _ _ _ _ _ _) ?_; clear tr
      refine then_n ?_
      refine at_ret rfl ?_
      refine fpure ?_
      refine ⟨?_, rfl⟩
      rw [alikeB_f (fun hh => by unfold Alike at hh; omega)]
  · try simp only [decide_eq_true_eq, decide_eq_false_iff_not, Bool.not_eq_true', Bool.not_eq_false', beq_iff_eq, beq_eq_false_iff_ne, ne_eq] at h1
    refine Qn ?_
    refine Qn ?_
    refine Qn ?_
    refine Qq ?_
    refine Qq ?_
    refine Qn ?_
    refine Qn ?_
    refine Qn ?_
    refine Qn ?_
    refine Qn ?_
    refine Qq ?_
    refine Qq ?_
    refine Qn ?_
    refine Qn ?_
    refine Qn ?_
    refine Qn ?_
    refine Qn ?_
    refine Qq ?_
    refine Qq ?_
    refine Q_nil ?_
    have tr : ∀ y0 y1 y2 y3 y4 z0 z1 z2 z3 z4 z5 z6 z7 z8 z9 z10 z11 z12 z13 z14 z15 z16 z17 z18 z19 z20 z21 z22 : AV, trim [(4, z22), (26, z21), (25, z20), (24, z19), (23, z18), (22, z17), (21, z16), (20, z15), (19, z14), (18, z13), (17, z12), (16, z11), (15, z10), (14, z9), (13, z8), (12, z7), (11, z6), (10, z5), (9, z4), (8, z3), (7, z2), (6, z1), (5, z0), (0, y0), (1, y1), (2, y2), (3, y3), (4, y4)] [(0, y0), (1, y1), (2, y2), (3, y3), (4, y4)] = [(0, y0), (1, y1), (2, y2), (3, y3), (4, z22)] := fun y0 y1 y2 y3 y4 z0 z1 z2 z3 z4 z5 z6 z7 z8 z9 z10 z11 z12 z13 z14 z15 z16 z17 z18 z19 z20 z21 z22 => rfl
    refine R_nil (tr _ _ _ _ _ _ _ _ _ _ _ _ _ _ _ _ _ _ _ _ _ _ _ _ _ _ _ _) ?_; clear tr
    refine then_n ?_
    refine at_ret rfl ?_
    refine fpure ?_
    refine ⟨?_, rfl⟩
    rw [alikeB_f (fun hh => by unfold Alike at hh; omega)]

theorem rcovers_ok (lim : Nat) (H : Heap) (a b : Tb) :
    ACall sig lim 23 [.agg [rowsAV a], .agg [rowsAV b]] H fun r H' => r = .v (.bool (coversB a b)) ∧ H' = H := by
  refine ACall_pure (fa := fa23) rfl rfl rfl rfl ?_
  have tr : ∀ a0 a1 : AV, env0 fa23.keep [a0, a1] = [(0, a0), (1, a1), (2, .any), (3, .any), (4, .any), (5, .any), (6, .any), (7, .any), (8, .any), (12, .any), (14, .any), (15, .any), (16, .any), (17, .any), (21, .any), (22, .any), (23, .any), (24, .any), (37, .any)] := fun a0 a1 => rfl
  refine W_to (tr _ _) ?_; clear tr
  refine at_seq rfl ?_
  refine rg rfl ?_
  refine R_box rfl (by simp (disch := first | omega | (simp only [List.length_map, List.length_append, List.length_set, List.length_cons, List.length_nil, List.length_take, List.length_drop]; omega)) only [go_sem, ↓reduceIte, Nat.reduceEqDiff, reduceCtorEq]; rfl) rfl rfl ?_
  refine R_box rfl (by simp (disch := first | omega | (simp only [List.length_map, List.length_append, List.length_set, List.length_cons, List.length_nil, List.length_take, List.length_drop]; omega)) only [go_sem, ↓reduceIte, Nat.reduceEqDiff, reduceCtorEq]; rfl) rfl rfl ?_
  refine Rq ?_
  have tr : ∀ y0 y1 y2 y3 y4 y5 y6 y7 y8 y12 y14 y15 y16 y17 y21 y22 y23 y24 y37 z0 z1 z2 : AV, trim [(4, z2), (3, z1), (2, z0), (0, y0), (1, y1), (2, y2), (3, y3), (4, y4), (5, y5), (6, y6), (7, y7), (8, y8), (12, y12), (14, y14), (15, y15), (16, y16), (17, y17), (21, y21), (22, y22), (23, y23), (24, y24), (37, y37)] [(0, y0), (1, y1), (2, y2), (3, y3), (4, y4), (5, y5), (6, y6), (7, y7), (8, y8), (12, y12), (14, y14), (15, y15), (16, y16), (17, y17), (21, y21), (22, y22), (23, y23), (24, y24), (37, y37)] = [(0, y0), (1, y1), (2, z0), (3, z1), (4, z2), (5, y5), (6, y6), (7, y7), (8, y8), (12, y12), (14, y14), (15, y15), (16, y16), (17, y17), (21, y21), (22, y22), (23, y23), (24, y24), (37, y37)] := fun y0 y1 y2 y3 y4 y5 y6 y7 y8 y12 y14 y15 y16 y17 y21 y22 y23 y24 y37 z0 z1 z2 => rfl
  refine R_nil (tr _ _ _ _ _ _ _ _ _ _ _ _ _ _ _ _ _ _ _ _ _ _) ?_; clear tr
  refine then_n ?_
  refine at_seq rfl ?_
  refine at_seq rfl ?_
  refine rg rfl ?_
  refine Rq ?_
  refine Rq ?_
  refine Rcall ?_
  refine ACall_eq (ralike_ok _ _ a b) ?_
  refine Rq ?_
  have tr : ∀ y0 y1 y2 y3 y4 y5 y6 y7 y8 y12 y14 y15 y16 y17 y21 y22 y23 y24 y37 z0 z1 z2 z3 : AV, trim [(12, z3), (11, z2), (10, z1), (9, z0), (0, y0), (1, y1), (2, y2), (3, y3), (4, y4), (5, y5), (6, y6), (7, y7), (8, y8), (12, y12), (14, y14), (15, y15), (16, y16), (17, y17), (21, y21), (22, y22), (23, y23), (24, y24), (37, y37)] [(0, y0), (1, y1), (2, y2), (3, y3), (4, y4), (5, y5), (6, y6), (7, y7), (8, y8), (12, y12), (14, y14), (15, y15), (16, y16), (17, y17), (21, y21), (22, y22), (23, y23), (24, y24), (37, y37)] = [(0, y0), (1, y1), (2, y2), (3, y3), (4, y4), (5, y5), (6, y6), (7, y7), (8, y8), (12, z3), (14, y14), (15, y15), (16, y16), (17, y17), (21, y21), (22, y22), (23, y23), (24, y24), (37, y37)] := fun y0 y1 y2 y3 y4 y5 y6 y7 y8 y12 y14 y15 y16 y17 y21 y22 y23 y24 y37 z0 z1 z2 z3 => rfl
  refine R_nil (tr _ _ _ _ _ _ _ _ _ _ _ _ _ _ _ _ _ _ _ _ _ _ _) ?_; clear tr
  refine then_n ?_
  refine cdd (fun h1 => ?_) (fun h1 => ?_)
  · try simp only [decide_eq_true_eq, decide_eq_false_iff_not, Bool.not_eq_true', Bool.not_eq_false', beq_iff_eq, beq_eq_false_iff_ne, ne_eq] at h1
    refine at_seq rfl ?_
    refine rg rfl ?_
    refine Rq ?_
    have tr : ∀ y0 y1 y2 y3 y4 y5 y6 y7 y8 y12 y14 y15 y16 y17 y21 y22 y23 y24 y37 z0 : AV, trim [(4, z0), (0, y0), (1, y1), (2, y2), (3, y3), (4, y4), (5, y5), (6, y6), (7, y7), (8, y8), (12, y12), (14, y14), (15, y15), (16, y16), (17, y17), (21, y21), (22, y22), (23, y23), (24, y24), (37, y37)] [(0, y0), (1, y1), (2, y2), (3, y3), (4, y4), (5, y5), (6, y6), (7, y7), (8, y8), (12, y12), (14, y14), (15, y15), (16, y16), (17, y17), (21, y21), (22, y22), (23, y23), (24, y24), (37, y37)] = [(0, y0), (1, y1), (2, y2), (3, y3), (4, z0), (5, y5), (6, y6), (7, y7), (8, y8), (12, y12), (14, y14), (15, y15), (16, y16), (17, y17), (21, y21), (22, y22), (23, y23), (24, y24), (37, y37)] := fun y0 y1 y2 y3 y4 y5 y6 y7 y8 y12 y14 y15 y16 y17 y21 y22 y23 y24 y37 z0 => rfl
    refine R_nil (tr _ _ _ _ _ _ _ _ _ _ _ _ _ _ _ _ _ _ _ _) ?_; clear tr
    refine then_n ?_
    refine at_ret rfl ?_
    refine then_r ?_
    refine fpure ?_
    refine ⟨?_, rfl⟩
    rw [coversB_f (fun hh => of_alikeB_f h1 hh.1)]
  · try simp only [decide_eq_true_eq, decide_eq_false_iff_not, Bool.not_eq_true', Bool.not_eq_false', beq_iff_eq, beq_eq_false_iff_ne, ne_eq] at h1
    refine at_skip rfl ?_
    refine then_n ?_
    refine at_seq rfl ?_
    refine at_seq rfl ?_
    refine rg rfl ?_
    have hal := of_alikeB h1
    obtain ⟨ha, hb, hl, hl0⟩ := hal
    obtain ⟨a2, a91, a1, a10, al, ar⟩ := shaped_of ha
    obtain ⟨b2, b91, b1, b10, bl, br⟩ := shaped_of hb
    refine Rq ?_
    refine Rq ?_
    refine Rq ?_
    refine Rq ?_
    have tr : ∀ y0 y1 y2 y3 y4 y5 y6 y7 y8 y12 y14 y15 y16 y17 y21 y22 y23 y24 y37 z0 z1 z2 z3 : AV, trim [(16, z3), (15, z2), (14, z1), (13, z0), (0, y0), (1, y1), (2, y2), (3, y3), (4, y4), (5, y5), (6, y6), (7, y7), (8, y8), (12, y12), (14, y14), (15, y15), (16, y16), (17, y17), (21, y21), (22, y22), (23, y23), (24, y24), (37, y37)] [(0, y0), (1, y1), (2, y2), (3, y3), (4, y4), (5, y5), (6, y6), (7, y7), (8, y8), (12, y12), (14, y14), (15, y15), (16, y16), (17, y17), (21, y21), (22, y22), (23, y23), (24, y24), (37, y37)] = [(0, y0), (1, y1), (2, y2), (3, y3), (4, y4), (5, y5), (6, y6), (7, y7), (8, y8), (12, y12), (14, z1), (15, z2), (16, z3), (17, y17), (21, y21), (22, y22), (23, y23), (24, y24), (37, y37)] := fun y0 y1 y2 y3 y4 y5 y6 y7 y8 y12 y14 y15 y16 y17 y21 y22 y23 y24 y37 z0 z1 z2 z3 => rfl
    refine R_nil (tr _ _ _ _ _ _ _ _ _ _ _ _ _ _ _ _ _ _ _ _ _ _ _) ?_; clear tr
    refine then_n ?_
    refine at_block rfl ?_
    refine loop_n rfl (fun mm kv H' => ∃ u : Nat, ∃ x4 x5 x6 x7 x8 x17 x21 x22 x23 x24 x37 : AV, (kv = [(4, x4), (5, x5), (6, x6), (7, x7), (8, x8), (16, AV.i u), (17, x17), (21, x21), (22, x22), (23, x23), (24, x24), (37, x37)]) ∧ (mm = a.length - u) ∧ (H' = H ++ [some [rowsAV a]] ++ [some [rowsAV b]]) ∧ (u ≤ a.length) ∧ (∀ i, i < u → ∀ w, w < (gt a i).length → gt (gt b i) w ≤ gt (gt a i) w)) ⟨0, _, _, _, _, _, _, _, _, _, _, _, rfl, rfl, rfl, by omega, by intro i hi; omega⟩ (by rfl) ?_
    rintro mm kv H' ⟨u, x4, x5, x6, x7, x8, x17, x21, x22, x23, x24, x37, rfl, rfl, rfl, hu, hq⟩
    have tr : ∀ y0 y1 y2 y3 y4 y5 y6 y7 y8 y12 y14 y15 y16 y17 y21 y22 y23 y24 y37 z4 z5 z6 z7 z8 z16 z17 z21 z22 z23 z24 z37 : AV, upd [(0, y0), (1, y1), (2, y2), (3, y3), (4, y4), (5, y5), (6, y6), (7, y7), (8, y8), (12, y12), (14, y14), (15, y15), (16, y16), (17, y17), (21, y21), (22, y22), (23, y23), (24, y24), (37, y37)] [(4, z4), (5, z5), (6, z6), (7, z7), (8, z8), (16, z16), (17, z17), (21, z21), (22, z22), (23, z23), (24, z24), (37, z37)] = [(0, y0), (1, y1), (2, y2), (3, y3), (4, z4), (5, z5), (6, z6), (7, z7), (8, z8), (12, y12), (14, y14), (15, y15), (16, z16), (17, z17), (21, z21), (22, z22), (23, z23), (24, z24), (37, z37)] := fun y0 y1 y2 y3 y4 y5 y6 y7 y8 y12 y14 y15 y16 y17 y21 y22 y23 y24 y37 z4 z5 z6 z7 z8 z16 z17 z21 z22 z23 z24 z37 => rfl
    refine W_to (tr _ _ _ _ _ _ _ _ _ _ _ _ _ _ _ _ _ _ _ _ _ _ _ _ _ _ _ _ _ _ _) ?_; clear tr
    refine at_seq rfl ?_
    refine rg rfl ?_
    refine Rq ?_
    have tr : ∀ y0 y1 y2 y3 y4 y5 y6 y7 y8 y12 y14 y15 y16 y17 y21 y22 y23 y24 y37 z0 : AV, trim [(17, z0), (0, y0), (1, y1), (2, y2), (3, y3), (4, y4), (5, y5), (6, y6), (7, y7), (8, y8), (12, y12), (14, y14), (15, y15), (16, y16), (17, y17), (21, y21), (22, y22), (23, y23), (24, y24), (37, y37)] [(0, y0), (1, y1), (2, y2), (3, y3), (4, y4), (5, y5), (6, y6), (7, y7), (8, y8), (12, y12), (14, y14), (15, y15), (16, y16), (17, y17), (21, y21), (22, y22), (23, y23), (24, y24), (37, y37)] = [(0, y0), (1, y1), (2, y2), (3, y3), (4, y4), (5, y5), (6, y6), (7, y7), (8, y8), (12, y12), (14, y14), (15, y15), (16, y16), (17, z0), (21, y21), (22, y22), (23, y23), (24, y24), (37, y37)] := fun y0 y1 y2 y3 y4 y5 y6 y7 y8 y12 y14 y15 y16 y17 y21 y22 y23 y24 y37 z0 => rfl
    refine R_nil (tr _ _ _ _ _ _ _ _ _ _ _ _ _ _ _ _ _ _ _ _) ?_; clear tr
    refine then_n ?_
    refine at_seq rfl ?_
    refine cdd (fun h2 => ?_) (fun h2 => ?_)
    · try simp only [decide_eq_true_eq, decide_eq_false_iff_not, Bool.not_eq_true', Bool.not_eq_false', beq_iff_eq, beq_eq_false_iff_ne, ne_eq] at h2
      refine at_skip rfl ?_
      refine then_n ?_
      refine at_seq rfl ?_
      refine at_block rfl ?_
      refine at_seq rfl ?_
      refine rg rfl ?_
      refine Rq ?_
      refine Rq ?_
      refine Rq ?_
      refine Rq ?_
      refine Rq ?_
      have tr : ∀ y0 y1 y2 y3 y4 y5 y6 y7 y8 y12 y14 y15 y16 y17 y21 y22 y23 y24 y37 z0 z1 z2 z3 z4 : AV, trim [(6, z4), (5, z3), (20, z2), (19, z1), (18, z0), (0, y0), (1, y1), (2, y2), (3, y3), (4, y4), (5, y5), (6, y6), (7, y7), (8, y8), (12, y12), (14, y14), (15, y15), (16, y16), (17, y17), (21, y21), (22, y22), (23, y23), (24, y24), (37, y37)] [(0, y0), (1, y1), (2, y2), (3, y3), (4, y4), (5, y5), (6, y6), (7, y7), (8, y8), (12, y12), (14, y14), (15, y15), (16, y16), (17, y17), (21, y21), (22, y22), (23, y23), (24, y24), (37, y37)] = [(0, y0), (1, y1), (2, y2), (3, y3), (4, y4), (5, z3), (6, z4), (7, y7), (8, y8), (12, y12), (14, y14), (15, y15), (16, y16), (17, y17), (21, y21), (22, y22), (23, y23), (24, y24), (37, y37)] := fun y0 y1 y2 y3 y4 y5 y6 y7 y8 y12 y14 y15 y16 y17 y21 y22 y23 y24 y37 z0 z1 z2 z3 z4 => rfl
      refine R_nil (tr _ _ _ _ _ _ _ _ _ _ _ _ _ _ _ _ _ _ _ _ _ _ _ _) ?_; clear tr
      refine then_n ?_
      refine at_seq rfl ?_
      refine rg rfl ?_
      have hau := al u (by omega)
      have hbu := bl u (by omega)
      refine Rq ?_
      refine Rq ?_
      refine Rq ?_
      have tr : ∀ y0 y1 y2 y3 y4 y5 y6 y7 y8 y12 y14 y15 y16 y17 y21 y22 y23 y24 y37 z0 z1 z2 : AV, trim [(23, z2), (22, z1), (21, z0), (0, y0), (1, y1), (2, y2), (3, y3), (4, y4), (5, y5), (6, y6), (7, y7), (8, y8), (12, y12), (14, y14), (15, y15), (16, y16), (17, y17), (21, y21), (22, y22), (23, y23), (24, y24), (37, y37)] [(0, y0), (1, y1), (2, y2), (3, y3), (4, y4), (5, y5), (6, y6), (7, y7), (8, y8), (12, y12), (14, y14), (15, y15), (16, y16), (17, y17), (21, y21), (22, y22), (23, y23), (24, y24), (37, y37)] = [(0, y0), (1, y1), (2, y2), (3, y3), (4, y4), (5, y5), (6, y6), (7, y7), (8, y8), (12, y12), (14, y14), (15, y15), (16, y16), (17, y17), (21, z0), (22, z1), (23, z2), (24, y24), (37, y37)] := fun y0 y1 y2 y3 y4 y5 y6 y7 y8 y12 y14 y15 y16 y17 y21 y22 y23 y24 y37 z0 z1 z2 => rfl
      refine R_nil (tr _ _ _ _ _ _ _ _ _ _ _ _ _ _ _ _ _ _ _ _ _ _) ?_; clear tr
      refine then_n ?_
      refine at_block rfl ?_
      refine loop_n rfl (fun mm kv H' => ∃ w : Nat, ∃ x4 x7 x8 x24 x37 : AV, (kv = [(4, x4), (7, x7), (8, x8), (23, AV.i w), (24, x24), (37, x37)]) ∧ (mm = (gt a u).length - w) ∧ (H' = H ++ [some [rowsAV a]] ++ [some [rowsAV b]]) ∧ (w ≤ (gt a u).length) ∧ (∀ j, j < w → gt (gt b u) j ≤ gt (gt a u) j)) ⟨0, _, _, _, _, _, rfl, rfl, rfl, by omega, by intro i hi; omega⟩ (by rfl) ?_
      rintro mm kv H' ⟨w, x4, x7, x8, x24, x37, rfl, rfl, rfl, hw, hs⟩
      have tr : ∀ y0 y1 y2 y3 y4 y5 y6 y7 y8 y12 y14 y15 y16 y17 y21 y22 y23 y24 y37 z4 z7 z8 z23 z24 z37 : AV, upd [(0, y0), (1, y1), (2, y2), (3, y3), (4, y4), (5, y5), (6, y6), (7, y7), (8, y8), (12, y12), (14, y14), (15, y15), (16, y16), (17, y17), (21, y21), (22, y22), (23, y23), (24, y24), (37, y37)] [(4, z4), (7, z7), (8, z8), (23, z23), (24, z24), (37, z37)] = [(0, y0), (1, y1), (2, y2), (3, y3), (4, z4), (5, y5), (6, y6), (7, z7), (8, z8), (12, y12), (14, y14), (15, y15), (16, y16), (17, y17), (21, y21), (22, y22), (23, z23), (24, z24), (37, z37)] := fun y0 y1 y2 y3 y4 y5 y6 y7 y8 y12 y14 y15 y16 y17 y21 y22 y23 y24 y37 z4 z7 z8 z23 z24 z37 => rfl
      refine W_to (tr _ _ _ _ _ _ _ _ _ _ _ _ _ _ _ _ _ _ _ _ _ _ _ _ _) ?_; clear tr
      refine at_seq rfl ?_
      refine rg rfl ?_
      refine Rq ?_
      have tr : ∀ y0 y1 y2 y3 y4 y5 y6 y7 y8 y12 y14 y15 y16 y17 y21 y22 y23 y24 y37 z0 : AV, trim [(24, z0), (0, y0), (1, y1), (2, y2), (3, y3), (4, y4), (5, y5), (6, y6), (7, y7), (8, y8), (12, y12), (14, y14), (15, y15), (16, y16), (17, y17), (21, y21), (22, y22), (23, y23), (24, y24), (37, y37)] [(0, y0), (1, y1), (2, y2), (3, y3), (4, y4), (5, y5), (6, y6), (7, y7), (8, y8), (12, y12), (14, y14), (15, y15), (16, y16), (17, y17), (21, y21), (22, y22), (23, y23), (24, y24), (37, y37)] = [(0, y0), (1, y1), (2, y2), (3, y3), (4, y4), (5, y5), (6, y6), (7, y7), (8, y8), (12, y12), (14, y14), (15, y15), (16, y16), (17, y17), (21, y21), (22, y22), (23, y23), (24, z0), (37, y37)] := fun y0 y1 y2 y3 y4 y5 y6 y7 y8 y12 y14 y15 y16 y17 y21 y22 y23 y24 y37 z0 => rfl
      refine R_nil (tr _ _ _ _ _ _ _ _ _ _ _ _ _ _ _ _ _ _ _ _) ?_; clear tr
      refine then_n ?_
      refine at_seq rfl ?_
      refine cdd (fun h3 => ?_) (fun h3 => ?_)
      · try simp only [decide_eq_true_eq, decide_eq_false_iff_not, Bool.not_eq_true', Bool.not_eq_false', beq_iff_eq, beq_eq_false_iff_ne, ne_eq] at h3
        refine at_skip rfl ?_
        refine then_n ?_
        refine at_seq rfl ?_
        refine at_block rfl ?_
        refine at_seq rfl ?_
        refine rg rfl ?_
        refine Rq ?_
        refine Rq ?_
        refine Rq ?_
        refine Rq ?_
        refine Rq ?_
        have tr : ∀ y0 y1 y2 y3 y4 y5 y6 y7 y8 y12 y14 y15 y16 y17 y21 y22 y23 y24 y37 z0 z1 z2 z3 z4 : AV, trim [(8, z4), (7, z3), (27, z2), (26, z1), (25, z0), (0, y0), (1, y1), (2, y2), (3, y3), (4, y4), (5, y5), (6, y6), (7, y7), (8, y8), (12, y12), (14, y14), (15, y15), (16, y16), (17, y17), (21, y21), (22, y22), (23, y23), (24, y24), (37, y37)] [(0, y0), (1, y1), (2, y2), (3, y3), (4, y4), (5, y5), (6, y6), (7, y7), (8, y8), (12, y12), (14, y14), (15, y15), (16, y16), (17, y17), (21, y21), (22, y22), (23, y23), (24, y24), (37, y37)] = [(0, y0), (1, y1), (2, y2), (3, y3), (4, y4), (5, y5), (6, y6), (7, z3), (8, z4), (12, y12), (14, y14), (15, y15), (16, y16), (17, y17), (21, y21), (22, y22), (23, y23), (24, y24), (37, y37)] := fun y0 y1 y2 y3 y4 y5 y6 y7 y8 y12 y14 y15 y16 y17 y21 y22 y23 y24 y37 z0 z1 z2 z3 z4 => rfl
        refine R_nil (tr _ _ _ _ _ _ _ _ _ _ _ _ _ _ _ _ _ _ _ _ _ _ _ _) ?_; clear tr
        refine then_n ?_
        refine at_seq rfl ?_
        refine rg rfl ?_
        refine Rq ?_
        refine Rq ?_
        refine Rq ?_
        refine Rq ?_
        refine Rq ?_
        refine Rq ?_
        refine Rq ?_
        refine Rq ?_
        refine Rq ?_
        refine Rq ?_
        have tr : ∀ y0 y1 y2 y3 y4 y5 y6 y7 y8 y12 y14 y15 y16 y17 y21 y22 y23 y24 y37 z0 z1 z2 z3 z4 z5 z6 z7 z8 z9 : AV, trim [(37, z9), (36, z8), (35, z7), (34, z6), (33, z5), (32, z4), (31, z3), (30, z2), (29, z1), (28, z0), (0, y0), (1, y1), (2, y2), (3, y3), (4, y4), (5, y5), (6, y6), (7, y7), (8, y8), (12, y12), (14, y14), (15, y15), (16, y16), (17, y17), (21, y21), (22, y22), (23, y23), (24, y24), (37, y37)] [(0, y0), (1, y1), (2, y2), (3, y3), (4, y4), (5, y5), (6, y6), (7, y7), (8, y8), (12, y12), (14, y14), (15, y15), (16, y16), (17, y17), (21, y21), (22, y22), (23, y23), (24, y24), (37, y37)] = [(0, y0), (1, y1), (2, y2), (3, y3), (4, y4), (5, y5), (6, y6), (7, y7), (8, y8), (12, y12), (14, y14), (15, y15), (16, y16), (17, y17), (21, y21), (22, y22), (23, y23), (24, y24), (37, z9)] := fun y0 y1 y2 y3 y4 y5 y6 y7 y8 y12 y14 y15 y16 y17 y21 y22 y23 y24 y37 z0 z1 z2 z3 z4 z5 z6 z7 z8 z9 => rfl
        refine R_nil (tr _ _ _ _ _ _ _ _ _ _ _ _ _ _ _ _ _ _ _ _ _ _ _ _ _ _ _ _ _) ?_; clear tr
        refine then_n ?_
        refine cdd (fun h4 => ?_) (fun h4 => ?_)
        · try simp only [decide_eq_true_eq, decide_eq_false_iff_not, Bool.not_eq_true', Bool.not_eq_false', beq_iff_eq, beq_eq_false_iff_ne, ne_eq] at h4
          refine at_seq rfl ?_
          refine rg rfl ?_
          refine Rq ?_
          have tr : ∀ y0 y1 y2 y3 y4 y5 y6 y7 y8 y12 y14 y15 y16 y17 y21 y22 y23 y24 y37 z0 : AV, trim [(4, z0), (0, y0), (1, y1), (2, y2), (3, y3), (4, y4), (5, y5), (6, y6), (7, y7), (8, y8), (12, y12), (14, y14), (15, y15), (16, y16), (17, y17), (21, y21), (22, y22), (23, y23), (24, y24), (37, y37)] [(0, y0), (1, y1), (2, y2), (3, y3), (4, y4), (5, y5), (6, y6), (7, y7), (8, y8), (12, y12), (14, y14), (15, y15), (16, y16), (17, y17), (21, y21), (22, y22), (23, y23), (24, y24), (37, y37)] = [(0, y0), (1, y1), (2, y2), (3, y3), (4, z0), (5, y5), (6, y6), (7, y7), (8, y8), (12, y12), (14, y14), (15, y15), (16, y16), (17, y17), (21, y21), (22, y22), (23, y23), (24, y24), (37, y37)] := fun y0 y1 y2 y3 y4 y5 y6 y7 y8 y12 y14 y15 y16 y17 y21 y22 y23 y24 y37 z0 => rfl
          refine R_nil (tr _ _ _ _ _ _ _ _ _ _ _ _ _ _ _ _ _ _ _ _) ?_; clear tr
          refine then_n ?_
          refine at_ret rfl ?_
          refine blk_r ?_
          refine then_r ?_
          refine then_r ?_
          refine blk_r ?_
          refine blk_r ?_
          refine then_r ?_
          refine then_r ?_
          refine blk_r ?_
          refine then_r ?_
          refine fpure ?_
          refine ⟨?_, rfl⟩
          rw [coversB_f (fun hh => absurd (hh.2 u (by omega) w (by omega)) (by omega))]
        · try simp only [decide_eq_true_eq, decide_eq_false_iff_not, Bool.not_eq_true', Bool.not_eq_false', beq_iff_eq, beq_eq_false_iff_ne, ne_eq] at h4
          refine at_skip rfl ?_
          refine blk_n ?_
          refine then_n ?_
          refine rg rfl ?_
          refine Rq ?_
          refine Rq ?_
          have tr : ∀ y0 y1 y2 y3 y4 y5 y6 y7 y8 y12 y14 y15 y16 y17 y21 y22 y23 y24 y37 z0 z1 : AV, trim [(23, z1), (38, z0), (0, y0), (1, y1), (2, y2), (3, y3), (4, y4), (5, y5), (6, y6), (7, y7), (8, y8), (12, y12), (14, y14), (15, y15), (16, y16), (17, y17), (21, y21), (22, y22), (23, y23), (24, y24), (37, y37)] [(0, y0), (1, y1), (2, y2), (3, y3), (4, y4), (5, y5), (6, y6), (7, y7), (8, y8), (12, y12), (14, y14), (15, y15), (16, y16), (17, y17), (21, y21), (22, y22), (23, y23), (24, y24), (37, y37)] = [(0, y0), (1, y1), (2, y2), (3, y3), (4, y4), (5, y5), (6, y6), (7, y7), (8, y8), (12, y12), (14, y14), (15, y15), (16, y16), (17, y17), (21, y21), (22, y22), (23, z1), (24, y24), (37, y37)] := fun y0 y1 y2 y3 y4 y5 y6 y7 y8 y12 y14 y15 y16 y17 y21 y22 y23 y24 y37 z0 z1 => rfl
          refine R_nil (tr _ _ _ _ _ _ _ _ _ _ _ _ _ _ _ _ _ _ _ _ _) ?_; clear tr
          refine then_n ?_
          exact ⟨_, _, ⟨w + 1, _, _, _, _, _, rfl, rfl, rfl, by omega, by exact all_step hs (by omega)⟩, by rfl, by omega⟩
      · try simp only [decide_eq_true_eq, decide_eq_false_iff_not, Bool.not_eq_true', Bool.not_eq_false', beq_iff_eq, beq_eq_false_iff_ne, ne_eq] at h3
        refine at_exit rfl ?_
        refine then_x ?_
        refine then_x ?_
        refine blk_x ?_
        refine blk_n ?_
        refine then_n ?_
        refine rg rfl ?_
        refine Rq ?_
        refine Rq ?_
        have tr : ∀ y0 y1 y2 y3 y4 y5 y6 y7 y8 y12 y14 y15 y16 y17 y21 y22 y23 y24 y37 z0 z1 : AV, trim [(16, z1), (39, z0), (0, y0), (1, y1), (2, y2), (3, y3), (4, y4), (5, y5), (6, y6), (7, y7), (8, y8), (12, y12), (14, y14), (15, y15), (16, y16), (17, y17), (21, y21), (22, y22), (23, y23), (24, y24), (37, y37)] [(0, y0), (1, y1), (2, y2), (3, y3), (4, y4), (5, y5), (6, y6), (7, y7), (8, y8), (12, y12), (14, y14), (15, y15), (16, y16), (17, y17), (21, y21), (22, y22), (23, y23), (24, y24), (37, y37)] = [(0, y0), (1, y1), (2, y2), (3, y3), (4, y4), (5, y5), (6, y6), (7, y7), (8, y8), (12, y12), (14, y14), (15, y15), (16, z1), (17, y17), (21, y21), (22, y22), (23, y23), (24, y24), (37, y37)] := fun y0 y1 y2 y3 y4 y5 y6 y7 y8 y12 y14 y15 y16 y17 y21 y22 y23 y24 y37 z0 z1 => rfl
        refine R_nil (tr _ _ _ _ _ _ _ _ _ _ _ _ _ _ _ _ _ _ _ _ _) ?_; clear tr
        refine then_n ?_
        exact ⟨_, _, ⟨u + 1, _, _, _, _, _, _, _, _, _, _, _, rfl, rfl, rfl, by omega, by exact all_step hq fun w hw => hs w (by omega)⟩, by rfl, by omega⟩
    · try simp only [decide_eq_true_eq, decide_eq_false_iff_not, Bool.not_eq_true', Bool.not_eq_false', beq_iff_eq, beq_eq_false_iff_ne, ne_eq] at h2
      refine at_exit rfl ?_
      refine then_x ?_
      refine then_x ?_
      refine blk_x ?_
      refine then_n ?_
      refine at_seq rfl ?_
      refine rg rfl ?_
      refine Rq ?_
      have tr : ∀ y0 y1 y2 y3 y4 y5 y6 y7 y8 y12 y14 y15 y16 y17 y21 y22 y23 y24 y37 z0 : AV, trim [(4, z0), (0, y0), (1, y1), (2, y2), (3, y3), (4, y4), (5, y5), (6, y6), (7, y7), (8, y8), (12, y12), (14, y14), (15, y15), (16, y16), (17, y17), (21, y21), (22, y22), (23, y23), (24, y24), (37, y37)] [(0, y0), (1, y1), (2, y2), (3, y3), (4, y4), (5, y5), (6, y6), (7, y7), (8, y8), (12, y12), (14, y14), (15, y15), (16, y16), (17, y17), (21, y21), (22, y22), (23, y23), (24, y24), (37, y37)] = [(0, y0), (1, y1), (2, y2), (3, y3), (4, z0), (5, y5), (6, y6), (7, y7), (8, y8), (12, y12), (14, y14), (15, y15), (16, y16), (17, y17), (21, y21), (22, y22), (23, y23), (24, y24), (37, y37)] := fun y0 y1 y2 y3 y4 y5 y6 y7 y8 y12 y14 y15 y16 y17 y21 y22 y23 y24 y37 z0 => rfl
      refine R_nil (tr _ _ _ _ _ _ _ _ _ _ _ _ _ _ _ _ _ _ _ _) ?_; clear tr
      refine then_n ?_
      refine at_ret rfl ?_
      refine fpure ?_
      refine ⟨?_, rfl⟩
      rw [coversB_t ⟨of_alikeB h1, fun i hi w hw => hq i (by omega) w hw⟩]

end Go.Proofs.Ytdkhgpdojjdadaa
