/-
  Walks of chapter 46. The steps are written by program (walk.py).
-/
import Derived.Test.YtmkalakojfpfgaaXG
import Derived.Test.YtmkalakojfpfgaaRB
set_option linter.unusedSimpArgs false
set_option linter.unusedVariables false
set_option maxHeartbeats 40000000
set_option maxRecDepth 4000
namespace Go.Proofs.Ytmkalakojfpfgaa
open Go Go.Am

theorem rbestO_ok (lim : Nat) (H : Heap) (hlim : lim ≤ H.length) (rows : Tb) (q la0 : Int) :
    ACall sig lim 17 [.agg [rowsAV rows, AV.i q, AV.i la0]] H fun r H' => PlanO rows q la0 H r H' := by
  have od := Old.refl H
  have q0 : True := trivial
  have qo : True := trivial
  have qK : True := trivial
  have qp : True := trivial
  have qs : True := trivial
  refine ACall_own (fa := fa17) rfl rfl rfl rfl ?_
  have tr : ∀ a0 : AV, env0 fa17.keep [a0] = [(0, a0), (1, .any), (2, .any), (3, .any), (4, .any), (5, .any), (6, .any), (7, .any), (8, .any), (9, .any), (10, .any), (14, .any), (26, .any), (36, .any), (37, .any), (38, .any), (44, .any), (45, .any), (46, .any), (52, .any), (82, .any)] := fun a0 => rfl
  refine W_to (tr _) ?_; clear tr
  refine at_seq rfl ?_
  refine rg rfl ?_
  refine A_box rfl (by simp (disch := first | omega | (simp only [List.length_map, List.length_append, List.length_set, List.length_cons, List.length_nil, List.length_take, List.length_drop]; omega)) only [go_sem, ↓reduceIte, Nat.reduceEqDiff, reduceCtorEq]; rfl) ?_
  intro H1 n1
  have en1 := n1.len
  have od := od.new n1
  have q0 := n1.new
  refine A_alloc rfl ?_
  intro H2 n2
  have en2 := n2.len
  have od := od.new n2
  have q0 := (n2.old _ (hget_lt q0)).trans q0
  have qo := n2.new
  refine Rq ?_
  have tr : ∀ y0 y1 y2 y3 y4 y5 y6 y7 y8 y9 y10 y14 y26 y36 y37 y38 y44 y45 y46 y52 y82 z0 z1 z2 : AV, trim [(3, z2), (2, z1), (1, z0), (0, y0), (1, y1), (2, y2), (3, y3), (4, y4), (5, y5), (6, y6), (7, y7), (8, y8), (9, y9), (10, y10), (14, y14), (26, y26), (36, y36), (37, y37), (38, y38), (44, y44), (45, y45), (46, y46), (52, y52), (82, y82)] [(0, y0), (1, y1), (2, y2), (3, y3), (4, y4), (5, y5), (6, y6), (7, y7), (8, y8), (9, y9), (10, y10), (14, y14), (26, y26), (36, y36), (37, y37), (38, y38), (44, y44), (45, y45), (46, y46), (52, y52), (82, y82)] = [(0, y0), (1, z0), (2, z1), (3, z2), (4, y4), (5, y5), (6, y6), (7, y7), (8, y8), (9, y9), (10, y10), (14, y14), (26, y26), (36, y36), (37, y37), (38, y38), (44, y44), (45, y45), (46, y46), (52, y52), (82, y82)] := fun y0 y1 y2 y3 y4 y5 y6 y7 y8 y9 y10 y14 y26 y36 y37 y38 y44 y45 y46 y52 y82 z0 z1 z2 => rfl
  refine R_nil (tr _ _ _ _ _ _ _ _ _ _ _ _ _ _ _ _ _ _ _ _ _ _ _ _) ?_; clear tr
  refine then_n ?_
  refine at_seq rfl ?_
  refine at_seq rfl ?_
  refine rg rfl ?_
  refine R_q rfl (by simp (disch := first | omega | (simp only [List.length_map, List.length_append, List.length_set, List.length_cons, List.length_nil, List.length_take, List.length_drop]; omega)) only [go_sem, ↓reduceIte, Nat.reduceEqDiff, reduceCtorEq, q0, qo, qK, qp, qs]; rfl) ?_
  refine Rcall ?_
  refine ACall_eq (rcheck_ok _ _ rows q la0) ?_
  refine Rq ?_
  have tr : ∀ y0 y1 y2 y3 y4 y5 y6 y7 y8 y9 y10 y14 y26 y36 y37 y38 y44 y45 y46 y52 y82 z0 z1 z2 : AV, trim [(4, z2), (12, z1), (11, z0), (0, y0), (1, y1), (2, y2), (3, y3), (4, y4), (5, y5), (6, y6), (7, y7), (8, y8), (9, y9), (10, y10), (14, y14), (26, y26), (36, y36), (37, y37), (38, y38), (44, y44), (45, y45), (46, y46), (52, y52), (82, y82)] [(0, y0), (1, y1), (2, y2), (3, y3), (4, y4), (5, y5), (6, y6), (7, y7), (8, y8), (9, y9), (10, y10), (14, y14), (26, y26), (36, y36), (37, y37), (38, y38), (44, y44), (45, y45), (46, y46), (52, y52), (82, y82)] = [(0, y0), (1, y1), (2, y2), (3, y3), (4, z2), (5, y5), (6, y6), (7, y7), (8, y8), (9, y9), (10, y10), (14, y14), (26, y26), (36, y36), (37, y37), (38, y38), (44, y44), (45, y45), (46, y46), (52, y52), (82, y82)] := fun y0 y1 y2 y3 y4 y5 y6 y7 y8 y9 y10 y14 y26 y36 y37 y38 y44 y45 y46 y52 y82 z0 z1 z2 => rfl
  refine R_nil (tr _ _ _ _ _ _ _ _ _ _ _ _ _ _ _ _ _ _ _ _ _ _ _ _) ?_; clear tr
  refine then_n ?_
  refine at_seq rfl ?_
  refine rg rfl ?_
  refine Rq ?_
  refine Rq ?_
  have tr : ∀ y0 y1 y2 y3 y4 y5 y6 y7 y8 y9 y10 y14 y26 y36 y37 y38 y44 y45 y46 y52 y82 z0 z1 : AV, trim [(14, z1), (13, z0), (0, y0), (1, y1), (2, y2), (3, y3), (4, y4), (5, y5), (6, y6), (7, y7), (8, y8), (9, y9), (10, y10), (14, y14), (26, y26), (36, y36), (37, y37), (38, y38), (44, y44), (45, y45), (46, y46), (52, y52), (82, y82)] [(0, y0), (1, y1), (2, y2), (3, y3), (4, y4), (5, y5), (6, y6), (7, y7), (8, y8), (9, y9), (10, y10), (14, y14), (26, y26), (36, y36), (37, y37), (38, y38), (44, y44), (45, y45), (46, y46), (52, y52), (82, y82)] = [(0, y0), (1, y1), (2, y2), (3, y3), (4, y4), (5, y5), (6, y6), (7, y7), (8, y8), (9, y9), (10, y10), (14, z1), (26, y26), (36, y36), (37, y37), (38, y38), (44, y44), (45, y45), (46, y46), (52, y52), (82, y82)] := fun y0 y1 y2 y3 y4 y5 y6 y7 y8 y9 y10 y14 y26 y36 y37 y38 y44 y45 y46 y52 y82 z0 z1 => rfl
  refine R_nil (tr _ _ _ _ _ _ _ _ _ _ _ _ _ _ _ _ _ _ _ _ _ _ _) ?_; clear tr
  refine then_n ?_
  refine cdd (fun h1 => ?_) (fun h1 => ?_)
  · try simp only [decide_eq_true_eq, decide_eq_false_iff_not, Bool.not_eq_true', Bool.not_eq_false', beq_iff_eq, beq_eq_false_iff_ne, ne_eq] at h1
    refine at_seq rfl ?_
    refine rg rfl ?_
    refine Rq ?_
    refine Rq ?_
    have lq0 := hget_lt q0
    have lqo := hget_lt qo
    refine A_store ty37 (by simp (disch := first | omega | (simp only [List.length_map, List.length_append, List.length_set, List.length_cons, List.length_nil, List.length_take, List.length_drop]; omega)) only [go_sem, ↓reduceIte, Nat.reduceEqDiff, reduceCtorEq, q0, qo]; rfl) (by simp (disch := first | omega | (simp only [List.length_map, List.length_append, List.length_set, List.length_cons, List.length_nil, List.length_take, List.length_drop]; omega)) only [go_sem, ↓reduceIte, Nat.reduceEqDiff, reduceCtorEq, q0, qo]; rfl) qo ⟨by omega, rfl, by first | exact Nat.le_refl _ | simp⟩ (show _ = [nilI, AV.i 0, nilI] from rfl) ?_
    intro H3 w3
    have ew3 := w3.len
    have od := od.wrote w3 (by omega)
    have q0 := (w3.old _ (by omega)).trans q0
    have qo := w3.new
    refine Rq ?_
    have tr : ∀ y0 y1 y2 y3 y4 y5 y6 y7 y8 y9 y10 y14 y26 y36 y37 y38 y44 y45 y46 y52 y82 z0 z1 z2 : AV, trim [(3, z2), (16, z1), (15, z0), (0, y0), (1, y1), (2, y2), (3, y3), (4, y4), (5, y5), (6, y6), (7, y7), (8, y8), (9, y9), (10, y10), (14, y14), (26, y26), (36, y36), (37, y37), (38, y38), (44, y44), (45, y45), (46, y46), (52, y52), (82, y82)] [(0, y0), (1, y1), (2, y2), (3, y3), (4, y4), (5, y5), (6, y6), (7, y7), (8, y8), (9, y9), (10, y10), (14, y14), (26, y26), (36, y36), (37, y37), (38, y38), (44, y44), (45, y45), (46, y46), (52, y52), (82, y82)] = [(0, y0), (1, y1), (2, y2), (3, z2), (4, y4), (5, y5), (6, y6), (7, y7), (8, y8), (9, y9), (10, y10), (14, y14), (26, y26), (36, y36), (37, y37), (38, y38), (44, y44), (45, y45), (46, y46), (52, y52), (82, y82)] := fun y0 y1 y2 y3 y4 y5 y6 y7 y8 y9 y10 y14 y26 y36 y37 y38 y44 y45 y46 y52 y82 z0 z1 z2 => rfl
    refine R_nil (tr _ _ _ _ _ _ _ _ _ _ _ _ _ _ _ _ _ _ _ _ _ _ _ _) ?_; clear tr
    refine then_n ?_
    refine at_ret rfl ?_
    refine then_r ?_
    refine fin_own (rs := [.cell 2 37, .tmp 3]) rfl (by simp only [go_sem, ↓reduceIte, Nat.reduceEqDiff, qo]; rfl) ?_
    exact .bad (by assumption) od
  · try simp only [decide_eq_true_eq, decide_eq_false_iff_not, Bool.not_eq_true', Bool.not_eq_false', beq_iff_eq, beq_eq_false_iff_ne, ne_eq] at h1
    refine at_skip rfl ?_
    refine then_n ?_
    refine at_seq rfl ?_
    refine rg rfl ?_
    have g : Good rows q la0 := good_of (by assumption : checkS rows q la0 = 0)
    obtain ⟨g1, g2, g3, g4, g5, g6, g7, g8, g9, g10, g11⟩ := id g
    have hq0 : 0 ≤ q := by omega
    have hz := zero_st g
    have hzi := zero_idx rows q la0
    have hzr := idx_rng hq0 hz
    have hzp := pot_rng g (zeroC rows) (by rw [sum_zero]; exact Int.le_refl _) la0
    have hnb := num_bd g
    refine R_q rfl (by simp (disch := first | omega | (simp only [List.length_map, List.length_append, List.length_set, List.length_cons, List.length_nil, List.length_take, List.length_drop]; omega)) only [go_sem, ↓reduceIte, Nat.reduceEqDiff, reduceCtorEq, q0, qo, qK, qp, qs]; rfl) ?_
    refine Rcall ?_
    refine ACall_mono (potentialsO_ok _ _ (by omega) rows q la0 g) ?_
    rintro r HK ⟨K, bk, rfl, hK, hbk, qK, odk⟩
    have eHK := odk.len
    have q0 := (odk.old _ (hget_lt q0)).trans q0
    have qo := (odk.old _ (hget_lt qo)).trans qo
    have od := od.trans odk
    have lqK := hget_lt qK
    have hKl := hK.1
    have hkz := full_at hK hq0 hz
    rw [hzi] at hkz
    refine Rq ?_
    have tr : ∀ y0 y1 y2 y3 y4 y5 y6 y7 y8 y9 y10 y14 y26 y36 y37 y38 y44 y45 y46 y52 y82 z0 z1 z2 : AV, trim [(5, z2), (18, z1), (17, z0), (0, y0), (1, y1), (2, y2), (3, y3), (4, y4), (5, y5), (6, y6), (7, y7), (8, y8), (9, y9), (10, y10), (14, y14), (26, y26), (36, y36), (37, y37), (38, y38), (44, y44), (45, y45), (46, y46), (52, y52), (82, y82)] [(0, y0), (1, y1), (2, y2), (3, y3), (4, y4), (5, y5), (6, y6), (7, y7), (8, y8), (9, y9), (10, y10), (14, y14), (26, y26), (36, y36), (37, y37), (38, y38), (44, y44), (45, y45), (46, y46), (52, y52), (82, y82)] = [(0, y0), (1, y1), (2, y2), (3, y3), (4, y4), (5, z2), (6, y6), (7, y7), (8, y8), (9, y9), (10, y10), (14, y14), (26, y26), (36, y36), (37, y37), (38, y38), (44, y44), (45, y45), (46, y46), (52, y52), (82, y82)] := fun y0 y1 y2 y3 y4 y5 y6 y7 y8 y9 y10 y14 y26 y36 y37 y38 y44 y45 y46 y52 y82 z0 z1 z2 => rfl
    refine R_nil (tr _ _ _ _ _ _ _ _ _ _ _ _ _ _ _ _ _ _ _ _ _ _ _ _) ?_; clear tr
    refine then_n ?_
    refine at_seq rfl ?_
    refine rg rfl ?_
    refine Rq ?_
    refine R_q rfl (by simp (disch := first | omega | (simp only [List.length_map, List.length_append, List.length_set, List.length_cons, List.length_nil, List.length_take, List.length_drop]; omega)) only [go_sem, ↓reduceIte, Nat.reduceEqDiff, reduceCtorEq, q0, qo, qK, qp, qs]; rfl) ?_
    refine Rq ?_
    refine Rq ?_
    have tr : ∀ y0 y1 y2 y3 y4 y5 y6 y7 y8 y9 y10 y14 y26 y36 y37 y38 y44 y45 y46 y52 y82 z0 z1 z2 z3 : AV, trim [(6, z3), (21, z2), (20, z1), (19, z0), (0, y0), (1, y1), (2, y2), (3, y3), (4, y4), (5, y5), (6, y6), (7, y7), (8, y8), (9, y9), (10, y10), (14, y14), (26, y26), (36, y36), (37, y37), (38, y38), (44, y44), (45, y45), (46, y46), (52, y52), (82, y82)] [(0, y0), (1, y1), (2, y2), (3, y3), (4, y4), (5, y5), (6, y6), (7, y7), (8, y8), (9, y9), (10, y10), (14, y14), (26, y26), (36, y36), (37, y37), (38, y38), (44, y44), (45, y45), (46, y46), (52, y52), (82, y82)] = [(0, y0), (1, y1), (2, y2), (3, y3), (4, y4), (5, y5), (6, z3), (7, y7), (8, y8), (9, y9), (10, y10), (14, y14), (26, y26), (36, y36), (37, y37), (38, y38), (44, y44), (45, y45), (46, y46), (52, y52), (82, y82)] := fun y0 y1 y2 y3 y4 y5 y6 y7 y8 y9 y10 y14 y26 y36 y37 y38 y44 y45 y46 y52 y82 z0 z1 z2 z3 => rfl
    refine R_nil (tr _ _ _ _ _ _ _ _ _ _ _ _ _ _ _ _ _ _ _ _ _ _ _ _ _) ?_; clear tr
    refine then_n ?_
    refine at_seq rfl ?_
    refine at_seq rfl ?_
    refine rg rfl ?_
    refine Rq ?_
    refine Rq ?_
    refine Rq ?_
    refine R_q rfl (by simp (disch := first | omega | (simp only [List.length_map, List.length_append, List.length_set, List.length_cons, List.length_nil, List.length_take, List.length_drop]; omega)) only [go_sem, ↓reduceIte, Nat.reduceEqDiff, reduceCtorEq, q0, qo, qK, qp, qs]; rfl) ?_
    refine Rq ?_
    have tr : ∀ y0 y1 y2 y3 y4 y5 y6 y7 y8 y9 y10 y14 y26 y36 y37 y38 y44 y45 y46 y52 y82 z0 z1 z2 z3 z4 : AV, trim [(26, z4), (25, z3), (24, z2), (23, z1), (22, z0), (0, y0), (1, y1), (2, y2), (3, y3), (4, y4), (5, y5), (6, y6), (7, y7), (8, y8), (9, y9), (10, y10), (14, y14), (26, y26), (36, y36), (37, y37), (38, y38), (44, y44), (45, y45), (46, y46), (52, y52), (82, y82)] [(0, y0), (1, y1), (2, y2), (3, y3), (4, y4), (5, y5), (6, y6), (7, y7), (8, y8), (9, y9), (10, y10), (14, y14), (26, y26), (36, y36), (37, y37), (38, y38), (44, y44), (45, y45), (46, y46), (52, y52), (82, y82)] = [(0, y0), (1, y1), (2, y2), (3, y3), (4, y4), (5, y5), (6, y6), (7, y7), (8, y8), (9, y9), (10, y10), (14, y14), (26, z4), (36, y36), (37, y37), (38, y38), (44, y44), (45, y45), (46, y46), (52, y52), (82, y82)] := fun y0 y1 y2 y3 y4 y5 y6 y7 y8 y9 y10 y14 y26 y36 y37 y38 y44 y45 y46 y52 y82 z0 z1 z2 z3 z4 => rfl
    refine R_nil (tr _ _ _ _ _ _ _ _ _ _ _ _ _ _ _ _ _ _ _ _ _ _ _ _ _ _) ?_; clear tr
    refine then_n ?_
    refine cdd (fun h2 => ?_) (fun h2 => ?_)
    · try simp only [decide_eq_true_eq, decide_eq_false_iff_not, Bool.not_eq_true', Bool.not_eq_false', beq_iff_eq, beq_eq_false_iff_ne, ne_eq] at h2
      refine at_seq rfl ?_
      refine rg rfl ?_
      refine Rq ?_
      have lq0 := hget_lt q0
      have lqo := hget_lt qo
      refine A_store ty37 (by simp (disch := first | omega | (simp only [List.length_map, List.length_append, List.length_set, List.length_cons, List.length_nil, List.length_take, List.length_drop]; omega)) only [go_sem, ↓reduceIte, Nat.reduceEqDiff, reduceCtorEq, q0, qo]; rfl) (by simp (disch := first | omega | (simp only [List.length_map, List.length_append, List.length_set, List.length_cons, List.length_nil, List.length_take, List.length_drop]; omega)) only [go_sem, ↓reduceIte, Nat.reduceEqDiff, reduceCtorEq, q0, qo]; rfl) qo ⟨by omega, rfl, by first | exact Nat.le_refl _ | simp⟩ (show _ = [nilI, AV.i 0, nilI] from rfl) ?_
      intro H3 w3
      have ew3 := w3.len
      have od := od.wrote w3 (by omega)
      have q0 := (w3.old _ (by omega)).trans q0
      have qo := w3.new
      refine Rq ?_
      have tr : ∀ y0 y1 y2 y3 y4 y5 y6 y7 y8 y9 y10 y14 y26 y36 y37 y38 y44 y45 y46 y52 y82 z0 z1 : AV, trim [(3, z1), (27, z0), (0, y0), (1, y1), (2, y2), (3, y3), (4, y4), (5, y5), (6, y6), (7, y7), (8, y8), (9, y9), (10, y10), (14, y14), (26, y26), (36, y36), (37, y37), (38, y38), (44, y44), (45, y45), (46, y46), (52, y52), (82, y82)] [(0, y0), (1, y1), (2, y2), (3, y3), (4, y4), (5, y5), (6, y6), (7, y7), (8, y8), (9, y9), (10, y10), (14, y14), (26, y26), (36, y36), (37, y37), (38, y38), (44, y44), (45, y45), (46, y46), (52, y52), (82, y82)] = [(0, y0), (1, y1), (2, y2), (3, z1), (4, y4), (5, y5), (6, y6), (7, y7), (8, y8), (9, y9), (10, y10), (14, y14), (26, y26), (36, y36), (37, y37), (38, y38), (44, y44), (45, y45), (46, y46), (52, y52), (82, y82)] := fun y0 y1 y2 y3 y4 y5 y6 y7 y8 y9 y10 y14 y26 y36 y37 y38 y44 y45 y46 y52 y82 z0 z1 => rfl
      refine R_nil (tr _ _ _ _ _ _ _ _ _ _ _ _ _ _ _ _ _ _ _ _ _ _ _) ?_; clear tr
      refine then_n ?_
      refine at_ret rfl ?_
      refine then_r ?_
      refine fin_own (rs := [.cell 2 37, .tmp 3]) rfl (by simp only [go_sem, ↓reduceIte, Nat.reduceEqDiff, qo]; rfl) ?_
      exact .none (by assumption) (by unfold potB; omega) od
    · try simp only [decide_eq_true_eq, decide_eq_false_iff_not, Bool.not_eq_true', Bool.not_eq_false', beq_iff_eq, beq_eq_false_iff_ne, ne_eq] at h2
      refine at_skip rfl ?_
      refine then_n ?_
      refine at_seq rfl ?_
      refine rg rfl ?_
      refine Rq ?_
      refine Rq ?_
      refine Rq ?_
      refine R_q rfl (by simp (disch := first | omega | (simp only [List.length_map, List.length_append, List.length_set, List.length_cons, List.length_nil, List.length_take, List.length_drop]; omega)) only [go_sem, ↓reduceIte, Nat.reduceEqDiff, reduceCtorEq, q0, qo, qK, qp, qs]; rfl) ?_
      refine Rq ?_
      refine Rq ?_
      refine A_alloc rfl ?_
      intro H4 n4
      have en4 := n4.len
      have od := od.new n4
      have q0 := (n4.old _ (hget_lt q0)).trans q0
      have qo := (n4.old _ (hget_lt qo)).trans qo
      have qK := (n4.old _ (hget_lt qK)).trans qK
      have qp := n4.new
      have lq0 := hget_lt q0
      have lqo := hget_lt qo
      have lqK := hget_lt qK
      have lqp := hget_lt qp
      refine A_store ty37 (by simp (disch := first | omega | (simp only [List.length_map, List.length_append, List.length_set, List.length_cons, List.length_nil, List.length_take, List.length_drop]; omega)) only [go_sem, ↓reduceIte, Nat.reduceEqDiff, reduceCtorEq, q0, qo, qK, qp]; rfl) (by simp (disch := first | omega | (simp only [List.length_map, List.length_append, List.length_set, List.length_cons, List.length_nil, List.length_take, List.length_drop]; omega)) only [go_sem, ↓reduceIte, Nat.reduceEqDiff, reduceCtorEq, q0, qo, qK, qp]; rfl) qp ⟨by omega, rfl, by first | exact Nat.le_refl _ | simp⟩ (show _ = [nilI, AV.i (potB rows q (zeroC rows) la0), AV.own 1 bk 0 K.length] from by rw [hkz]; rfl) ?_
      intro H5 w5
      have ew5 := w5.len
      have od := od.wrote w5 (by omega)
      have q0 := (w5.old _ (by omega)).trans q0
      have qo := (w5.old _ (by omega)).trans qo
      have qK := (w5.old _ (by omega)).trans qK
      have qp := w5.new
      have tr : ∀ y0 y1 y2 y3 y4 y5 y6 y7 y8 y9 y10 y14 y26 y36 y37 y38 y44 y45 y46 y52 y82 z0 z1 z2 z3 z4 z5 z6 : AV, trim [(7, z6), (33, z5), (32, z4), (31, z3), (30, z2), (29, z1), (28, z0), (0, y0), (1, y1), (2, y2), (3, y3), (4, y4), (5, y5), (6, y6), (7, y7), (8, y8), (9, y9), (10, y10), (14, y14), (26, y26), (36, y36), (37, y37), (38, y38), (44, y44), (45, y45), (46, y46), (52, y52), (82, y82)] [(0, y0), (1, y1), (2, y2), (3, y3), (4, y4), (5, y5), (6, y6), (7, y7), (8, y8), (9, y9), (10, y10), (14, y14), (26, y26), (36, y36), (37, y37), (38, y38), (44, y44), (45, y45), (46, y46), (52, y52), (82, y82)] = [(0, y0), (1, y1), (2, y2), (3, y3), (4, y4), (5, y5), (6, y6), (7, z6), (8, y8), (9, y9), (10, y10), (14, y14), (26, y26), (36, y36), (37, y37), (38, y38), (44, y44), (45, y45), (46, y46), (52, y52), (82, y82)] := fun y0 y1 y2 y3 y4 y5 y6 y7 y8 y9 y10 y14 y26 y36 y37 y38 y44 y45 y46 y52 y82 z0 z1 z2 z3 z4 z5 z6 => rfl
      refine R_nil (tr _ _ _ _ _ _ _ _ _ _ _ _ _ _ _ _ _ _ _ _ _ _ _ _ _ _ _ _) ?_; clear tr
      refine then_n ?_
      refine at_seq rfl ?_
      refine at_seq rfl ?_
      refine rg rfl ?_
      refine Rq ?_
      refine R_q rfl (by simp (disch := first | omega | (simp only [List.length_map, List.length_append, List.length_set, List.length_cons, List.length_nil, List.length_take, List.length_drop]; omega)) only [go_sem, ↓reduceIte, Nat.reduceEqDiff, reduceCtorEq, q0, qo, qK, qp, qs]; rfl) ?_
      refine Rq ?_
      refine Rq ?_
      have tr : ∀ y0 y1 y2 y3 y4 y5 y6 y7 y8 y9 y10 y14 y26 y36 y37 y38 y44 y45 y46 y52 y82 z0 z1 z2 z3 : AV, trim [(37, z3), (36, z2), (35, z1), (34, z0), (0, y0), (1, y1), (2, y2), (3, y3), (4, y4), (5, y5), (6, y6), (7, y7), (8, y8), (9, y9), (10, y10), (14, y14), (26, y26), (36, y36), (37, y37), (38, y38), (44, y44), (45, y45), (46, y46), (52, y52), (82, y82)] [(0, y0), (1, y1), (2, y2), (3, y3), (4, y4), (5, y5), (6, y6), (7, y7), (8, y8), (9, y9), (10, y10), (14, y14), (26, y26), (36, y36), (37, y37), (38, y38), (44, y44), (45, y45), (46, y46), (52, y52), (82, y82)] = [(0, y0), (1, y1), (2, y2), (3, y3), (4, y4), (5, y5), (6, y6), (7, y7), (8, y8), (9, y9), (10, y10), (14, y14), (26, y26), (36, z2), (37, z3), (38, y38), (44, y44), (45, y45), (46, y46), (52, y52), (82, y82)] := fun y0 y1 y2 y3 y4 y5 y6 y7 y8 y9 y10 y14 y26 y36 y37 y38 y44 y45 y46 y52 y82 z0 z1 z2 z3 => rfl
      refine R_nil (tr _ _ _ _ _ _ _ _ _ _ _ _ _ _ _ _ _ _ _ _ _ _ _ _ _) ?_; clear tr
      refine then_n ?_
      refine at_block rfl ?_
      refine loop_n rfl (fun mm kv H' => ∃ u : Nat, ∃ ix : Int, ∃ w : List Int, ∃ o : AV, ∃ c : List Int, ∃ la : Int, ∃ x8 x9 x10 x38 x44 x45 x46 x52 x82 : AV, (kv = [(6, AV.i ix), (8, x8), (9, x9), (10, x10), (37, AV.i u), (38, x38), (44, x44), (45, x45), (46, x46), (52, x52), (82, x82)]) ∧ (mm = rows.length - u) ∧ (hget H' H.length = some [rowsAV rows, AV.i q, AV.i la0]) ∧ (hget H' H1.length = some [nilI, AV.i 0, nilI]) ∧ (hget H' HK.length = some [o, AV.i (potB rows q (zeroC rows) la0), AV.own 1 bk 0 K.length]) ∧ (hget H' bk = some (K.map AV.i)) ∧ (OutI H4.length H' o w) ∧ (u ≤ rows.length) ∧ (w.length = u) ∧ (Reach rows q la0 w c la) ∧ (StOK q (gt rows 0).length c la) ∧ (sumL c = u) ∧ (potB rows q c la ≠ -1) ∧ (ix = idxS q (gt rows 0).length c la) ∧ (Old H H')) ⟨0, (la0 + 1), [], nilI, (zeroC rows), la0, _, _, _, _, _, _, _, _, _, rfl, rfl, by exact q0, by exact qo, by exact qp, by exact qK, by exact .inl ⟨rfl, rfl⟩, by omega, by rfl, by exact .nil, by exact hz, by rw [sum_zero]; rfl, by unfold potB; omega, by exact hzi.symm, by exact od⟩ (by rfl) ?_
      rintro mm kv HA ⟨u, ix, w, o, c, la, x8, x9, x10, x38, x44, x45, x46, x52, x82, rfl, rfl, q0, qo, qp, qK, hO, hu, hw, hR, st, hsc, hpc, hix, od⟩
      have tr : ∀ y0 y1 y2 y3 y4 y5 y6 y7 y8 y9 y10 y14 y26 y36 y37 y38 y44 y45 y46 y52 y82 z6 z8 z9 z10 z37 z38 z44 z45 z46 z52 z82 : AV, upd [(0, y0), (1, y1), (2, y2), (3, y3), (4, y4), (5, y5), (6, y6), (7, y7), (8, y8), (9, y9), (10, y10), (14, y14), (26, y26), (36, y36), (37, y37), (38, y38), (44, y44), (45, y45), (46, y46), (52, y52), (82, y82)] [(6, z6), (8, z8), (9, z9), (10, z10), (37, z37), (38, z38), (44, z44), (45, z45), (46, z46), (52, z52), (82, z82)] = [(0, y0), (1, y1), (2, y2), (3, y3), (4, y4), (5, y5), (6, z6), (7, y7), (8, z8), (9, z9), (10, z10), (14, y14), (26, y26), (36, y36), (37, z37), (38, z38), (44, z44), (45, z45), (46, z46), (52, z52), (82, z82)] := fun y0 y1 y2 y3 y4 y5 y6 y7 y8 y9 y10 y14 y26 y36 y37 y38 y44 y45 y46 y52 y82 z6 z8 z9 z10 z37 z38 z44 z45 z46 z52 z82 => rfl
      refine W_to (tr _ _ _ _ _ _ _ _ _ _ _ _ _ _ _ _ _ _ _ _ _ _ _ _ _ _ _ _ _ _ _ _) ?_; clear tr
      subst hix
      have hdi := dec_idx hq0 st
      have hir := idx_rng hq0 st
      have hcl := st.c.1
      have lqp := hget_lt qp
      have lqK := hget_lt qK
      refine at_seq rfl ?_
      refine rg rfl ?_
      refine Rq ?_
      have tr : ∀ y0 y1 y2 y3 y4 y5 y6 y7 y8 y9 y10 y14 y26 y36 y37 y38 y44 y45 y46 y52 y82 z0 : AV, trim [(38, z0), (0, y0), (1, y1), (2, y2), (3, y3), (4, y4), (5, y5), (6, y6), (7, y7), (8, y8), (9, y9), (10, y10), (14, y14), (26, y26), (36, y36), (37, y37), (38, y38), (44, y44), (45, y45), (46, y46), (52, y52), (82, y82)] [(0, y0), (1, y1), (2, y2), (3, y3), (4, y4), (5, y5), (6, y6), (7, y7), (8, y8), (9, y9), (10, y10), (14, y14), (26, y26), (36, y36), (37, y37), (38, y38), (44, y44), (45, y45), (46, y46), (52, y52), (82, y82)] = [(0, y0), (1, y1), (2, y2), (3, y3), (4, y4), (5, y5), (6, y6), (7, y7), (8, y8), (9, y9), (10, y10), (14, y14), (26, y26), (36, y36), (37, y37), (38, z0), (44, y44), (45, y45), (46, y46), (52, y52), (82, y82)] := fun y0 y1 y2 y3 y4 y5 y6 y7 y8 y9 y10 y14 y26 y36 y37 y38 y44 y45 y46 y52 y82 z0 => rfl
      refine R_nil (tr _ _ _ _ _ _ _ _ _ _ _ _ _ _ _ _ _ _ _ _ _ _) ?_; clear tr
      refine then_n ?_
      refine at_seq rfl ?_
      refine cdd (fun h3 => ?_) (fun h3 => ?_)
      · try simp only [decide_eq_true_eq, decide_eq_false_iff_not, Bool.not_eq_true', Bool.not_eq_false', beq_iff_eq, beq_eq_false_iff_ne, ne_eq] at h3
        refine at_skip rfl ?_
        refine then_n ?_
        refine at_seq rfl ?_
        refine at_block rfl ?_
        refine at_seq rfl ?_
        refine rg rfl ?_
        refine R_q rfl (by simp (disch := first | omega | (simp only [List.length_map, List.length_append, List.length_set, List.length_cons, List.length_nil, List.length_take, List.length_drop]; omega)) only [go_sem, ↓reduceIte, Nat.reduceEqDiff, reduceCtorEq, q0, qo, qK, qp, qs]; rfl) ?_
        refine Rq ?_
        refine Rcall ?_
        refine ACall_eq (at_ok _ _ rows q la0 g (idxS q (gt rows 0).length c la) (by omega) (by omega)) ?_
        rw [hdi.1, hdi.2]
        refine A_alloc rfl ?_
        intro HC nc
        have enc := nc.len
        have od := od.new nc
        have q0 := (nc.old _ (hget_lt q0)).trans q0
        have qo := (nc.old _ (hget_lt qo)).trans qo
        have qK := (nc.old _ (hget_lt qK)).trans qK
        have qp := (nc.old _ (hget_lt qp)).trans qp
        have qs := nc.new
        have lq0 := hget_lt q0
        have lqo := hget_lt qo
        have lqK := hget_lt qK
        have lqp := hget_lt qp
        have lqs := hget_lt qs
        refine A_store ty55 (by simp (disch := first | omega | (simp only [List.length_map, List.length_append, List.length_set, List.length_cons, List.length_nil, List.length_take, List.length_drop]; omega)) only [go_sem, ↓reduceIte, Nat.reduceEqDiff, reduceCtorEq, q0, qo, qK, qp, qs]; rfl) (by simp (disch := first | omega | (simp only [List.length_map, List.length_append, List.length_set, List.length_cons, List.length_nil, List.length_take, List.length_drop]; omega)) only [go_sem, ↓reduceIte, Nat.reduceEqDiff, reduceCtorEq, q0, qo, qK, qp, qs]; rfl) qs ⟨by omega, rfl, by first | exact Nat.le_refl _ | simp⟩ (show _ = [intsAV c, AV.i (sumL c), AV.i la] from rfl) ?_
        intro HD wd
        have ewd := wd.len
        have od := od.wrote wd (by omega)
        have q0 := (wd.old _ (by omega)).trans q0
        have qo := (wd.old _ (by omega)).trans qo
        have qK := (wd.old _ (by omega)).trans qK
        have qp := (wd.old _ (by omega)).trans qp
        have qs := wd.new
        have hO := hO.mono fun b hb k hk => (wd.old _ (by have := hget_lt hk; omega)).trans ((nc.old _ (hget_lt hk)).trans hk)
        have tr : ∀ y0 y1 y2 y3 y4 y5 y6 y7 y8 y9 y10 y14 y26 y36 y37 y38 y44 y45 y46 y52 y82 z0 z1 z2 z3 : AV, trim [(8, z3), (41, z2), (40, z1), (39, z0), (0, y0), (1, y1), (2, y2), (3, y3), (4, y4), (5, y5), (6, y6), (7, y7), (8, y8), (9, y9), (10, y10), (14, y14), (26, y26), (36, y36), (37, y37), (38, y38), (44, y44), (45, y45), (46, y46), (52, y52), (82, y82)] [(0, y0), (1, y1), (2, y2), (3, y3), (4, y4), (5, y5), (6, y6), (7, y7), (8, y8), (9, y9), (10, y10), (14, y14), (26, y26), (36, y36), (37, y37), (38, y38), (44, y44), (45, y45), (46, y46), (52, y52), (82, y82)] = [(0, y0), (1, y1), (2, y2), (3, y3), (4, y4), (5, y5), (6, y6), (7, y7), (8, z3), (9, y9), (10, y10), (14, y14), (26, y26), (36, y36), (37, y37), (38, y38), (44, y44), (45, y45), (46, y46), (52, y52), (82, y82)] := fun y0 y1 y2 y3 y4 y5 y6 y7 y8 y9 y10 y14 y26 y36 y37 y38 y44 y45 y46 y52 y82 z0 z1 z2 z3 => rfl
        refine R_nil (tr _ _ _ _ _ _ _ _ _ _ _ _ _ _ _ _ _ _ _ _ _ _ _ _ _) ?_; clear tr
        refine then_n ?_
        refine at_seq rfl ?_
        refine rg rfl ?_
        refine Rq ?_
        refine R_q rfl (by simp (disch := first | omega | (simp only [List.length_map, List.length_append, List.length_set, List.length_cons, List.length_nil, List.length_take, List.length_drop]; omega)) only [go_sem, ↓reduceIte, Nat.reduceEqDiff, reduceCtorEq, q0, qo, qK, qp, qs]; rfl) ?_
        refine Rq ?_
        refine Rq ?_
        have tr : ∀ y0 y1 y2 y3 y4 y5 y6 y7 y8 y9 y10 y14 y26 y36 y37 y38 y44 y45 y46 y52 y82 z0 z1 z2 z3 : AV, trim [(45, z3), (44, z2), (43, z1), (42, z0), (0, y0), (1, y1), (2, y2), (3, y3), (4, y4), (5, y5), (6, y6), (7, y7), (8, y8), (9, y9), (10, y10), (14, y14), (26, y26), (36, y36), (37, y37), (38, y38), (44, y44), (45, y45), (46, y46), (52, y52), (82, y82)] [(0, y0), (1, y1), (2, y2), (3, y3), (4, y4), (5, y5), (6, y6), (7, y7), (8, y8), (9, y9), (10, y10), (14, y14), (26, y26), (36, y36), (37, y37), (38, y38), (44, y44), (45, y45), (46, y46), (52, y52), (82, y82)] = [(0, y0), (1, y1), (2, y2), (3, y3), (4, y4), (5, y5), (6, y6), (7, y7), (8, y8), (9, y9), (10, y10), (14, y14), (26, y26), (36, y36), (37, y37), (38, y38), (44, z2), (45, z3), (46, y46), (52, y52), (82, y82)] := fun y0 y1 y2 y3 y4 y5 y6 y7 y8 y9 y10 y14 y26 y36 y37 y38 y44 y45 y46 y52 y82 z0 z1 z2 z3 => rfl
        refine R_nil (tr _ _ _ _ _ _ _ _ _ _ _ _ _ _ _ _ _ _ _ _ _ _ _ _ _) ?_; clear tr
        refine then_n ?_
        refine at_block rfl ?_
        refine loop_n rfl (fun mm kv H' => ∃ jn : Nat, ∃ x9 x10 x46 x52 x82 : AV, (kv = [(6, AV.i (idxS q (gt rows 0).length c la)), (9, x9), (10, x10), (45, AV.i jn), (46, x46), (52, x52), (82, x82)]) ∧ (mm = (gt rows 0).length - jn) ∧ (hget H' H.length = some [rowsAV rows, AV.i q, AV.i la0]) ∧ (hget H' H1.length = some [nilI, AV.i 0, nilI]) ∧ (hget H' HK.length = some [o, AV.i (potB rows q (zeroC rows) la0), AV.own 1 bk 0 K.length]) ∧ (hget H' bk = some (K.map AV.i)) ∧ (hget H' HA.length = some [intsAV c, AV.i (sumL c), AV.i la]) ∧ (OutI H4.length H' o w) ∧ (jn ≤ (gt rows 0).length) ∧ (∀ k, k < jn → ¬ Hit rows q c la k) ∧ (Old H H')) ⟨0, _, _, _, _, _, rfl, rfl, by exact q0, by exact qo, by exact qp, by exact qK, by exact qs, by exact hO, by omega, by intro k hk; omega, by exact od⟩ (by rfl) ?_
        rintro mm kv HB ⟨jn, x9, x10, x46, x52, x82, rfl, rfl, q0, qo, qp, qK, qs, hO, hj, hno, od⟩
        have tr : ∀ y0 y1 y2 y3 y4 y5 y6 y7 y8 y9 y10 y14 y26 y36 y37 y38 y44 y45 y46 y52 y82 z6 z9 z10 z45 z46 z52 z82 : AV, upd [(0, y0), (1, y1), (2, y2), (3, y3), (4, y4), (5, y5), (6, y6), (7, y7), (8, y8), (9, y9), (10, y10), (14, y14), (26, y26), (36, y36), (37, y37), (38, y38), (44, y44), (45, y45), (46, y46), (52, y52), (82, y82)] [(6, z6), (9, z9), (10, z10), (45, z45), (46, z46), (52, z52), (82, z82)] = [(0, y0), (1, y1), (2, y2), (3, y3), (4, y4), (5, y5), (6, z6), (7, y7), (8, y8), (9, z9), (10, z10), (14, y14), (26, y26), (36, y36), (37, y37), (38, y38), (44, y44), (45, z45), (46, z46), (52, z52), (82, z82)] := fun y0 y1 y2 y3 y4 y5 y6 y7 y8 y9 y10 y14 y26 y36 y37 y38 y44 y45 y46 y52 y82 z6 z9 z10 z45 z46 z52 z82 => rfl
        refine W_to (tr _ _ _ _ _ _ _ _ _ _ _ _ _ _ _ _ _ _ _ _ _ _ _ _ _ _ _ _) ?_; clear tr
        have lqp := hget_lt qp
        have lqK := hget_lt qK
        refine at_seq rfl ?_
        refine rg rfl ?_
        refine Rq ?_
        have tr : ∀ y0 y1 y2 y3 y4 y5 y6 y7 y8 y9 y10 y14 y26 y36 y37 y38 y44 y45 y46 y52 y82 z0 : AV, trim [(46, z0), (0, y0), (1, y1), (2, y2), (3, y3), (4, y4), (5, y5), (6, y6), (7, y7), (8, y8), (9, y9), (10, y10), (14, y14), (26, y26), (36, y36), (37, y37), (38, y38), (44, y44), (45, y45), (46, y46), (52, y52), (82, y82)] [(0, y0), (1, y1), (2, y2), (3, y3), (4, y4), (5, y5), (6, y6), (7, y7), (8, y8), (9, y9), (10, y10), (14, y14), (26, y26), (36, y36), (37, y37), (38, y38), (44, y44), (45, y45), (46, y46), (52, y52), (82, y82)] = [(0, y0), (1, y1), (2, y2), (3, y3), (4, y4), (5, y5), (6, y6), (7, y7), (8, y8), (9, y9), (10, y10), (14, y14), (26, y26), (36, y36), (37, y37), (38, y38), (44, y44), (45, y45), (46, z0), (52, y52), (82, y82)] := fun y0 y1 y2 y3 y4 y5 y6 y7 y8 y9 y10 y14 y26 y36 y37 y38 y44 y45 y46 y52 y82 z0 => rfl
        refine R_nil (tr _ _ _ _ _ _ _ _ _ _ _ _ _ _ _ _ _ _ _ _ _ _) ?_; clear tr
        refine then_n ?_
        refine at_seq rfl ?_
        refine cdd (fun h4 => ?_) (fun h4 => ?_)
        · try simp only [decide_eq_true_eq, decide_eq_false_iff_not, Bool.not_eq_true', Bool.not_eq_false', beq_iff_eq, beq_eq_false_iff_ne, ne_eq] at h4
          refine at_skip rfl ?_
          refine then_n ?_
          refine at_seq rfl ?_
          refine at_block rfl ?_
          refine at_seq rfl ?_
          refine rg rfl ?_
          refine Rq ?_
          refine Rq ?_
          have tr : ∀ y0 y1 y2 y3 y4 y5 y6 y7 y8 y9 y10 y14 y26 y36 y37 y38 y44 y45 y46 y52 y82 z0 z1 : AV, trim [(9, z1), (47, z0), (0, y0), (1, y1), (2, y2), (3, y3), (4, y4), (5, y5), (6, y6), (7, y7), (8, y8), (9, y9), (10, y10), (14, y14), (26, y26), (36, y36), (37, y37), (38, y38), (44, y44), (45, y45), (46, y46), (52, y52), (82, y82)] [(0, y0), (1, y1), (2, y2), (3, y3), (4, y4), (5, y5), (6, y6), (7, y7), (8, y8), (9, y9), (10, y10), (14, y14), (26, y26), (36, y36), (37, y37), (38, y38), (44, y44), (45, y45), (46, y46), (52, y52), (82, y82)] = [(0, y0), (1, y1), (2, y2), (3, y3), (4, y4), (5, y5), (6, y6), (7, y7), (8, y8), (9, z1), (10, y10), (14, y14), (26, y26), (36, y36), (37, y37), (38, y38), (44, y44), (45, y45), (46, y46), (52, y52), (82, y82)] := fun y0 y1 y2 y3 y4 y5 y6 y7 y8 y9 y10 y14 y26 y36 y37 y38 y44 y45 y46 y52 y82 z0 z1 => rfl
          refine R_nil (tr _ _ _ _ _ _ _ _ _ _ _ _ _ _ _ _ _ _ _ _ _ _ _) ?_; clear tr
          refine then_n ?_
          refine at_seq rfl ?_
          refine at_seq rfl ?_
          refine rg rfl ?_
          refine R_q rfl (by simp (disch := first | omega | (simp only [List.length_map, List.length_append, List.length_set, List.length_cons, List.length_nil, List.length_take, List.length_drop]; omega)) only [go_sem, ↓reduceIte, Nat.reduceEqDiff, reduceCtorEq, q0, qo, qK, qp, qs]; rfl) ?_
          refine R_q rfl (by simp (disch := first | omega | (simp only [List.length_map, List.length_append, List.length_set, List.length_cons, List.length_nil, List.length_take, List.length_drop]; omega)) only [go_sem, ↓reduceIte, Nat.reduceEqDiff, reduceCtorEq, q0, qo, qK, qp, qs]; rfl) ?_
          refine Rq ?_
          refine Rcall ?_
          refine ACall_eq (rmay_ok _ _ rows q la0 g c la st _ (.inl rfl) _ jn (by omega)) ?_
          refine Rq ?_
          have tr : ∀ y0 y1 y2 y3 y4 y5 y6 y7 y8 y9 y10 y14 y26 y36 y37 y38 y44 y45 y46 y52 y82 z0 z1 z2 z3 z4 : AV, trim [(52, z4), (51, z3), (50, z2), (49, z1), (48, z0), (0, y0), (1, y1), (2, y2), (3, y3), (4, y4), (5, y5), (6, y6), (7, y7), (8, y8), (9, y9), (10, y10), (14, y14), (26, y26), (36, y36), (37, y37), (38, y38), (44, y44), (45, y45), (46, y46), (52, y52), (82, y82)] [(0, y0), (1, y1), (2, y2), (3, y3), (4, y4), (5, y5), (6, y6), (7, y7), (8, y8), (9, y9), (10, y10), (14, y14), (26, y26), (36, y36), (37, y37), (38, y38), (44, y44), (45, y45), (46, y46), (52, y52), (82, y82)] = [(0, y0), (1, y1), (2, y2), (3, y3), (4, y4), (5, y5), (6, y6), (7, y7), (8, y8), (9, y9), (10, y10), (14, y14), (26, y26), (36, y36), (37, y37), (38, y38), (44, y44), (45, y45), (46, y46), (52, z4), (82, y82)] := fun y0 y1 y2 y3 y4 y5 y6 y7 y8 y9 y10 y14 y26 y36 y37 y38 y44 y45 y46 y52 y82 z0 z1 z2 z3 z4 => rfl
          refine R_nil (tr _ _ _ _ _ _ _ _ _ _ _ _ _ _ _ _ _ _ _ _ _ _ _ _ _ _) ?_; clear tr
          refine then_n ?_
          refine cdd (fun h5 => ?_) (fun h5 => ?_)
          · try simp only [decide_eq_true_eq, decide_eq_false_iff_not, Bool.not_eq_true', Bool.not_eq_false', beq_iff_eq, beq_eq_false_iff_ne, ne_eq] at h5
            refine at_exit rfl ?_
            refine then_x ?_
            refine blk_x ?_
            refine then_n ?_
            refine rg rfl ?_
            refine Rq ?_
            refine Rq ?_
            have tr : ∀ y0 y1 y2 y3 y4 y5 y6 y7 y8 y9 y10 y14 y26 y36 y37 y38 y44 y45 y46 y52 y82 z0 z1 : AV, trim [(45, z1), (90, z0), (0, y0), (1, y1), (2, y2), (3, y3), (4, y4), (5, y5), (6, y6), (7, y7), (8, y8), (9, y9), (10, y10), (14, y14), (26, y26), (36, y36), (37, y37), (38, y38), (44, y44), (45, y45), (46, y46), (52, y52), (82, y82)] [(0, y0), (1, y1), (2, y2), (3, y3), (4, y4), (5, y5), (6, y6), (7, y7), (8, y8), (9, y9), (10, y10), (14, y14), (26, y26), (36, y36), (37, y37), (38, y38), (44, y44), (45, y45), (46, y46), (52, y52), (82, y82)] = [(0, y0), (1, y1), (2, y2), (3, y3), (4, y4), (5, y5), (6, y6), (7, y7), (8, y8), (9, y9), (10, y10), (14, y14), (26, y26), (36, y36), (37, y37), (38, y38), (44, y44), (45, z1), (46, y46), (52, y52), (82, y82)] := fun y0 y1 y2 y3 y4 y5 y6 y7 y8 y9 y10 y14 y26 y36 y37 y38 y44 y45 y46 y52 y82 z0 z1 => rfl
            refine R_nil (tr _ _ _ _ _ _ _ _ _ _ _ _ _ _ _ _ _ _ _ _ _ _ _) ?_; clear tr
            refine then_n ?_
            exact ⟨_, _, ⟨jn + 1, _, _, _, _, _, rfl, rfl, by exact q0, by exact qo, by exact qp, by exact qK, by exact qs, by exact hO, by omega, by exact hit_step hno (fun hh => by obtain ⟨hh1, hh2, hh3, hh4⟩ := hh; unfold potB at hh3 hh4; omega), by exact od⟩, by rfl, by omega⟩
          · try simp only [decide_eq_true_eq, decide_eq_false_iff_not, Bool.not_eq_true', Bool.not_eq_false', beq_iff_eq, beq_eq_false_iff_ne, ne_eq] at h5
            refine at_skip rfl ?_
            refine then_n ?_
            refine at_seq rfl ?_
            refine rg rfl ?_
            have hcj := okc_gt st.c (j := jn) (by omega)
            have sta := aft_st st (j := jn) (by omega) (by omega)
            have hsa := sum_aft c jn (by omega)
            refine R_q rfl (by simp (disch := first | omega | (simp only [List.length_map, List.length_append, List.length_set, List.length_cons, List.length_nil, List.length_take, List.length_drop]; omega)) only [go_sem, ↓reduceIte, Nat.reduceEqDiff, reduceCtorEq, q0, qo, qK, qp, qs]; rfl) ?_
            refine R_q rfl (by simp (disch := first | omega | (simp only [List.length_map, List.length_append, List.length_set, List.length_cons, List.length_nil, List.length_take, List.length_drop]; omega)) only [go_sem, ↓reduceIte, Nat.reduceEqDiff, reduceCtorEq, q0, qo, qK, qp, qs]; rfl) ?_
            refine Rq ?_
            refine Rcall ?_
            refine ACall_eq (rafter_ok _ _ rows q la0 g c la st _ (.inl rfl) _ jn (by omega) (by omega)) ?_
            refine Rq ?_
            have tr : ∀ y0 y1 y2 y3 y4 y5 y6 y7 y8 y9 y10 y14 y26 y36 y37 y38 y44 y45 y46 y52 y82 z0 z1 z2 z3 z4 : AV, trim [(10, z4), (56, z3), (55, z2), (54, z1), (53, z0), (0, y0), (1, y1), (2, y2), (3, y3), (4, y4), (5, y5), (6, y6), (7, y7), (8, y8), (9, y9), (10, y10), (14, y14), (26, y26), (36, y36), (37, y37), (38, y38), (44, y44), (45, y45), (46, y46), (52, y52), (82, y82)] [(0, y0), (1, y1), (2, y2), (3, y3), (4, y4), (5, y5), (6, y6), (7, y7), (8, y8), (9, y9), (10, y10), (14, y14), (26, y26), (36, y36), (37, y37), (38, y38), (44, y44), (45, y45), (46, y46), (52, y52), (82, y82)] = [(0, y0), (1, y1), (2, y2), (3, y3), (4, y4), (5, y5), (6, y6), (7, y7), (8, y8), (9, y9), (10, z4), (14, y14), (26, y26), (36, y36), (37, y37), (38, y38), (44, y44), (45, y45), (46, y46), (52, y52), (82, y82)] := fun y0 y1 y2 y3 y4 y5 y6 y7 y8 y9 y10 y14 y26 y36 y37 y38 y44 y45 y46 y52 y82 z0 z1 z2 z3 z4 => rfl
            refine R_nil (tr _ _ _ _ _ _ _ _ _ _ _ _ _ _ _ _ _ _ _ _ _ _ _ _ _ _) ?_; clear tr
            refine then_n ?_
            refine at_seq rfl ?_
            refine rd rfl rfl ?_
            have hka := full_at hK hq0 sta
            have hkc := full_at hK hq0 st
            have hia := idx_rng hq0 sta
            have hpa := pot_rng g (aft c jn) (by omega) jn
            have hrl := g5 (sumL c).toNat (by omega)
            have hce := cell_rng g (sumL c).toNat jn
            refine Qq ?_
            refine Qq ?_
            refine Qq ?_
            refine Q_q rfl (by simp (disch := first | omega | (simp only [List.length_map, List.length_append, List.length_set, List.length_cons, List.length_nil, List.length_take, List.length_drop]; omega)) only [go_sem, ↓reduceIte, Nat.reduceEqDiff, reduceCtorEq, q0, qo, qK, qp, qs]; rfl) ?_
            refine Qq ?_
            refine Qq ?_
            refine Qp_split (fun h6 => ?_) (fun h6 => ?_)
            · try simp only [decide_eq_true_eq, decide_eq_false_iff_not, Bool.not_eq_true', Bool.not_eq_false', beq_iff_eq, beq_eq_false_iff_ne, ne_eq] at h6
              refine Qy ?_
              refine Qq ?_
              refine Qy ?_
              refine Q_q rfl (by simp (disch := first | omega | (simp only [List.length_map, List.length_append, List.length_set, List.length_cons, List.length_nil, List.length_take, List.length_drop]; omega)) only [go_sem, ↓reduceIte, Nat.reduceEqDiff, reduceCtorEq, q0, qo, qK, qp, qs]; rfl) ?_
              refine Qy ?_
              refine Qq ?_
              refine Qy ?_
              refine Q_q rfl (by simp (disch := first | omega | (simp only [List.length_map, List.length_append, List.length_set, List.length_cons, List.length_nil, List.length_take, List.length_drop]; omega)) only [go_sem, ↓reduceIte, Nat.reduceEqDiff, reduceCtorEq, q0, qo, qK, qp, qs]; rfl) ?_
              refine Qy ?_
              refine Qq ?_
              refine Qy ?_
              refine Q_q rfl (by simp (disch := first | omega | (simp only [List.length_map, List.length_append, List.length_set, List.length_cons, List.length_nil, List.length_take, List.length_drop]; omega)) only [go_sem, ↓reduceIte, Nat.reduceEqDiff, reduceCtorEq, q0, qo, qK, qp, qs]; rfl) ?_
              refine Qy ?_
              refine Qq ?_
              refine Qy ?_
              refine Qq ?_
              refine Qy ?_
              refine Q_q rfl (by simp (disch := first | omega | (simp only [List.length_map, List.length_append, List.length_set, List.length_cons, List.length_nil, List.length_take, List.length_drop]; omega)) only [go_sem, ↓reduceIte, Nat.reduceEqDiff, reduceCtorEq, q0, qo, qK, qp, qs]; rfl) ?_
              refine Qy ?_
              refine Qq ?_
              refine Qy ?_
              refine Qq ?_
              refine Qy ?_
              refine Qq ?_
              refine Qy ?_
              refine Q_q rfl (by simp (disch := first | omega | (simp only [List.length_map, List.length_append, List.length_set, List.length_cons, List.length_nil, List.length_take, List.length_drop]; omega)) only [go_sem, ↓reduceIte, Nat.reduceEqDiff, reduceCtorEq, q0, qo, qK, qp, qs]; rfl) ?_
              refine Qy ?_
              refine Qq ?_
              refine Qy ?_
              refine Qq ?_
              refine Qy ?_
              refine Qq ?_
              refine Qy ?_
              refine Qq ?_
              refine Qy ?_
              refine Q_q rfl (by simp (disch := first | omega | (simp only [List.length_map, List.length_append, List.length_set, List.length_cons, List.length_nil, List.length_take, List.length_drop]; omega)) only [go_sem, ↓reduceIte, Nat.reduceEqDiff, reduceCtorEq, q0, qo, qK, qp, qs]; rfl) ?_
              refine Qy ?_
              refine Qq ?_
              refine Qq ?_
              refine Q_nil ?_
              have tr : ∀ y0 y1 y2 y3 y4 y5 y6 y7 y8 y9 y10 y14 y26 y36 y37 y38 y44 y45 y46 y52 y82 z0 z1 z2 z3 z4 z5 z6 z7 z8 z9 z10 z11 z12 z13 z14 z15 z16 z17 z18 z19 z20 z21 z22 z23 z24 z25 : AV, trim [(82, z25), (81, z24), (80, z23), (79, z22), (78, z21), (77, z20), (76, z19), (75, z18), (74, z17), (73, z16), (72, z15), (71, z14), (70, z13), (69, z12), (68, z11), (67, z10), (66, z9), (65, z8), (64, z7), (63, z6), (62, z5), (61, z4), (60, z3), (59, z2), (58, z1), (57, z0), (0, y0), (1, y1), (2, y2), (3, y3), (4, y4), (5, y5), (6, y6), (7, y7), (8, y8), (9, y9), (10, y10), (14, y14), (26, y26), (36, y36), (37, y37), (38, y38), (44, y44), (45, y45), (46, y46), (52, y52), (82, y82)] [(0, y0), (1, y1), (2, y2), (3, y3), (4, y4), (5, y5), (6, y6), (7, y7), (8, y8), (9, y9), (10, y10), (14, y14), (26, y26), (36, y36), (37, y37), (38, y38), (44, y44), (45, y45), (46, y46), (52, y52), (82, y82)] = [(0, y0), (1, y1), (2, y2), (3, y3), (4, y4), (5, y5), (6, y6), (7, y7), (8, y8), (9, y9), (10, y10), (14, y14), (26, y26), (36, y36), (37, y37), (38, y38), (44, y44), (45, y45), (46, y46), (52, y52), (82, z25)] := fun y0 y1 y2 y3 y4 y5 y6 y7 y8 y9 y10 y14 y26 y36 y37 y38 y44 y45 y46 y52 y82 z0 z1 z2 z3 z4 z5 z6 z7 z8 z9 z10 z11 z12 z13 z14 z15 z16 z17 z18 z19 z20 z21 z22 z23 z24 z25 => rfl
              refine R_nil (tr _ _ _ _ _ _ _ _ _ _ _ _ _ _ _ _ _ _ _ _ _ _ _ _ _ _ _ _ _ _ _ _ _ _ _ _ _ _ _ _ _ _ _ _ _ _ _) ?_; clear tr
              refine then_n ?_
              refine cdd (fun h7 => ?_) (fun h7 => ?_)
              · try simp only [decide_eq_true_eq, decide_eq_false_iff_not, Bool.not_eq_true', Bool.not_eq_false', beq_iff_eq, beq_eq_false_iff_ne, ne_eq] at h7
                refine at_seq rfl ?_
                refine rg rfl ?_
                have hhit : Hit rows q c la jn := ⟨by omega, by omega, by unfold potB; omega, by unfold potB; omega⟩
                refine Rq ?_
                refine R_q rfl (by simp (disch := first | omega | (simp only [List.length_map, List.length_append, List.length_set, List.length_cons, List.length_nil, List.length_take, List.length_drop]; omega)) only [go_sem, ↓reduceIte, Nat.reduceEqDiff, reduceCtorEq, q0, qo, qK, qp, qs]; rfl) ?_
                refine Rq ?_
                refine A_buildSlice (bs25 _ _ _ _ jn (by simp (disch := first | omega | (simp only [List.length_map, List.length_append, List.length_set, List.length_cons, List.length_nil, List.length_take, List.length_drop]; omega)) only [go_sem, ↓reduceIte, Nat.reduceEqDiff, reduceCtorEq, q0, qo, qK, qp, qs])) ?_
                intro HE ne
                have ene := ne.len
                have od := od.new ne
                have q0 := (ne.old _ (hget_lt q0)).trans q0
                have qo := (ne.old _ (hget_lt qo)).trans qo
                have qK := (ne.old _ (hget_lt qK)).trans qK
                have qp := (ne.old _ (hget_lt qp)).trans qp
                have qs := (ne.old _ (hget_lt qs)).trans qs
                have qn := ne.new
                have hO := hO.mono fun b hb k hk => (ne.old _ (hget_lt hk)).trans hk
                have lq0 := hget_lt q0
                have lqo := hget_lt qo
                have lqK := hget_lt qK
                have lqp := hget_lt qp
                have lqn := hget_lt qn
                obtain ⟨b, hbl, hap⟩ := outI_append (lim := lim) hO qn (by omega) (by omega) (by omega)
                refine A_append (by simp (disch := first | omega | (simp only [List.length_map, List.length_append, List.length_set, List.length_cons, List.length_nil, List.length_take, List.length_drop]; omega)) only [go_sem, ↓reduceIte, Nat.reduceEqDiff, reduceCtorEq, q0, qo, qK, qp, qs]; exact hap) ?_
                intro HF gf
                have egf := gf.len
                have od := od.grew gf (by omega)
                have q0 := (gf.old _ (by omega) lq0).trans q0
                have qo := (gf.old _ (by omega) lqo).trans qo
                have qK := (gf.old _ (by omega) lqK).trans qK
                have qp := (gf.old _ (by omega) lqp).trans qp
                have qw := gf.new
                refine Rq ?_
                have lq0 := hget_lt q0
                have lqo := hget_lt qo
                have lqK := hget_lt qK
                have lqp := hget_lt qp
                have lqw := hget_lt qw
                refine A_store ty25 (by simp (disch := first | omega | (simp only [List.length_map, List.length_append, List.length_set, List.length_cons, List.length_nil, List.length_take, List.length_drop]; omega)) only [go_sem, ↓reduceIte, Nat.reduceEqDiff, reduceCtorEq, q0, qo, qK, qp, qs]; rfl) (by simp (disch := first | omega | (simp only [List.length_map, List.length_append, List.length_set, List.length_cons, List.length_nil, List.length_take, List.length_drop]; omega)) only [go_sem, ↓reduceIte, Nat.reduceEqDiff, reduceCtorEq, q0, qo, qK, qp, qs]; rfl) qp ⟨by omega, rfl, by first | exact Nat.le_refl _ | (show _ ≤ 3; decide)⟩ (k' := [AV.own 1 HE.length 0 (w.length + 1), AV.i (potB rows q (zeroC rows) la0), AV.own 1 bk 0 K.length]) rfl ?_
                intro HG wg
                have ewg := wg.len
                have od := od.wrote wg (by omega)
                have q0 := (wg.old _ (by omega)).trans q0
                have qo := (wg.old _ (by omega)).trans qo
                have qK := (wg.old _ (by omega)).trans qK
                have qw := (wg.old _ (by omega)).trans qw
                have qp := wg.new
                have tr : ∀ y0 y1 y2 y3 y4 y5 y6 y7 y8 y9 y10 y14 y26 y36 y37 y38 y44 y45 y46 y52 y82 z0 z1 z2 z3 z4 z5 : AV, trim [(88, z5), (87, z4), (86, z3), (85, z2), (84, z1), (83, z0), (0, y0), (1, y1), (2, y2), (3, y3), (4, y4), (5, y5), (6, y6), (7, y7), (8, y8), (9, y9), (10, y10), (14, y14), (26, y26), (36, y36), (37, y37), (38, y38), (44, y44), (45, y45), (46, y46), (52, y52), (82, y82)] [(0, y0), (1, y1), (2, y2), (3, y3), (4, y4), (5, y5), (6, y6), (7, y7), (8, y8), (9, y9), (10, y10), (14, y14), (26, y26), (36, y36), (37, y37), (38, y38), (44, y44), (45, y45), (46, y46), (52, y52), (82, y82)] = [(0, y0), (1, y1), (2, y2), (3, y3), (4, y4), (5, y5), (6, y6), (7, y7), (8, y8), (9, y9), (10, y10), (14, y14), (26, y26), (36, y36), (37, y37), (38, y38), (44, y44), (45, y45), (46, y46), (52, y52), (82, y82)] := fun y0 y1 y2 y3 y4 y5 y6 y7 y8 y9 y10 y14 y26 y36 y37 y38 y44 y45 y46 y52 y82 z0 z1 z2 z3 z4 z5 => rfl
                refine R_nil (tr _ _ _ _ _ _ _ _ _ _ _ _ _ _ _ _ _ _ _ _ _ _ _ _ _ _ _) ?_; clear tr
                refine then_n ?_
                refine at_seq rfl ?_
                refine rg rfl ?_
                refine Rq ?_
                refine Rq ?_
                have tr : ∀ y0 y1 y2 y3 y4 y5 y6 y7 y8 y9 y10 y14 y26 y36 y37 y38 y44 y45 y46 y52 y82 z0 z1 : AV, trim [(6, z1), (89, z0), (0, y0), (1, y1), (2, y2), (3, y3), (4, y4), (5, y5), (6, y6), (7, y7), (8, y8), (9, y9), (10, y10), (14, y14), (26, y26), (36, y36), (37, y37), (38, y38), (44, y44), (45, y45), (46, y46), (52, y52), (82, y82)] [(0, y0), (1, y1), (2, y2), (3, y3), (4, y4), (5, y5), (6, y6), (7, y7), (8, y8), (9, y9), (10, y10), (14, y14), (26, y26), (36, y36), (37, y37), (38, y38), (44, y44), (45, y45), (46, y46), (52, y52), (82, y82)] = [(0, y0), (1, y1), (2, y2), (3, y3), (4, y4), (5, y5), (6, z1), (7, y7), (8, y8), (9, y9), (10, y10), (14, y14), (26, y26), (36, y36), (37, y37), (38, y38), (44, y44), (45, y45), (46, y46), (52, y52), (82, y82)] := fun y0 y1 y2 y3 y4 y5 y6 y7 y8 y9 y10 y14 y26 y36 y37 y38 y44 y45 y46 y52 y82 z0 z1 => rfl
                refine R_nil (tr _ _ _ _ _ _ _ _ _ _ _ _ _ _ _ _ _ _ _ _ _ _ _) ?_; clear tr
                refine then_n ?_
                refine at_exit rfl ?_
                refine blk_p (by decide) ?_
                refine then_x ?_
                refine then_x ?_
                refine blk_x ?_
                refine blk_n ?_
                refine then_n ?_
                refine rg rfl ?_
                refine Rq ?_
                refine Rq ?_
                have tr : ∀ y0 y1 y2 y3 y4 y5 y6 y7 y8 y9 y10 y14 y26 y36 y37 y38 y44 y45 y46 y52 y82 z0 z1 : AV, trim [(37, z1), (91, z0), (0, y0), (1, y1), (2, y2), (3, y3), (4, y4), (5, y5), (6, y6), (7, y7), (8, y8), (9, y9), (10, y10), (14, y14), (26, y26), (36, y36), (37, y37), (38, y38), (44, y44), (45, y45), (46, y46), (52, y52), (82, y82)] [(0, y0), (1, y1), (2, y2), (3, y3), (4, y4), (5, y5), (6, y6), (7, y7), (8, y8), (9, y9), (10, y10), (14, y14), (26, y26), (36, y36), (37, y37), (38, y38), (44, y44), (45, y45), (46, y46), (52, y52), (82, y82)] = [(0, y0), (1, y1), (2, y2), (3, y3), (4, y4), (5, y5), (6, y6), (7, y7), (8, y8), (9, y9), (10, y10), (14, y14), (26, y26), (36, y36), (37, z1), (38, y38), (44, y44), (45, y45), (46, y46), (52, y52), (82, y82)] := fun y0 y1 y2 y3 y4 y5 y6 y7 y8 y9 y10 y14 y26 y36 y37 y38 y44 y45 y46 y52 y82 z0 z1 => rfl
                refine R_nil (tr _ _ _ _ _ _ _ _ _ _ _ _ _ _ _ _ _ _ _ _ _ _ _) ?_; clear tr
                refine then_n ?_
                exact ⟨_, _, ⟨u + 1, _, (w ++ [(jn : Int)]), (AV.own 1 HE.length 0 (w.length + 1)), (aft c jn), jn, _, _, _, _, _, _, _, _, _, rfl, rfl, by exact q0, by exact qo, by exact qp, by exact qK, by exact (show OutI H4.length HG (AV.own 1 HE.length 0 (w.length + 1)) (w ++ [(jn : Int)]) from OutI.new qw (by omega) (by rw [List.length_append]; rfl)), by omega, by rw [List.length_append, hw]; rfl, by exact .snoc hR ⟨by omega, hhit, hno⟩, by exact sta, by omega, by exact hhit.2.2.1, by rfl, by exact od⟩, by rfl, by omega⟩
              · try simp only [decide_eq_true_eq, decide_eq_false_iff_not, Bool.not_eq_true', Bool.not_eq_false', beq_iff_eq, beq_eq_false_iff_ne, ne_eq] at h7
                refine at_skip rfl ?_
                refine blk_n ?_
                refine then_n ?_
                refine rg rfl ?_
                refine Rq ?_
                refine Rq ?_
                have tr : ∀ y0 y1 y2 y3 y4 y5 y6 y7 y8 y9 y10 y14 y26 y36 y37 y38 y44 y45 y46 y52 y82 z0 z1 : AV, trim [(45, z1), (90, z0), (0, y0), (1, y1), (2, y2), (3, y3), (4, y4), (5, y5), (6, y6), (7, y7), (8, y8), (9, y9), (10, y10), (14, y14), (26, y26), (36, y36), (37, y37), (38, y38), (44, y44), (45, y45), (46, y46), (52, y52), (82, y82)] [(0, y0), (1, y1), (2, y2), (3, y3), (4, y4), (5, y5), (6, y6), (7, y7), (8, y8), (9, y9), (10, y10), (14, y14), (26, y26), (36, y36), (37, y37), (38, y38), (44, y44), (45, y45), (46, y46), (52, y52), (82, y82)] = [(0, y0), (1, y1), (2, y2), (3, y3), (4, y4), (5, y5), (6, y6), (7, y7), (8, y8), (9, y9), (10, y10), (14, y14), (26, y26), (36, y36), (37, y37), (38, y38), (44, y44), (45, z1), (46, y46), (52, y52), (82, y82)] := fun y0 y1 y2 y3 y4 y5 y6 y7 y8 y9 y10 y14 y26 y36 y37 y38 y44 y45 y46 y52 y82 z0 z1 => rfl
                refine R_nil (tr _ _ _ _ _ _ _ _ _ _ _ _ _ _ _ _ _ _ _ _ _ _ _) ?_; clear tr
                refine then_n ?_
                exact ⟨_, _, ⟨jn + 1, _, _, _, _, _, rfl, rfl, by exact q0, by exact qo, by exact qp, by exact qK, by exact qs, by exact hO, by omega, by exact hit_step hno (fun hh => by obtain ⟨hh1, hh2, hh3, hh4⟩ := hh; unfold potB at hh3 hh4; omega), by exact od⟩, by rfl, by omega⟩
            · try simp only [decide_eq_true_eq, decide_eq_false_iff_not, Bool.not_eq_true', Bool.not_eq_false', beq_iff_eq, beq_eq_false_iff_ne, ne_eq] at h6
              refine Qn ?_
              refine Qn ?_
              refine Qn ?_
              refine Qn ?_
              refine Qn ?_
              refine Qn ?_
              refine Qn ?_
              refine Qn ?_
              refine Qn ?_
              refine Qn ?_
              refine Qn ?_
              refine Qn ?_
              refine Qn ?_
              refine Qn ?_
              refine Qn ?_
              refine Qn ?_
              refine Qn ?_
              refine Qn ?_
              refine Qn ?_
              refine Qq ?_
              refine Q_nil ?_
              have tr : ∀ y0 y1 y2 y3 y4 y5 y6 y7 y8 y9 y10 y14 y26 y36 y37 y38 y44 y45 y46 y52 y82 z0 z1 z2 z3 z4 z5 z6 z7 z8 z9 z10 z11 z12 z13 z14 z15 z16 z17 z18 z19 z20 z21 z22 z23 z24 z25 : AV, trim [(82, z25), (81, z24), (80, z23), (79, z22), (78, z21), (77, z20), (76, z19), (75, z18), (74, z17), (73, z16), (72, z15), (71, z14), (70, z13), (69, z12), (68, z11), (67, z10), (66, z9), (65, z8), (64, z7), (63, z6), (62, z5), (61, z4), (60, z3), (59, z2), (58, z1), (57, z0), (0, y0), (1, y1), (2, y2), (3, y3), (4, y4), (5, y5), (6, y6), (7, y7), (8, y8), (9, y9), (10, y10), (14, y14), (26, y26), (36, y36), (37, y37), (38, y38), (44, y44), (45, y45), (46, y46), (52, y52), (82, y82)] [(0, y0), (1, y1), (2, y2), (3, y3), (4, y4), (5, y5), (6, y6), (7, y7), (8, y8), (9, y9), (10, y10), (14, y14), (26, y26), (36, y36), (37, y37), (38, y38), (44, y44), (45, y45), (46, y46), (52, y52), (82, y82)] = [(0, y0), (1, y1), (2, y2), (3, y3), (4, y4), (5, y5), (6, y6), (7, y7), (8, y8), (9, y9), (10, y10), (14, y14), (26, y26), (36, y36), (37, y37), (38, y38), (44, y44), (45, y45), (46, y46), (52, y52), (82, z25)] := fun y0 y1 y2 y3 y4 y5 y6 y7 y8 y9 y10 y14 y26 y36 y37 y38 y44 y45 y46 y52 y82 z0 z1 z2 z3 z4 z5 z6 z7 z8 z9 z10 z11 z12 z13 z14 z15 z16 z17 z18 z19 z20 z21 z22 z23 z24 z25 => rfl
              refine R_nil (tr _ _ _ _ _ _ _ _ _ _ _ _ _ _ _ _ _ _ _ _ _ _ _ _ _ _ _ _ _ _ _ _ _ _ _ _ _ _ _ _ _ _ _ _ _ _ _) ?_; clear tr
              refine then_n ?_
              refine cdf ?_
              refine at_skip rfl ?_
              refine blk_n ?_
              refine then_n ?_
              refine rg rfl ?_
              refine Rq ?_
              refine Rq ?_
              have tr : ∀ y0 y1 y2 y3 y4 y5 y6 y7 y8 y9 y10 y14 y26 y36 y37 y38 y44 y45 y46 y52 y82 z0 z1 : AV, trim [(45, z1), (90, z0), (0, y0), (1, y1), (2, y2), (3, y3), (4, y4), (5, y5), (6, y6), (7, y7), (8, y8), (9, y9), (10, y10), (14, y14), (26, y26), (36, y36), (37, y37), (38, y38), (44, y44), (45, y45), (46, y46), (52, y52), (82, y82)] [(0, y0), (1, y1), (2, y2), (3, y3), (4, y4), (5, y5), (6, y6), (7, y7), (8, y8), (9, y9), (10, y10), (14, y14), (26, y26), (36, y36), (37, y37), (38, y38), (44, y44), (45, y45), (46, y46), (52, y52), (82, y82)] = [(0, y0), (1, y1), (2, y2), (3, y3), (4, y4), (5, y5), (6, y6), (7, y7), (8, y8), (9, y9), (10, y10), (14, y14), (26, y26), (36, y36), (37, y37), (38, y38), (44, y44), (45, z1), (46, y46), (52, y52), (82, y82)] := fun y0 y1 y2 y3 y4 y5 y6 y7 y8 y9 y10 y14 y26 y36 y37 y38 y44 y45 y46 y52 y82 z0 z1 => rfl
              refine R_nil (tr _ _ _ _ _ _ _ _ _ _ _ _ _ _ _ _ _ _ _ _ _ _ _) ?_; clear tr
              refine then_n ?_
              exact ⟨_, _, ⟨jn + 1, _, _, _, _, _, rfl, rfl, by exact q0, by exact qo, by exact qp, by exact qK, by exact qs, by exact hO, by omega, by exact hit_step hno (fun hh => by obtain ⟨hh1, hh2, hh3, hh4⟩ := hh; unfold potB at hh3 hh4; omega), by exact od⟩, by rfl, by omega⟩
        · try simp only [decide_eq_true_eq, decide_eq_false_iff_not, Bool.not_eq_true', Bool.not_eq_false', beq_iff_eq, beq_eq_false_iff_ne, ne_eq] at h4
          refine at_exit rfl ?_
          refine then_x ?_
          refine then_x ?_
          refine blk_x ?_
          refine blk_n ?_
          refine then_n ?_
          refine rg rfl ?_
          exact (hit_ex hcl (by omega) hpc (fun k hk => hno k (by omega))).elim
      · try simp only [decide_eq_true_eq, decide_eq_false_iff_not, Bool.not_eq_true', Bool.not_eq_false', beq_iff_eq, beq_eq_false_iff_ne, ne_eq] at h3
        refine at_exit rfl ?_
        refine then_x ?_
        refine then_x ?_
        refine blk_x ?_
        refine then_n ?_
        refine at_seq rfl ?_
        refine rg rfl ?_
        obtain ⟨bw, rfl, hbw, qw⟩ := hO.resolve_left (fun hh => by rw [hh.1] at hw; simp at hw; omega)
        refine R_q rfl (by simp (disch := first | omega | (simp only [List.length_map, List.length_append, List.length_set, List.length_cons, List.length_nil, List.length_take, List.length_drop]; omega)) only [go_sem, ↓reduceIte, Nat.reduceEqDiff, reduceCtorEq, q0, qo, qK, qp, qs]; rfl) ?_
        have lq0 := hget_lt q0
        have lqo := hget_lt qo
        have lqK := hget_lt qK
        have lqp := hget_lt qp
        have lqw := hget_lt qw
        refine A_store ty37 (by simp (disch := first | omega | (simp only [List.length_map, List.length_append, List.length_set, List.length_cons, List.length_nil, List.length_take, List.length_drop]; omega)) only [go_sem, ↓reduceIte, Nat.reduceEqDiff, reduceCtorEq, q0, qo, qK, qp]; rfl) (by simp (disch := first | omega | (simp only [List.length_map, List.length_append, List.length_set, List.length_cons, List.length_nil, List.length_take, List.length_drop]; omega)) only [go_sem, ↓reduceIte, Nat.reduceEqDiff, reduceCtorEq, q0, qo, qK, qp]; rfl) qo ⟨by omega, rfl, by first | exact Nat.le_refl _ | simp⟩ (k' := [AV.own 1 bw 0 w.length, AV.i (potB rows q (zeroC rows) la0), AV.own 1 bk 0 K.length]) rfl ?_
        intro HZ wz
        have ewz := wz.len
        have od := od.wrote wz (by omega)
        have q0 := (wz.old _ (by omega)).trans q0
        have qK := (wz.old _ (by omega)).trans qK
        have qp := (wz.old _ (by omega)).trans qp
        have qw := (wz.old _ (by omega)).trans qw
        have qo := wz.new
        refine Rq ?_
        have tr : ∀ y0 y1 y2 y3 y4 y5 y6 y7 y8 y9 y10 y14 y26 y36 y37 y38 y44 y45 y46 y52 y82 z0 z1 : AV, trim [(3, z1), (92, z0), (0, y0), (1, y1), (2, y2), (3, y3), (4, y4), (5, y5), (6, y6), (7, y7), (8, y8), (9, y9), (10, y10), (14, y14), (26, y26), (36, y36), (37, y37), (38, y38), (44, y44), (45, y45), (46, y46), (52, y52), (82, y82)] [(0, y0), (1, y1), (2, y2), (3, y3), (4, y4), (5, y5), (6, y6), (7, y7), (8, y8), (9, y9), (10, y10), (14, y14), (26, y26), (36, y36), (37, y37), (38, y38), (44, y44), (45, y45), (46, y46), (52, y52), (82, y82)] = [(0, y0), (1, y1), (2, y2), (3, z1), (4, y4), (5, y5), (6, y6), (7, y7), (8, y8), (9, y9), (10, y10), (14, y14), (26, y26), (36, y36), (37, y37), (38, y38), (44, y44), (45, y45), (46, y46), (52, y52), (82, y82)] := fun y0 y1 y2 y3 y4 y5 y6 y7 y8 y9 y10 y14 y26 y36 y37 y38 y44 y45 y46 y52 y82 z0 z1 => rfl
        refine R_nil (tr _ _ _ _ _ _ _ _ _ _ _ _ _ _ _ _ _ _ _ _ _ _ _) ?_; clear tr
        refine then_n ?_
        refine at_ret rfl ?_
        refine fin_own (rs := [.cell 2 37, .tmp 3]) rfl (by simp only [go_sem, ↓reduceIte, Nat.reduceEqDiff, qo]; rfl) ?_
        exact (show PlanO rows q la0 H (.tup [.agg [.own 1 bw 0 w.length, AV.i (potB rows q (zeroC rows) la0), .own 1 bk 0 K.length], AV.i 0]) HZ from .plan (by assumption) (by unfold potB; omega) hK hR (by omega) (by omega) (by omega) (by omega) qw qK od)

end Go.Proofs.Ytmkalakojfpfgaa
