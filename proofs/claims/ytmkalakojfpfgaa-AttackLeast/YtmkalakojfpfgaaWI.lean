/-
  Walks of chapter 46. The steps are written by program (walk.py).
-/
import Derived.Test.YtmkalakojfpfgaaWA
import Derived.Test.YtmkalakojfpfgaaWB
import Derived.Test.YtmkalakojfpfgaaWC
import Derived.Test.YtmkalakojfpfgaaWD
import Derived.Test.YtmkalakojfpfgaaQ7
import Derived.Test.YtmkalakojfpfgaaRC
set_option linter.unusedSimpArgs false
set_option linter.unusedVariables false
set_option maxHeartbeats 40000000
set_option maxRecDepth 4000
namespace Go.Proofs.Ytmkalakojfpfgaa
open Go Go.Am

theorem pbest_ok (lim : Nat) (H : Heap) (rows : Tb) (q la0 : Int) :
    ACall sig lim 16 [.agg [rowsAV rows, AV.i q, AV.i la0]] H fun r H' => PlanR rows q la0 r ∧ H' = H := by
  have hsx : True := trivial
  have hlx : True := trivial
  have q0 : True := trivial
  have qo : True := trivial
  have qk : True := trivial
  have qd : True := trivial
  have qs : True := trivial
  have qp : True := trivial
  refine ACall_pure (fa := fa16) rfl rfl rfl rfl ?_
  have tr : ∀ a0 : AV, env0 fa16.keep [a0] = [(0, a0), (1, .any), (2, .any), (3, .any), (4, .any), (5, .any), (6, .any), (7, .any), (8, .any), (9, .any), (10, .any), (11, .any), (12, .any), (13, .any), (14, .any), (21, .any), (27, .any), (28, .any), (29, .any), (36, .any), (37, .any), (38, .any), (66, .any), (70, .any), (71, .any), (72, .any), (82, .any), (83, .any), (84, .any), (90, .any), (114, .any)] := fun a0 => rfl
  refine W_to (tr _) ?_; clear tr
  refine at_seq rfl ?_
  refine rg rfl ?_
  refine A_box rfl (by simp (disch := first | omega | (simp only [List.length_map, List.length_append, List.length_set, List.length_cons, List.length_nil, List.length_take, List.length_drop]; omega)) only [go_sem, ↓reduceIte, Nat.reduceEqDiff, reduceCtorEq]; rfl) ?_
  intro H1 n1
  have en1 := n1.len
  have q0 := n1.new
  refine A_alloc rfl ?_
  intro H2 n2
  have en2 := n2.len
  have q0 := (n2.old _ (hget_lt q0)).trans q0
  have qo := n2.new
  refine Rq ?_
  have tr : ∀ y0 y1 y2 y3 y4 y5 y6 y7 y8 y9 y10 y11 y12 y13 y14 y21 y27 y28 y29 y36 y37 y38 y66 y70 y71 y72 y82 y83 y84 y90 y114 z0 z1 z2 : AV, trim [(3, z2), (2, z1), (1, z0), (0, y0), (1, y1), (2, y2), (3, y3), (4, y4), (5, y5), (6, y6), (7, y7), (8, y8), (9, y9), (10, y10), (11, y11), (12, y12), (13, y13), (14, y14), (21, y21), (27, y27), (28, y28), (29, y29), (36, y36), (37, y37), (38, y38), (66, y66), (70, y70), (71, y71), (72, y72), (82, y82), (83, y83), (84, y84), (90, y90), (114, y114)] [(0, y0), (1, y1), (2, y2), (3, y3), (4, y4), (5, y5), (6, y6), (7, y7), (8, y8), (9, y9), (10, y10), (11, y11), (12, y12), (13, y13), (14, y14), (21, y21), (27, y27), (28, y28), (29, y29), (36, y36), (37, y37), (38, y38), (66, y66), (70, y70), (71, y71), (72, y72), (82, y82), (83, y83), (84, y84), (90, y90), (114, y114)] = [(0, y0), (1, z0), (2, z1), (3, z2), (4, y4), (5, y5), (6, y6), (7, y7), (8, y8), (9, y9), (10, y10), (11, y11), (12, y12), (13, y13), (14, y14), (21, y21), (27, y27), (28, y28), (29, y29), (36, y36), (37, y37), (38, y38), (66, y66), (70, y70), (71, y71), (72, y72), (82, y82), (83, y83), (84, y84), (90, y90), (114, y114)] := fun y0 y1 y2 y3 y4 y5 y6 y7 y8 y9 y10 y11 y12 y13 y14 y21 y27 y28 y29 y36 y37 y38 y66 y70 y71 y72 y82 y83 y84 y90 y114 z0 z1 z2 => rfl
  refine R_nil (tr _ _ _ _ _ _ _ _ _ _ _ _ _ _ _ _ _ _ _ _ _ _ _ _ _ _ _ _ _ _ _ _ _ _) ?_; clear tr
  refine then_n ?_
  refine at_seq rfl ?_
  refine rg rfl ?_
  refine R_q rfl (by simp (disch := first | omega | (simp only [List.length_map, List.length_append, List.length_set, List.length_cons, List.length_nil, List.length_take, List.length_drop]; omega)) only [go_sem, ↓reduceIte, Nat.reduceEqDiff, reduceCtorEq, q0, qo, qk, qd, qs, qp, hsx, hlx]; rfl) ?_
  refine Rcall ?_
  refine ACall_eq (statesf_ok _ _ rows q la0) ?_
  rewrite [st_err]
  refine Rq ?_
  refine Rq ?_
  refine Rq ?_
  refine Rq ?_
  refine Rq ?_
  have tr : ∀ y0 y1 y2 y3 y4 y5 y6 y7 y8 y9 y10 y11 y12 y13 y14 y21 y27 y28 y29 y36 y37 y38 y66 y70 y71 y72 y82 y83 y84 y90 y114 z0 z1 z2 z3 z4 z5 z6 : AV, trim [(5, z6), (4, z5), (19, z4), (18, z3), (15, z2), (17, z1), (16, z0), (0, y0), (1, y1), (2, y2), (3, y3), (4, y4), (5, y5), (6, y6), (7, y7), (8, y8), (9, y9), (10, y10), (11, y11), (12, y12), (13, y13), (14, y14), (21, y21), (27, y27), (28, y28), (29, y29), (36, y36), (37, y37), (38, y38), (66, y66), (70, y70), (71, y71), (72, y72), (82, y82), (83, y83), (84, y84), (90, y90), (114, y114)] [(0, y0), (1, y1), (2, y2), (3, y3), (4, y4), (5, y5), (6, y6), (7, y7), (8, y8), (9, y9), (10, y10), (11, y11), (12, y12), (13, y13), (14, y14), (21, y21), (27, y27), (28, y28), (29, y29), (36, y36), (37, y37), (38, y38), (66, y66), (70, y70), (71, y71), (72, y72), (82, y82), (83, y83), (84, y84), (90, y90), (114, y114)] = [(0, y0), (1, y1), (2, y2), (3, y3), (4, z5), (5, z6), (6, y6), (7, y7), (8, y8), (9, y9), (10, y10), (11, y11), (12, y12), (13, y13), (14, y14), (21, y21), (27, y27), (28, y28), (29, y29), (36, y36), (37, y37), (38, y38), (66, y66), (70, y70), (71, y71), (72, y72), (82, y82), (83, y83), (84, y84), (90, y90), (114, y114)] := fun y0 y1 y2 y3 y4 y5 y6 y7 y8 y9 y10 y11 y12 y13 y14 y21 y27 y28 y29 y36 y37 y38 y66 y70 y71 y72 y82 y83 y84 y90 y114 z0 z1 z2 z3 z4 z5 z6 => rfl
  refine R_nil (tr _ _ _ _ _ _ _ _ _ _ _ _ _ _ _ _ _ _ _ _ _ _ _ _ _ _ _ _ _ _ _ _ _ _ _ _ _ _) ?_; clear tr
  refine then_n ?_
  refine at_seq rfl ?_
  refine at_seq rfl ?_
  refine rg rfl ?_
  refine Rq ?_
  refine Rq ?_
  have tr : ∀ y0 y1 y2 y3 y4 y5 y6 y7 y8 y9 y10 y11 y12 y13 y14 y21 y27 y28 y29 y36 y37 y38 y66 y70 y71 y72 y82 y83 y84 y90 y114 z0 z1 : AV, trim [(21, z1), (20, z0), (0, y0), (1, y1), (2, y2), (3, y3), (4, y4), (5, y5), (6, y6), (7, y7), (8, y8), (9, y9), (10, y10), (11, y11), (12, y12), (13, y13), (14, y14), (21, y21), (27, y27), (28, y28), (29, y29), (36, y36), (37, y37), (38, y38), (66, y66), (70, y70), (71, y71), (72, y72), (82, y82), (83, y83), (84, y84), (90, y90), (114, y114)] [(0, y0), (1, y1), (2, y2), (3, y3), (4, y4), (5, y5), (6, y6), (7, y7), (8, y8), (9, y9), (10, y10), (11, y11), (12, y12), (13, y13), (14, y14), (21, y21), (27, y27), (28, y28), (29, y29), (36, y36), (37, y37), (38, y38), (66, y66), (70, y70), (71, y71), (72, y72), (82, y82), (83, y83), (84, y84), (90, y90), (114, y114)] = [(0, y0), (1, y1), (2, y2), (3, y3), (4, y4), (5, y5), (6, y6), (7, y7), (8, y8), (9, y9), (10, y10), (11, y11), (12, y12), (13, y13), (14, y14), (21, z1), (27, y27), (28, y28), (29, y29), (36, y36), (37, y37), (38, y38), (66, y66), (70, y70), (71, y71), (72, y72), (82, y82), (83, y83), (84, y84), (90, y90), (114, y114)] := fun y0 y1 y2 y3 y4 y5 y6 y7 y8 y9 y10 y11 y12 y13 y14 y21 y27 y28 y29 y36 y37 y38 y66 y70 y71 y72 y82 y83 y84 y90 y114 z0 z1 => rfl
  refine R_nil (tr _ _ _ _ _ _ _ _ _ _ _ _ _ _ _ _ _ _ _ _ _ _ _ _ _ _ _ _ _ _ _ _ _) ?_; clear tr
  refine then_n ?_
  refine cdd (fun h1 => ?_) (fun h1 => ?_)
  · try simp only [decide_eq_true_eq, decide_eq_false_iff_not, Bool.not_eq_true', Bool.not_eq_false', beq_iff_eq, beq_eq_false_iff_ne, ne_eq] at h1
    refine at_seq rfl ?_
    refine rg rfl ?_
    refine Rq ?_
    refine Rq ?_
    have lq0 := hget_lt q0
    have lqo := hget_lt qo
    refine A_store ty37 (by simp (disch := first | omega | (simp only [List.length_map, List.length_append, List.length_set, List.length_cons, List.length_nil, List.length_take, List.length_drop]; omega)) only [go_sem, ↓reduceIte, Nat.reduceEqDiff, reduceCtorEq, q0, qo, hsx]; rfl) (by simp (disch := first | omega | (simp only [List.length_map, List.length_append, List.length_set, List.length_cons, List.length_nil, List.length_take, List.length_drop]; omega)) only [go_sem, ↓reduceIte, Nat.reduceEqDiff, reduceCtorEq, q0, qo, hsx]; rfl) qo ⟨by omega, rfl, by first | exact Nat.le_refl _ | simp⟩ (k' := [nilI, AV.i 0, nilI]) (rfl) ?_
    intro H3 w3
    have ew3 := w3.len
    have q0 := (w3.old _ (by omega)).trans q0
    have qo := w3.new
    refine Rq ?_
    have tr : ∀ y0 y1 y2 y3 y4 y5 y6 y7 y8 y9 y10 y11 y12 y13 y14 y21 y27 y28 y29 y36 y37 y38 y66 y70 y71 y72 y82 y83 y84 y90 y114 z0 z1 z2 : AV, trim [(3, z2), (23, z1), (22, z0), (0, y0), (1, y1), (2, y2), (3, y3), (4, y4), (5, y5), (6, y6), (7, y7), (8, y8), (9, y9), (10, y10), (11, y11), (12, y12), (13, y13), (14, y14), (21, y21), (27, y27), (28, y28), (29, y29), (36, y36), (37, y37), (38, y38), (66, y66), (70, y70), (71, y71), (72, y72), (82, y82), (83, y83), (84, y84), (90, y90), (114, y114)] [(0, y0), (1, y1), (2, y2), (3, y3), (4, y4), (5, y5), (6, y6), (7, y7), (8, y8), (9, y9), (10, y10), (11, y11), (12, y12), (13, y13), (14, y14), (21, y21), (27, y27), (28, y28), (29, y29), (36, y36), (37, y37), (38, y38), (66, y66), (70, y70), (71, y71), (72, y72), (82, y82), (83, y83), (84, y84), (90, y90), (114, y114)] = [(0, y0), (1, y1), (2, y2), (3, z2), (4, y4), (5, y5), (6, y6), (7, y7), (8, y8), (9, y9), (10, y10), (11, y11), (12, y12), (13, y13), (14, y14), (21, y21), (27, y27), (28, y28), (29, y29), (36, y36), (37, y37), (38, y38), (66, y66), (70, y70), (71, y71), (72, y72), (82, y82), (83, y83), (84, y84), (90, y90), (114, y114)] := fun y0 y1 y2 y3 y4 y5 y6 y7 y8 y9 y10 y11 y12 y13 y14 y21 y27 y28 y29 y36 y37 y38 y66 y70 y71 y72 y82 y83 y84 y90 y114 z0 z1 z2 => rfl
    refine R_nil (tr _ _ _ _ _ _ _ _ _ _ _ _ _ _ _ _ _ _ _ _ _ _ _ _ _ _ _ _ _ _ _ _ _ _) ?_; clear tr
    refine then_n ?_
    refine at_ret rfl ?_
    refine then_r ?_
    refine fin_pure (rs := [.cell 2 37, .tmp 3]) rfl (by simp only [go_sem, ↓reduceIte, Nat.reduceEqDiff, qo]; rfl) rfl ?_
    exact ⟨.bad (by assumption), rfl⟩
  · try simp only [decide_eq_true_eq, decide_eq_false_iff_not, Bool.not_eq_true', Bool.not_eq_false', beq_iff_eq, beq_eq_false_iff_ne, ne_eq] at h1
    refine at_skip rfl ?_
    refine then_n ?_
    refine at_seq rfl ?_
    refine rg rfl ?_
    have g : Good rows q la0 := good_of (by assumption : checkS rows q la0 = 0)
    obtain ⟨g1, g2, g3, g4, g5, g6, g7, g8, g9, g10, g11⟩ := id g
    have hq0 : 0 ≤ q := by omega
    have hz := zero_st g
    have hzi := zero_idx rows q la0
    have hzr := idx_rng hq0 hz
    have hzp := pot_rng g (zeroC rows) (by rw [sum_zero]; exact Int.le_refl _) la0
    have hnb := num_bd g
    have hnum := num_eq g
    have hnp : 0 < stN rows q := stV_pos hq0 _ _ (by omega)
    have hs1 := st_num (by assumption : checkS rows q la0 = 0)
    rewrite [hs1]
    refine Rq ?_
    refine A_makeSlice (ms35 _ _ (stN rows q) _ _ _ (by omega) (by omega) (by simp (disch := first | omega | (simp only [List.length_map, List.length_append, List.length_set, List.length_cons, List.length_nil, List.length_take, List.length_drop]; omega)) only [go_sem, ↓reduceIte, Nat.reduceEqDiff, reduceCtorEq, q0]) (by simp (disch := first | omega | (simp only [List.length_map, List.length_append, List.length_set, List.length_cons, List.length_nil, List.length_take, List.length_drop]; omega)) only [go_sem, ↓reduceIte, Nat.reduceEqDiff, reduceCtorEq, q0])) ?_
    intro H4 n4
    have en4 := n4.len
    have q0 := (n4.old _ (hget_lt q0)).trans q0
    have qo := (n4.old _ (hget_lt qo)).trans qo
    have qk := n4.new
    refine Rq ?_
    have tr : ∀ y0 y1 y2 y3 y4 y5 y6 y7 y8 y9 y10 y11 y12 y13 y14 y21 y27 y28 y29 y36 y37 y38 y66 y70 y71 y72 y82 y83 y84 y90 y114 z0 z1 z2 : AV, trim [(6, z2), (25, z1), (24, z0), (0, y0), (1, y1), (2, y2), (3, y3), (4, y4), (5, y5), (6, y6), (7, y7), (8, y8), (9, y9), (10, y10), (11, y11), (12, y12), (13, y13), (14, y14), (21, y21), (27, y27), (28, y28), (29, y29), (36, y36), (37, y37), (38, y38), (66, y66), (70, y70), (71, y71), (72, y72), (82, y82), (83, y83), (84, y84), (90, y90), (114, y114)] [(0, y0), (1, y1), (2, y2), (3, y3), (4, y4), (5, y5), (6, y6), (7, y7), (8, y8), (9, y9), (10, y10), (11, y11), (12, y12), (13, y13), (14, y14), (21, y21), (27, y27), (28, y28), (29, y29), (36, y36), (37, y37), (38, y38), (66, y66), (70, y70), (71, y71), (72, y72), (82, y82), (83, y83), (84, y84), (90, y90), (114, y114)] = [(0, y0), (1, y1), (2, y2), (3, y3), (4, y4), (5, y5), (6, z2), (7, y7), (8, y8), (9, y9), (10, y10), (11, y11), (12, y12), (13, y13), (14, y14), (21, y21), (27, y27), (28, y28), (29, y29), (36, y36), (37, y37), (38, y38), (66, y66), (70, y70), (71, y71), (72, y72), (82, y82), (83, y83), (84, y84), (90, y90), (114, y114)] := fun y0 y1 y2 y3 y4 y5 y6 y7 y8 y9 y10 y11 y12 y13 y14 y21 y27 y28 y29 y36 y37 y38 y66 y70 y71 y72 y82 y83 y84 y90 y114 z0 z1 z2 => rfl
    refine R_nil (tr _ _ _ _ _ _ _ _ _ _ _ _ _ _ _ _ _ _ _ _ _ _ _ _ _ _ _ _ _ _ _ _ _ _) ?_; clear tr
    refine then_n ?_
    refine at_seq rfl ?_
    refine at_seq rfl ?_
    refine rg rfl ?_
    refine Rq ?_
    refine Rq ?_
    refine Rq ?_
    have tr : ∀ y0 y1 y2 y3 y4 y5 y6 y7 y8 y9 y10 y11 y12 y13 y14 y21 y27 y28 y29 y36 y37 y38 y66 y70 y71 y72 y82 y83 y84 y90 y114 z0 z1 z2 : AV, trim [(28, z2), (27, z1), (26, z0), (0, y0), (1, y1), (2, y2), (3, y3), (4, y4), (5, y5), (6, y6), (7, y7), (8, y8), (9, y9), (10, y10), (11, y11), (12, y12), (13, y13), (14, y14), (21, y21), (27, y27), (28, y28), (29, y29), (36, y36), (37, y37), (38, y38), (66, y66), (70, y70), (71, y71), (72, y72), (82, y82), (83, y83), (84, y84), (90, y90), (114, y114)] [(0, y0), (1, y1), (2, y2), (3, y3), (4, y4), (5, y5), (6, y6), (7, y7), (8, y8), (9, y9), (10, y10), (11, y11), (12, y12), (13, y13), (14, y14), (21, y21), (27, y27), (28, y28), (29, y29), (36, y36), (37, y37), (38, y38), (66, y66), (70, y70), (71, y71), (72, y72), (82, y82), (83, y83), (84, y84), (90, y90), (114, y114)] = [(0, y0), (1, y1), (2, y2), (3, y3), (4, y4), (5, y5), (6, y6), (7, y7), (8, y8), (9, y9), (10, y10), (11, y11), (12, y12), (13, y13), (14, y14), (21, y21), (27, z1), (28, z2), (29, y29), (36, y36), (37, y37), (38, y38), (66, y66), (70, y70), (71, y71), (72, y72), (82, y82), (83, y83), (84, y84), (90, y90), (114, y114)] := fun y0 y1 y2 y3 y4 y5 y6 y7 y8 y9 y10 y11 y12 y13 y14 y21 y27 y28 y29 y36 y37 y38 y66 y70 y71 y72 y82 y83 y84 y90 y114 z0 z1 z2 => rfl
    refine R_nil (tr _ _ _ _ _ _ _ _ _ _ _ _ _ _ _ _ _ _ _ _ _ _ _ _ _ _ _ _ _ _ _ _ _ _) ?_; clear tr
    refine then_n ?_
    refine at_block rfl ?_
    refine loop_n rfl (fun mm kv H' => ∃ u : Nat, ∃ K : List Int, ∃ x7 x29 : AV, (kv = [(7, x7), (28, AV.i u), (29, x29)]) ∧ (mm = (stN rows q).toNat - u) ∧ (hget H' H.length = some [rowsAV rows, AV.i q, AV.i la0]) ∧ (hget H' H1.length = some [nilI, AV.i 0, nilI]) ∧ (hget H' H2.length = some (K.map AV.i)) ∧ ((K.length : Int) = stN rows q) ∧ (u ≤ K.length) ∧ (∀ i, i < u → gt K i = -2)) ⟨0, (List.replicate (stN rows q).toNat 0), _, _, rfl, rfl, by exact q0, by exact qo, by exact qk, by (simp only [List.length_replicate]; omega), by exact Nat.zero_le _, by intro i hi; omega⟩ (by rfl) ?_
    rintro mm kv HJ ⟨u, K, x7, x29, rfl, rfl, q0, qo, qk, hKl, hu, hall⟩
    have tr : ∀ y0 y1 y2 y3 y4 y5 y6 y7 y8 y9 y10 y11 y12 y13 y14 y21 y27 y28 y29 y36 y37 y38 y66 y70 y71 y72 y82 y83 y84 y90 y114 z7 z28 z29 : AV, upd [(0, y0), (1, y1), (2, y2), (3, y3), (4, y4), (5, y5), (6, y6), (7, y7), (8, y8), (9, y9), (10, y10), (11, y11), (12, y12), (13, y13), (14, y14), (21, y21), (27, y27), (28, y28), (29, y29), (36, y36), (37, y37), (38, y38), (66, y66), (70, y70), (71, y71), (72, y72), (82, y82), (83, y83), (84, y84), (90, y90), (114, y114)] [(7, z7), (28, z28), (29, z29)] = [(0, y0), (1, y1), (2, y2), (3, y3), (4, y4), (5, y5), (6, y6), (7, z7), (8, y8), (9, y9), (10, y10), (11, y11), (12, y12), (13, y13), (14, y14), (21, y21), (27, y27), (28, z28), (29, z29), (36, y36), (37, y37), (38, y38), (66, y66), (70, y70), (71, y71), (72, y72), (82, y82), (83, y83), (84, y84), (90, y90), (114, y114)] := fun y0 y1 y2 y3 y4 y5 y6 y7 y8 y9 y10 y11 y12 y13 y14 y21 y27 y28 y29 y36 y37 y38 y66 y70 y71 y72 y82 y83 y84 y90 y114 z7 z28 z29 => rfl
    refine W_to (tr _ _ _ _ _ _ _ _ _ _ _ _ _ _ _ _ _ _ _ _ _ _ _ _ _ _ _ _ _ _ _ _ _ _) ?_; clear tr
    have lqk := hget_lt qk
    refine at_seq rfl ?_
    refine rg rfl ?_
    refine Rq ?_
    have tr : ∀ y0 y1 y2 y3 y4 y5 y6 y7 y8 y9 y10 y11 y12 y13 y14 y21 y27 y28 y29 y36 y37 y38 y66 y70 y71 y72 y82 y83 y84 y90 y114 z0 : AV, trim [(29, z0), (0, y0), (1, y1), (2, y2), (3, y3), (4, y4), (5, y5), (6, y6), (7, y7), (8, y8), (9, y9), (10, y10), (11, y11), (12, y12), (13, y13), (14, y14), (21, y21), (27, y27), (28, y28), (29, y29), (36, y36), (37, y37), (38, y38), (66, y66), (70, y70), (71, y71), (72, y72), (82, y82), (83, y83), (84, y84), (90, y90), (114, y114)] [(0, y0), (1, y1), (2, y2), (3, y3), (4, y4), (5, y5), (6, y6), (7, y7), (8, y8), (9, y9), (10, y10), (11, y11), (12, y12), (13, y13), (14, y14), (21, y21), (27, y27), (28, y28), (29, y29), (36, y36), (37, y37), (38, y38), (66, y66), (70, y70), (71, y71), (72, y72), (82, y82), (83, y83), (84, y84), (90, y90), (114, y114)] = [(0, y0), (1, y1), (2, y2), (3, y3), (4, y4), (5, y5), (6, y6), (7, y7), (8, y8), (9, y9), (10, y10), (11, y11), (12, y12), (13, y13), (14, y14), (21, y21), (27, y27), (28, y28), (29, z0), (36, y36), (37, y37), (38, y38), (66, y66), (70, y70), (71, y71), (72, y72), (82, y82), (83, y83), (84, y84), (90, y90), (114, y114)] := fun y0 y1 y2 y3 y4 y5 y6 y7 y8 y9 y10 y11 y12 y13 y14 y21 y27 y28 y29 y36 y37 y38 y66 y70 y71 y72 y82 y83 y84 y90 y114 z0 => rfl
    refine R_nil (tr _ _ _ _ _ _ _ _ _ _ _ _ _ _ _ _ _ _ _ _ _ _ _ _ _ _ _ _ _ _ _ _) ?_; clear tr
    refine then_n ?_
    refine at_seq rfl ?_
    refine cdd (fun h2 => ?_) (fun h2 => ?_)
    · try simp only [decide_eq_true_eq, decide_eq_false_iff_not, Bool.not_eq_true', Bool.not_eq_false', beq_iff_eq, beq_eq_false_iff_ne, ne_eq] at h2
      refine at_skip rfl ?_
      refine then_n ?_
      refine at_seq rfl ?_
      refine at_block rfl ?_
      refine at_seq rfl ?_
      refine rg rfl ?_
      refine Rq ?_
      refine Rq ?_
      have tr : ∀ y0 y1 y2 y3 y4 y5 y6 y7 y8 y9 y10 y11 y12 y13 y14 y21 y27 y28 y29 y36 y37 y38 y66 y70 y71 y72 y82 y83 y84 y90 y114 z0 z1 : AV, trim [(7, z1), (30, z0), (0, y0), (1, y1), (2, y2), (3, y3), (4, y4), (5, y5), (6, y6), (7, y7), (8, y8), (9, y9), (10, y10), (11, y11), (12, y12), (13, y13), (14, y14), (21, y21), (27, y27), (28, y28), (29, y29), (36, y36), (37, y37), (38, y38), (66, y66), (70, y70), (71, y71), (72, y72), (82, y82), (83, y83), (84, y84), (90, y90), (114, y114)] [(0, y0), (1, y1), (2, y2), (3, y3), (4, y4), (5, y5), (6, y6), (7, y7), (8, y8), (9, y9), (10, y10), (11, y11), (12, y12), (13, y13), (14, y14), (21, y21), (27, y27), (28, y28), (29, y29), (36, y36), (37, y37), (38, y38), (66, y66), (70, y70), (71, y71), (72, y72), (82, y82), (83, y83), (84, y84), (90, y90), (114, y114)] = [(0, y0), (1, y1), (2, y2), (3, y3), (4, y4), (5, y5), (6, y6), (7, z1), (8, y8), (9, y9), (10, y10), (11, y11), (12, y12), (13, y13), (14, y14), (21, y21), (27, y27), (28, y28), (29, y29), (36, y36), (37, y37), (38, y38), (66, y66), (70, y70), (71, y71), (72, y72), (82, y82), (83, y83), (84, y84), (90, y90), (114, y114)] := fun y0 y1 y2 y3 y4 y5 y6 y7 y8 y9 y10 y11 y12 y13 y14 y21 y27 y28 y29 y36 y37 y38 y66 y70 y71 y72 y82 y83 y84 y90 y114 z0 z1 => rfl
      refine R_nil (tr _ _ _ _ _ _ _ _ _ _ _ _ _ _ _ _ _ _ _ _ _ _ _ _ _ _ _ _ _ _ _ _ _) ?_; clear tr
      refine then_n ?_
      refine rg rfl ?_
      refine Rq ?_
      refine Rq ?_
      refine Rq ?_
      have lq0 := hget_lt q0
      have lqo := hget_lt qo
      have lqk := hget_lt qk
      refine A_store ty2 (by simp (disch := first | omega | (simp only [List.length_map, List.length_append, List.length_set, List.length_cons, List.length_nil, List.length_take, List.length_drop]; omega)) only [go_sem, ↓reduceIte, Nat.reduceEqDiff, reduceCtorEq, q0, qo, qk] <;> rfl) (by simp (disch := first | omega | (simp only [List.length_map, List.length_append, List.length_set, List.length_cons, List.length_nil, List.length_take, List.length_drop]; omega)) only [go_sem, ↓reduceIte, Nat.reduceEqDiff, reduceCtorEq, q0, qo, qk] <;> rfl) qk ⟨by omega, rfl, by simp only [List.length_map]; omega⟩ (k' := ((K.set u (-2)).map AV.i)) (setL_map _ _ _) ?_
      intro HN wn
      have ewn := wn.len
      have q0 := (wn.old _ (by omega)).trans q0
      have qo := (wn.old _ (by omega)).trans qo
      have qk := wn.new
      have tr : ∀ y0 y1 y2 y3 y4 y5 y6 y7 y8 y9 y10 y11 y12 y13 y14 y21 y27 y28 y29 y36 y37 y38 y66 y70 y71 y72 y82 y83 y84 y90 y114 z0 z1 z2 : AV, trim [(33, z2), (32, z1), (31, z0), (0, y0), (1, y1), (2, y2), (3, y3), (4, y4), (5, y5), (6, y6), (7, y7), (8, y8), (9, y9), (10, y10), (11, y11), (12, y12), (13, y13), (14, y14), (21, y21), (27, y27), (28, y28), (29, y29), (36, y36), (37, y37), (38, y38), (66, y66), (70, y70), (71, y71), (72, y72), (82, y82), (83, y83), (84, y84), (90, y90), (114, y114)] [(0, y0), (1, y1), (2, y2), (3, y3), (4, y4), (5, y5), (6, y6), (7, y7), (8, y8), (9, y9), (10, y10), (11, y11), (12, y12), (13, y13), (14, y14), (21, y21), (27, y27), (28, y28), (29, y29), (36, y36), (37, y37), (38, y38), (66, y66), (70, y70), (71, y71), (72, y72), (82, y82), (83, y83), (84, y84), (90, y90), (114, y114)] = [(0, y0), (1, y1), (2, y2), (3, y3), (4, y4), (5, y5), (6, y6), (7, y7), (8, y8), (9, y9), (10, y10), (11, y11), (12, y12), (13, y13), (14, y14), (21, y21), (27, y27), (28, y28), (29, y29), (36, y36), (37, y37), (38, y38), (66, y66), (70, y70), (71, y71), (72, y72), (82, y82), (83, y83), (84, y84), (90, y90), (114, y114)] := fun y0 y1 y2 y3 y4 y5 y6 y7 y8 y9 y10 y11 y12 y13 y14 y21 y27 y28 y29 y36 y37 y38 y66 y70 y71 y72 y82 y83 y84 y90 y114 z0 z1 z2 => rfl
      refine R_nil (tr _ _ _ _ _ _ _ _ _ _ _ _ _ _ _ _ _ _ _ _ _ _ _ _ _ _ _ _ _ _ _ _ _ _) ?_; clear tr
      refine blk_n ?_
      refine then_n ?_
      refine rg rfl ?_
      refine Rq ?_
      refine Rq ?_
      have tr : ∀ y0 y1 y2 y3 y4 y5 y6 y7 y8 y9 y10 y11 y12 y13 y14 y21 y27 y28 y29 y36 y37 y38 y66 y70 y71 y72 y82 y83 y84 y90 y114 z0 z1 : AV, trim [(28, z1), (34, z0), (0, y0), (1, y1), (2, y2), (3, y3), (4, y4), (5, y5), (6, y6), (7, y7), (8, y8), (9, y9), (10, y10), (11, y11), (12, y12), (13, y13), (14, y14), (21, y21), (27, y27), (28, y28), (29, y29), (36, y36), (37, y37), (38, y38), (66, y66), (70, y70), (71, y71), (72, y72), (82, y82), (83, y83), (84, y84), (90, y90), (114, y114)] [(0, y0), (1, y1), (2, y2), (3, y3), (4, y4), (5, y5), (6, y6), (7, y7), (8, y8), (9, y9), (10, y10), (11, y11), (12, y12), (13, y13), (14, y14), (21, y21), (27, y27), (28, y28), (29, y29), (36, y36), (37, y37), (38, y38), (66, y66), (70, y70), (71, y71), (72, y72), (82, y82), (83, y83), (84, y84), (90, y90), (114, y114)] = [(0, y0), (1, y1), (2, y2), (3, y3), (4, y4), (5, y5), (6, y6), (7, y7), (8, y8), (9, y9), (10, y10), (11, y11), (12, y12), (13, y13), (14, y14), (21, y21), (27, y27), (28, z1), (29, y29), (36, y36), (37, y37), (38, y38), (66, y66), (70, y70), (71, y71), (72, y72), (82, y82), (83, y83), (84, y84), (90, y90), (114, y114)] := fun y0 y1 y2 y3 y4 y5 y6 y7 y8 y9 y10 y11 y12 y13 y14 y21 y27 y28 y29 y36 y37 y38 y66 y70 y71 y72 y82 y83 y84 y90 y114 z0 z1 => rfl
      refine R_nil (tr _ _ _ _ _ _ _ _ _ _ _ _ _ _ _ _ _ _ _ _ _ _ _ _ _ _ _ _ _ _ _ _ _) ?_; clear tr
      refine then_n ?_
      exact ⟨_, _, ⟨u + 1, (K.set u (-2)), _, _, rfl, rfl, by exact q0, by exact qo, by exact qk, by rw [List.length_set]; exact hKl, by rw [List.length_set]; omega, by exact set_all (by omega) hall⟩, by rfl, by omega⟩
    · try simp only [decide_eq_true_eq, decide_eq_false_iff_not, Bool.not_eq_true', Bool.not_eq_false', beq_iff_eq, beq_eq_false_iff_ne, ne_eq] at h2
      refine at_exit rfl ?_
      refine then_x ?_
      refine then_x ?_
      refine blk_x ?_
      refine then_n ?_
      refine at_seq rfl ?_
      refine at_seq rfl ?_
      refine rg rfl ?_
      refine Rq ?_
      refine Rq ?_
      refine Rq ?_
      have tr : ∀ y0 y1 y2 y3 y4 y5 y6 y7 y8 y9 y10 y11 y12 y13 y14 y21 y27 y28 y29 y36 y37 y38 y66 y70 y71 y72 y82 y83 y84 y90 y114 z0 z1 z2 : AV, trim [(37, z2), (36, z1), (35, z0), (0, y0), (1, y1), (2, y2), (3, y3), (4, y4), (5, y5), (6, y6), (7, y7), (8, y8), (9, y9), (10, y10), (11, y11), (12, y12), (13, y13), (14, y14), (21, y21), (27, y27), (28, y28), (29, y29), (36, y36), (37, y37), (38, y38), (66, y66), (70, y70), (71, y71), (72, y72), (82, y82), (83, y83), (84, y84), (90, y90), (114, y114)] [(0, y0), (1, y1), (2, y2), (3, y3), (4, y4), (5, y5), (6, y6), (7, y7), (8, y8), (9, y9), (10, y10), (11, y11), (12, y12), (13, y13), (14, y14), (21, y21), (27, y27), (28, y28), (29, y29), (36, y36), (37, y37), (38, y38), (66, y66), (70, y70), (71, y71), (72, y72), (82, y82), (83, y83), (84, y84), (90, y90), (114, y114)] = [(0, y0), (1, y1), (2, y2), (3, y3), (4, y4), (5, y5), (6, y6), (7, y7), (8, y8), (9, y9), (10, y10), (11, y11), (12, y12), (13, y13), (14, y14), (21, y21), (27, y27), (28, y28), (29, y29), (36, z1), (37, z2), (38, y38), (66, y66), (70, y70), (71, y71), (72, y72), (82, y82), (83, y83), (84, y84), (90, y90), (114, y114)] := fun y0 y1 y2 y3 y4 y5 y6 y7 y8 y9 y10 y11 y12 y13 y14 y21 y27 y28 y29 y36 y37 y38 y66 y70 y71 y72 y82 y83 y84 y90 y114 z0 z1 z2 => rfl
      refine R_nil (tr _ _ _ _ _ _ _ _ _ _ _ _ _ _ _ _ _ _ _ _ _ _ _ _ _ _ _ _ _ _ _ _ _ _) ?_; clear tr
      refine then_n ?_
      refine at_block rfl ?_
      refine loop_n rfl (fun mm kv H' => ∃ u : Nat, ∃ K : List Int, ∃ x8 x38 : AV, (kv = [(8, x8), (37, AV.i u), (38, x38)]) ∧ (mm = (stN rows q).toNat - u) ∧ (hget H' H.length = some [rowsAV rows, AV.i q, AV.i la0]) ∧ (hget H' H1.length = some [nilI, AV.i 0, nilI]) ∧ (hget H' H2.length = some (K.map AV.i)) ∧ (TabOK rows q (gt rows 0).length K) ∧ (u ≤ K.length) ∧ (∀ i, i < u → gt K i ≠ -2)) ⟨0, K, _, _, rfl, rfl, by exact q0, by exact qo, by exact qk, by exact tab_new (by omega) (fun i hi => hall i (by omega)), by exact Nat.zero_le _, by intro i hi; omega⟩ (by rfl) ?_
      rintro mm kv HL ⟨u, K, x8, x38, rfl, rfl, q0, qo, qk, tab, hu, hfu⟩
      have tr : ∀ y0 y1 y2 y3 y4 y5 y6 y7 y8 y9 y10 y11 y12 y13 y14 y21 y27 y28 y29 y36 y37 y38 y66 y70 y71 y72 y82 y83 y84 y90 y114 z8 z37 z38 : AV, upd [(0, y0), (1, y1), (2, y2), (3, y3), (4, y4), (5, y5), (6, y6), (7, y7), (8, y8), (9, y9), (10, y10), (11, y11), (12, y12), (13, y13), (14, y14), (21, y21), (27, y27), (28, y28), (29, y29), (36, y36), (37, y37), (38, y38), (66, y66), (70, y70), (71, y71), (72, y72), (82, y82), (83, y83), (84, y84), (90, y90), (114, y114)] [(8, z8), (37, z37), (38, z38)] = [(0, y0), (1, y1), (2, y2), (3, y3), (4, y4), (5, y5), (6, y6), (7, y7), (8, z8), (9, y9), (10, y10), (11, y11), (12, y12), (13, y13), (14, y14), (21, y21), (27, y27), (28, y28), (29, y29), (36, y36), (37, z37), (38, z38), (66, y66), (70, y70), (71, y71), (72, y72), (82, y82), (83, y83), (84, y84), (90, y90), (114, y114)] := fun y0 y1 y2 y3 y4 y5 y6 y7 y8 y9 y10 y11 y12 y13 y14 y21 y27 y28 y29 y36 y37 y38 y66 y70 y71 y72 y82 y83 y84 y90 y114 z8 z37 z38 => rfl
      refine W_to (tr _ _ _ _ _ _ _ _ _ _ _ _ _ _ _ _ _ _ _ _ _ _ _ _ _ _ _ _ _ _ _ _ _ _) ?_; clear tr
      have lqk := hget_lt qk
      have htl := tab.len
      refine at_seq rfl ?_
      refine rg rfl ?_
      refine Rq ?_
      have tr : ∀ y0 y1 y2 y3 y4 y5 y6 y7 y8 y9 y10 y11 y12 y13 y14 y21 y27 y28 y29 y36 y37 y38 y66 y70 y71 y72 y82 y83 y84 y90 y114 z0 : AV, trim [(38, z0), (0, y0), (1, y1), (2, y2), (3, y3), (4, y4), (5, y5), (6, y6), (7, y7), (8, y8), (9, y9), (10, y10), (11, y11), (12, y12), (13, y13), (14, y14), (21, y21), (27, y27), (28, y28), (29, y29), (36, y36), (37, y37), (38, y38), (66, y66), (70, y70), (71, y71), (72, y72), (82, y82), (83, y83), (84, y84), (90, y90), (114, y114)] [(0, y0), (1, y1), (2, y2), (3, y3), (4, y4), (5, y5), (6, y6), (7, y7), (8, y8), (9, y9), (10, y10), (11, y11), (12, y12), (13, y13), (14, y14), (21, y21), (27, y27), (28, y28), (29, y29), (36, y36), (37, y37), (38, y38), (66, y66), (70, y70), (71, y71), (72, y72), (82, y82), (83, y83), (84, y84), (90, y90), (114, y114)] = [(0, y0), (1, y1), (2, y2), (3, y3), (4, y4), (5, y5), (6, y6), (7, y7), (8, y8), (9, y9), (10, y10), (11, y11), (12, y12), (13, y13), (14, y14), (21, y21), (27, y27), (28, y28), (29, y29), (36, y36), (37, y37), (38, z0), (66, y66), (70, y70), (71, y71), (72, y72), (82, y82), (83, y83), (84, y84), (90, y90), (114, y114)] := fun y0 y1 y2 y3 y4 y5 y6 y7 y8 y9 y10 y11 y12 y13 y14 y21 y27 y28 y29 y36 y37 y38 y66 y70 y71 y72 y82 y83 y84 y90 y114 z0 => rfl
      refine R_nil (tr _ _ _ _ _ _ _ _ _ _ _ _ _ _ _ _ _ _ _ _ _ _ _ _ _ _ _ _ _ _ _ _) ?_; clear tr
      refine then_n ?_
      refine at_seq rfl ?_
      refine cdd (fun h3 => ?_) (fun h3 => ?_)
      · try simp only [decide_eq_true_eq, decide_eq_false_iff_not, Bool.not_eq_true', Bool.not_eq_false', beq_iff_eq, beq_eq_false_iff_ne, ne_eq] at h3
        refine at_skip rfl ?_
        refine then_n ?_
        refine at_seq rfl ?_
        refine at_block rfl ?_
        refine at_seq rfl ?_
        refine rg rfl ?_
        refine Rq ?_
        refine Rq ?_
        have tr : ∀ y0 y1 y2 y3 y4 y5 y6 y7 y8 y9 y10 y11 y12 y13 y14 y21 y27 y28 y29 y36 y37 y38 y66 y70 y71 y72 y82 y83 y84 y90 y114 z0 z1 : AV, trim [(8, z1), (39, z0), (0, y0), (1, y1), (2, y2), (3, y3), (4, y4), (5, y5), (6, y6), (7, y7), (8, y8), (9, y9), (10, y10), (11, y11), (12, y12), (13, y13), (14, y14), (21, y21), (27, y27), (28, y28), (29, y29), (36, y36), (37, y37), (38, y38), (66, y66), (70, y70), (71, y71), (72, y72), (82, y82), (83, y83), (84, y84), (90, y90), (114, y114)] [(0, y0), (1, y1), (2, y2), (3, y3), (4, y4), (5, y5), (6, y6), (7, y7), (8, y8), (9, y9), (10, y10), (11, y11), (12, y12), (13, y13), (14, y14), (21, y21), (27, y27), (28, y28), (29, y29), (36, y36), (37, y37), (38, y38), (66, y66), (70, y70), (71, y71), (72, y72), (82, y82), (83, y83), (84, y84), (90, y90), (114, y114)] = [(0, y0), (1, y1), (2, y2), (3, y3), (4, y4), (5, y5), (6, y6), (7, y7), (8, z1), (9, y9), (10, y10), (11, y11), (12, y12), (13, y13), (14, y14), (21, y21), (27, y27), (28, y28), (29, y29), (36, y36), (37, y37), (38, y38), (66, y66), (70, y70), (71, y71), (72, y72), (82, y82), (83, y83), (84, y84), (90, y90), (114, y114)] := fun y0 y1 y2 y3 y4 y5 y6 y7 y8 y9 y10 y11 y12 y13 y14 y21 y27 y28 y29 y36 y37 y38 y66 y70 y71 y72 y82 y83 y84 y90 y114 z0 z1 => rfl
        refine R_nil (tr _ _ _ _ _ _ _ _ _ _ _ _ _ _ _ _ _ _ _ _ _ _ _ _ _ _ _ _ _ _ _ _ _) ?_; clear tr
        refine then_n ?_
        refine rl rfl rfl ?_
        refine L_q rfl (by simp (disch := first | omega | (simp only [List.length_map, List.length_append, List.length_set, List.length_cons, List.length_nil, List.length_take, List.length_drop]; omega)) only [go_sem, ↓reduceIte, Nat.reduceEqDiff, reduceCtorEq, q0, qo, qk, qd, qs, qp, hsx, hlx]; rfl) rfl ?_
        refine L_q rfl (by simp (disch := first | omega | (simp only [List.length_map, List.length_append, List.length_set, List.length_cons, List.length_nil, List.length_take, List.length_drop]; omega)) only [go_sem, ↓reduceIte, Nat.reduceEqDiff, reduceCtorEq, q0, qo, qk, qd, qs, qp, hsx, hlx]; rfl) rfl ?_
        refine Lq ?_
        refine Lq ?_
        refine L_nil ?_
        refine Ms ?_
        refine Rcall ?_
        refine ACall_eq (decoded_ok _ _ rows q la0 g u (by omega) (by omega)) ?_
        refine R_end ?_
        refine M_nil ?_
        refine Rcall ?_
        have lqk := hget_lt qk
        have sk := dec_st (q := q) (b := (gt rows 0).length) (k := (u : Int)) hq0 (by omega)
        have hik := idx_dec (q := q) (b := (gt rows 0).length) (k := (u : Int)) hq0 (by omega) (by omega)
        refine ACall_mono (solve_ok rows q la0 g _ _ _ H2.length _ K (decc q (gt rows 0).length u) (decl (gt rows 0).length u) sk (by omega) qk tab (by omega) rfl) ?_
        rintro r HC ⟨rfl, K2, tu, hg2⟩
        have q0 := (tu.old _ (hget_lt q0) (by omega)).trans q0
        have qo := (tu.old _ (hget_lt qo) (by omega)).trans qo
        have qk := tu.mem
        rw [hik, Int.toNat_natCast] at hg2
        have tr : ∀ y0 y1 y2 y3 y4 y5 y6 y7 y8 y9 y10 y11 y12 y13 y14 y21 y27 y28 y29 y36 y37 y38 y66 y70 y71 y72 y82 y83 y84 y90 y114 z0 z1 z2 z3 z4 z5 : AV, trim [(45, z5), (43, z4), (44, z3), (42, z2), (41, z1), (40, z0), (0, y0), (1, y1), (2, y2), (3, y3), (4, y4), (5, y5), (6, y6), (7, y7), (8, y8), (9, y9), (10, y10), (11, y11), (12, y12), (13, y13), (14, y14), (21, y21), (27, y27), (28, y28), (29, y29), (36, y36), (37, y37), (38, y38), (66, y66), (70, y70), (71, y71), (72, y72), (82, y82), (83, y83), (84, y84), (90, y90), (114, y114)] [(0, y0), (1, y1), (2, y2), (3, y3), (4, y4), (5, y5), (6, y6), (7, y7), (8, y8), (9, y9), (10, y10), (11, y11), (12, y12), (13, y13), (14, y14), (21, y21), (27, y27), (28, y28), (29, y29), (36, y36), (37, y37), (38, y38), (66, y66), (70, y70), (71, y71), (72, y72), (82, y82), (83, y83), (84, y84), (90, y90), (114, y114)] = [(0, y0), (1, y1), (2, y2), (3, y3), (4, y4), (5, y5), (6, y6), (7, y7), (8, y8), (9, y9), (10, y10), (11, y11), (12, y12), (13, y13), (14, y14), (21, y21), (27, y27), (28, y28), (29, y29), (36, y36), (37, y37), (38, y38), (66, y66), (70, y70), (71, y71), (72, y72), (82, y82), (83, y83), (84, y84), (90, y90), (114, y114)] := fun y0 y1 y2 y3 y4 y5 y6 y7 y8 y9 y10 y11 y12 y13 y14 y21 y27 y28 y29 y36 y37 y38 y66 y70 y71 y72 y82 y83 y84 y90 y114 z0 z1 z2 z3 z4 z5 => rfl
        refine R_nil (tr _ _ _ _ _ _ _ _ _ _ _ _ _ _ _ _ _ _ _ _ _ _ _ _ _ _ _ _ _ _ _ _ _ _ _ _ _) ?_; clear tr
        refine blk_n ?_
        refine then_n ?_
        refine rg rfl ?_
        refine Rq ?_
        refine Rq ?_
        have tr : ∀ y0 y1 y2 y3 y4 y5 y6 y7 y8 y9 y10 y11 y12 y13 y14 y21 y27 y28 y29 y36 y37 y38 y66 y70 y71 y72 y82 y83 y84 y90 y114 z0 z1 : AV, trim [(37, z1), (46, z0), (0, y0), (1, y1), (2, y2), (3, y3), (4, y4), (5, y5), (6, y6), (7, y7), (8, y8), (9, y9), (10, y10), (11, y11), (12, y12), (13, y13), (14, y14), (21, y21), (27, y27), (28, y28), (29, y29), (36, y36), (37, y37), (38, y38), (66, y66), (70, y70), (71, y71), (72, y72), (82, y82), (83, y83), (84, y84), (90, y90), (114, y114)] [(0, y0), (1, y1), (2, y2), (3, y3), (4, y4), (5, y5), (6, y6), (7, y7), (8, y8), (9, y9), (10, y10), (11, y11), (12, y12), (13, y13), (14, y14), (21, y21), (27, y27), (28, y28), (29, y29), (36, y36), (37, y37), (38, y38), (66, y66), (70, y70), (71, y71), (72, y72), (82, y82), (83, y83), (84, y84), (90, y90), (114, y114)] = [(0, y0), (1, y1), (2, y2), (3, y3), (4, y4), (5, y5), (6, y6), (7, y7), (8, y8), (9, y9), (10, y10), (11, y11), (12, y12), (13, y13), (14, y14), (21, y21), (27, y27), (28, y28), (29, y29), (36, y36), (37, z1), (38, y38), (66, y66), (70, y70), (71, y71), (72, y72), (82, y82), (83, y83), (84, y84), (90, y90), (114, y114)] := fun y0 y1 y2 y3 y4 y5 y6 y7 y8 y9 y10 y11 y12 y13 y14 y21 y27 y28 y29 y36 y37 y38 y66 y70 y71 y72 y82 y83 y84 y90 y114 z0 z1 => rfl
        refine R_nil (tr _ _ _ _ _ _ _ _ _ _ _ _ _ _ _ _ _ _ _ _ _ _ _ _ _ _ _ _ _ _ _ _ _) ?_; clear tr
        refine then_n ?_
        exact ⟨_, _, ⟨u + 1, K2, _, _, rfl, rfl, by exact q0, by exact qo, by exact qk, by exact tu.ok, by (have := tu.ok.len; omega), by exact tab_step tu hfu hg2 (by have := pot_rng g (decc q (gt rows 0).length u) (sum_nn _ fun y hy => (sk.c.2 y hy).1) (decl (gt rows 0).length u); omega)⟩, by rfl, by omega⟩
      · try simp only [decide_eq_true_eq, decide_eq_false_iff_not, Bool.not_eq_true', Bool.not_eq_false', beq_iff_eq, beq_eq_false_iff_ne, ne_eq] at h3
        refine at_exit rfl ?_
        refine then_x ?_
        refine then_x ?_
        refine blk_x ?_
        refine then_n ?_
        refine at_seq rfl ?_
        refine rls2 rfl rfl ?_
        have hK : FullT rows q K := tab_full tab (fun i hi => hfu i (by omega))
        have hKl := hK.1
        have hkz := full_at hK hq0 hz
        refine Lq ?_
        refine L_q rfl (by simp (disch := first | omega | (simp only [List.length_map, List.length_append, List.length_set, List.length_cons, List.length_nil, List.length_take, List.length_drop]; omega)) only [go_sem, ↓reduceIte, Nat.reduceEqDiff, reduceCtorEq, q0, qo, qk, qd, qs, qp, hsx, hlx]; rfl) rfl ?_
        refine Lq ?_
        refine L_q rfl (by simp (disch := first | omega | (simp only [List.length_map, List.length_append, List.length_set, List.length_cons, List.length_nil, List.length_take, List.length_drop]; omega)) only [go_sem, ↓reduceIte, Nat.reduceEqDiff, reduceCtorEq, q0, qo, qk, qd, qs, qp, hsx, hlx]; rfl) rfl ?_
        refine Lq ?_
        refine Lq ?_
        refine L_q rfl (by simp (disch := first | omega | (simp only [List.length_map, List.length_append, List.length_set, List.length_cons, List.length_nil, List.length_take, List.length_drop]; omega)) only [go_sem, ↓reduceIte, Nat.reduceEqDiff, reduceCtorEq, q0, qo, qk, qd, qs, qp, hsx, hlx]; rfl) rfl ?_
        refine L_nil ?_
        refine R_makeSlice (ms25 _ _ (gt rows 0).length _ _ _ (by omega) (by simp (disch := first | omega | (simp only [List.length_map, List.length_append, List.length_set, List.length_cons, List.length_nil, List.length_take, List.length_drop]; omega)) only [go_sem, ↓reduceIte, Nat.reduceEqDiff, reduceCtorEq]) (by simp (disch := first | omega | (simp only [List.length_map, List.length_append, List.length_set, List.length_cons, List.length_nil, List.length_take, List.length_drop]; omega)) only [go_sem, ↓reduceIte, Nat.reduceEqDiff, reduceCtorEq])) ?_
        refine Rq ?_
        refine R_alloc (by simp (disch := first | omega | (simp only [List.length_map, List.length_append, List.length_set, List.length_cons, List.length_nil, List.length_take, List.length_drop]; omega)) only [go_sem, ↓reduceIte, Nat.reduceEqDiff, reduceCtorEq, q0, qo, qk, qd, qs, qp, hsx, hlx]; rfl) rfl (by simp only [List.map_cons, List.map_nil]; rfl) ?_
        refine R_end ⟨?_, ?_⟩
        · skip
          refine ⟨?_, ?_⟩
          · skip
            refine R_makeSlice (ms25 _ _ (gt rows 0).length _ _ _ (by omega) (by simp (disch := first | omega | (simp only [List.length_map, List.length_append, List.length_set, List.length_cons, List.length_nil, List.length_take, List.length_drop]; omega)) only [go_sem, ↓reduceIte, Nat.reduceEqDiff, reduceCtorEq]) (by simp (disch := first | omega | (simp only [List.length_map, List.length_append, List.length_set, List.length_cons, List.length_nil, List.length_take, List.length_drop]; omega)) only [go_sem, ↓reduceIte, Nat.reduceEqDiff, reduceCtorEq])) ?_
            refine R_alloc (by simp (disch := first | omega | (simp only [List.length_map, List.length_append, List.length_set, List.length_cons, List.length_nil, List.length_take, List.length_drop]; omega)) only [go_sem, ↓reduceIte, Nat.reduceEqDiff, reduceCtorEq, q0, qo, qk, qd, qs, qp, hsx, hlx]; rfl) rfl (by simp only [List.map_cons, List.map_nil]; rfl) ?_
            refine Rq ?_
            refine R_end ?_
            refine two_id (H := HL) (A := ((List.replicate (gt rows 0).length (0 : Int)).map AV.i)) (B := [.v (.slice none 0 0), AV.i 0]) (fun f => ren_ints _ _ _) (fun f => rfl) ?_
            intro t ht
            simp only [List.mem_cons, List.not_mem_nil, or_false] at ht
            rcases ht with rfl | rfl
            · simp only [get_cons, put_some, ↓reduceIte, Nat.reduceEqDiff, ren, List.map_cons, List.map_nil]
              (simp [rnB] <;> rfl)
            · simp only [get_cons, put_some, ↓reduceIte, Nat.reduceEqDiff, ren, List.map_cons, List.map_nil]
              (simp [rnB] <;> rfl)
          refine ⟨?_, ?_⟩
          · skip
            refine R_alloc (by simp (disch := first | omega | (simp only [List.length_map, List.length_append, List.length_set, List.length_cons, List.length_nil, List.length_take, List.length_drop]; omega)) only [go_sem, ↓reduceIte, Nat.reduceEqDiff, reduceCtorEq, q0, qo, qk, qd, qs, qp, hsx, hlx]; rfl) rfl (by simp only [List.map_cons, List.map_nil]; rfl) ?_
            refine R_makeSlice (ms25 _ _ (gt rows 0).length _ _ _ (by omega) (by simp (disch := first | omega | (simp only [List.length_map, List.length_append, List.length_set, List.length_cons, List.length_nil, List.length_take, List.length_drop]; omega)) only [go_sem, ↓reduceIte, Nat.reduceEqDiff, reduceCtorEq]) (by simp (disch := first | omega | (simp only [List.length_map, List.length_append, List.length_set, List.length_cons, List.length_nil, List.length_take, List.length_drop]; omega)) only [go_sem, ↓reduceIte, Nat.reduceEqDiff, reduceCtorEq])) ?_
            refine Rq ?_
            refine R_end ?_
            refine two_same (H := HL) (A := ((List.replicate (gt rows 0).length (0 : Int)).map AV.i)) (B := [.v (.slice none 0 0), AV.i 0]) (fun f => ren_ints _ _ _) (fun f => rfl) ?_
            intro t ht
            simp only [List.mem_cons, List.not_mem_nil, or_false] at ht
            rcases ht with rfl | rfl
            · simp only [get_cons, put_some, ↓reduceIte, Nat.reduceEqDiff, ren, List.map_cons, List.map_nil]
              (simp [rnB] <;> rfl)
            · simp only [get_cons, put_some, ↓reduceIte, Nat.reduceEqDiff, ren, List.map_cons, List.map_nil]
              (simp [rnB] <;> rfl)
          exact trivial
        rewrite [keep_two]
        refine Rp_env (e' := [(55, _), (9, _), (47, .any), (48, .any), (49, .any), (50, .any), (51, .any), (52, .any), (53, .any), (54, .any), (55, .any), (9, .any), (0, _), (1, _), (2, _), (3, _), (4, _), (5, _), (6, _), (7, _), (8, _), (9, _), (10, _), (11, _), (12, _), (13, _), (14, _), (21, _), (27, _), (28, _), (29, _), (36, _), (37, _), (38, _), (66, _), (70, _), (71, _), (72, _), (82, _), (83, _), (84, _), (90, _), (114, _)]) rfl ?_
        simp only [put_some, get_cons, ↓reduceIte, Nat.reduceEqDiff]
        have nd := MNew.of HL ((List.replicate (gt rows 0).length (0 : Int)).map AV.i)
        have ns := MNew.of (HL ++ [some ((List.replicate (gt rows 0).length (0 : Int)).map AV.i)]) [.v (.slice none 0 0), AV.i 0]
        generalize (HL ++ [some ((List.replicate (gt rows 0).length (0 : Int)).map AV.i)]) ++ [some [.v (.slice none 0 0), AV.i 0]] = HS at ns ⊢
        generalize HL ++ [some ((List.replicate (gt rows 0).length (0 : Int)).map AV.i)] = HD at nd ns ⊢
        have end_ := nd.len
        have ens := ns.len
        have q0 := (nd.old _ (hget_lt q0)).trans q0
        have qo := (nd.old _ (hget_lt qo)).trans qo
        have qk := (nd.old _ (hget_lt qk)).trans qk
        have qd := nd.new
        have q0 := (ns.old _ (hget_lt q0)).trans q0
        have qo := (ns.old _ (hget_lt qo)).trans qo
        have qk := (ns.old _ (hget_lt qk)).trans qk
        have qd := (ns.old _ (hget_lt qd)).trans qd
        have qs := ns.new
        have lq0 := hget_lt q0
        have lqo := hget_lt qo
        have lqk := hget_lt qk
        have lqd := hget_lt qd
        have lqs := hget_lt qs
        refine A_store ty48 (by simp (disch := first | omega | (simp only [List.length_map, List.length_append, List.length_set, List.length_cons, List.length_nil, List.length_take, List.length_drop]; omega)) only [go_sem, ↓reduceIte, Nat.reduceEqDiff, reduceCtorEq, q0, qo, qk, qd, qs, hsx]; rfl) (by simp (disch := first | omega | (simp only [List.length_map, List.length_append, List.length_set, List.length_cons, List.length_nil, List.length_take, List.length_drop]; omega)) only [go_sem, ↓reduceIte, Nat.reduceEqDiff, reduceCtorEq, q0, qo, qk, qd, qs, hsx]; rfl) qs ⟨by omega, rfl, by first | exact Nat.le_refl _ | simp⟩ (k' := [AV.own 1 HL.length 0 (gt rows 0).length, AV.i la0]) (rfl) ?_
        intro HT wt
        have ewt := wt.len
        have q0 := (wt.old _ (by omega)).trans q0
        have qo := (wt.old _ (by omega)).trans qo
        have qk := (wt.old _ (by omega)).trans qk
        have qd := (wt.old _ (by omega)).trans qd
        have qs := wt.new
        have tr : ∀ y0 y1 y2 y3 y4 y5 y6 y7 y8 y9 y10 y11 y12 y13 y14 y21 y27 y28 y29 y36 y37 y38 y66 y70 y71 y72 y82 y83 y84 y90 y114 z0 z1 z2 z3 z4 z5 z6 z7 z8 z9 z10 z11 : AV, trim [(55, z11), (9, z10), (47, z9), (48, z8), (49, z7), (50, z6), (51, z5), (52, z4), (53, z3), (54, z2), (55, z1), (9, z0), (0, y0), (1, y1), (2, y2), (3, y3), (4, y4), (5, y5), (6, y6), (7, y7), (8, y8), (9, y9), (10, y10), (11, y11), (12, y12), (13, y13), (14, y14), (21, y21), (27, y27), (28, y28), (29, y29), (36, y36), (37, y37), (38, y38), (66, y66), (70, y70), (71, y71), (72, y72), (82, y82), (83, y83), (84, y84), (90, y90), (114, y114)] [(0, y0), (1, y1), (2, y2), (3, y3), (4, y4), (5, y5), (6, y6), (7, y7), (8, y8), (9, y9), (10, y10), (11, y11), (12, y12), (13, y13), (14, y14), (21, y21), (27, y27), (28, y28), (29, y29), (36, y36), (37, y37), (38, y38), (66, y66), (70, y70), (71, y71), (72, y72), (82, y82), (83, y83), (84, y84), (90, y90), (114, y114)] = [(0, y0), (1, y1), (2, y2), (3, y3), (4, y4), (5, y5), (6, y6), (7, y7), (8, y8), (9, z10), (10, y10), (11, y11), (12, y12), (13, y13), (14, y14), (21, y21), (27, y27), (28, y28), (29, y29), (36, y36), (37, y37), (38, y38), (66, y66), (70, y70), (71, y71), (72, y72), (82, y82), (83, y83), (84, y84), (90, y90), (114, y114)] := fun y0 y1 y2 y3 y4 y5 y6 y7 y8 y9 y10 y11 y12 y13 y14 y21 y27 y28 y29 y36 y37 y38 y66 y70 y71 y72 y82 y83 y84 y90 y114 z0 z1 z2 z3 z4 z5 z6 z7 z8 z9 z10 z11 => rfl
        refine R_nil (tr _ _ _ _ _ _ _ _ _ _ _ _ _ _ _ _ _ _ _ _ _ _ _ _ _ _ _ _ _ _ _ _ _ _ _ _ _ _ _ _ _ _ _) ?_; clear tr
        refine then_n ?_
        refine at_seq rfl ?_
        refine rg rfl ?_
        refine Rq ?_
        refine R_q rfl (by simp (disch := first | omega | (simp only [List.length_map, List.length_append, List.length_set, List.length_cons, List.length_nil, List.length_take, List.length_drop]; omega)) only [go_sem, ↓reduceIte, Nat.reduceEqDiff, reduceCtorEq, q0, qo, qk, qd, qs, qp, hsx, hlx]; rfl) ?_
        refine R_q rfl (by simp (disch := first | omega | (simp only [List.length_map, List.length_append, List.length_set, List.length_cons, List.length_nil, List.length_take, List.length_drop]; omega)) only [go_sem, ↓reduceIte, Nat.reduceEqDiff, reduceCtorEq, q0, qo, qk, qd, qs, qp, hsx, hlx]; rfl) ?_
        refine Rcall ?_
        refine ACall_eq (index_ok _ _ rows q la0 g (zeroC rows) la0 hz _ (src_of (.inr ⟨rfl, rfl⟩) qd)) ?_
        refine Rq ?_
        refine R_q rfl (by simp (disch := first | omega | (simp only [List.length_map, List.length_append, List.length_set, List.length_cons, List.length_nil, List.length_take, List.length_drop]; omega)) only [go_sem, ↓reduceIte, Nat.reduceEqDiff, reduceCtorEq, q0, qo, qk, qd, qs, qp, hsx, hlx]; rfl) ?_
        refine Rq ?_
        refine Rq ?_
        refine A_alloc rfl ?_
        intro HU nu
        have enu := nu.len
        have q0 := (nu.old _ (hget_lt q0)).trans q0
        have qo := (nu.old _ (hget_lt qo)).trans qo
        have qk := (nu.old _ (hget_lt qk)).trans qk
        have qd := (nu.old _ (hget_lt qd)).trans qd
        have qs := (nu.old _ (hget_lt qs)).trans qs
        have qp := nu.new
        have lq0 := hget_lt q0
        have lqo := hget_lt qo
        have lqk := hget_lt qk
        have lqd := hget_lt qd
        have lqs := hget_lt qs
        have lqp := hget_lt qp
        refine A_store ty37 (by simp (disch := first | omega | (simp only [List.length_map, List.length_append, List.length_set, List.length_cons, List.length_nil, List.length_take, List.length_drop]; omega)) only [go_sem, ↓reduceIte, Nat.reduceEqDiff, reduceCtorEq, q0, qo, qk, qd, qs, qp, hsx]; rfl) (by simp (disch := first | omega | (simp only [List.length_map, List.length_append, List.length_set, List.length_cons, List.length_nil, List.length_take, List.length_drop]; omega)) only [go_sem, ↓reduceIte, Nat.reduceEqDiff, reduceCtorEq, q0, qo, qk, qd, qs, qp, hsx]; rfl) qp ⟨by omega, rfl, by first | exact Nat.le_refl _ | simp⟩ (k' := [nilI, AV.i (potB rows q (zeroC rows) la0), AV.own 1 H2.length 0 (stN rows q).toNat]) (by rw [hkz]; rfl) ?_
        intro HV wv
        have ewv := wv.len
        have q0 := (wv.old _ (by omega)).trans q0
        have qo := (wv.old _ (by omega)).trans qo
        have qk := (wv.old _ (by omega)).trans qk
        have qd := (wv.old _ (by omega)).trans qd
        have qs := (wv.old _ (by omega)).trans qs
        have qp := wv.new
        have tr : ∀ y0 y1 y2 y3 y4 y5 y6 y7 y8 y9 y10 y11 y12 y13 y14 y21 y27 y28 y29 y36 y37 y38 y66 y70 y71 y72 y82 y83 y84 y90 y114 z0 z1 z2 z3 z4 z5 z6 z7 z8 : AV, trim [(10, z8), (63, z7), (62, z6), (61, z5), (60, z4), (59, z3), (58, z2), (57, z1), (56, z0), (0, y0), (1, y1), (2, y2), (3, y3), (4, y4), (5, y5), (6, y6), (7, y7), (8, y8), (9, y9), (10, y10), (11, y11), (12, y12), (13, y13), (14, y14), (21, y21), (27, y27), (28, y28), (29, y29), (36, y36), (37, y37), (38, y38), (66, y66), (70, y70), (71, y71), (72, y72), (82, y82), (83, y83), (84, y84), (90, y90), (114, y114)] [(0, y0), (1, y1), (2, y2), (3, y3), (4, y4), (5, y5), (6, y6), (7, y7), (8, y8), (9, y9), (10, y10), (11, y11), (12, y12), (13, y13), (14, y14), (21, y21), (27, y27), (28, y28), (29, y29), (36, y36), (37, y37), (38, y38), (66, y66), (70, y70), (71, y71), (72, y72), (82, y82), (83, y83), (84, y84), (90, y90), (114, y114)] = [(0, y0), (1, y1), (2, y2), (3, y3), (4, y4), (5, y5), (6, y6), (7, y7), (8, y8), (9, y9), (10, z8), (11, y11), (12, y12), (13, y13), (14, y14), (21, y21), (27, y27), (28, y28), (29, y29), (36, y36), (37, y37), (38, y38), (66, y66), (70, y70), (71, y71), (72, y72), (82, y82), (83, y83), (84, y84), (90, y90), (114, y114)] := fun y0 y1 y2 y3 y4 y5 y6 y7 y8 y9 y10 y11 y12 y13 y14 y21 y27 y28 y29 y36 y37 y38 y66 y70 y71 y72 y82 y83 y84 y90 y114 z0 z1 z2 z3 z4 z5 z6 z7 z8 => rfl
        refine R_nil (tr _ _ _ _ _ _ _ _ _ _ _ _ _ _ _ _ _ _ _ _ _ _ _ _ _ _ _ _ _ _ _ _ _ _ _ _ _ _ _ _) ?_; clear tr
        refine then_n ?_
        refine at_seq rfl ?_
        refine at_seq rfl ?_
        refine rg rfl ?_
        refine Rq ?_
        refine R_q rfl (by simp (disch := first | omega | (simp only [List.length_map, List.length_append, List.length_set, List.length_cons, List.length_nil, List.length_take, List.length_drop]; omega)) only [go_sem, ↓reduceIte, Nat.reduceEqDiff, reduceCtorEq, q0, qo, qk, qd, qs, qp, hsx, hlx]; rfl) ?_
        refine Rq ?_
        have tr : ∀ y0 y1 y2 y3 y4 y5 y6 y7 y8 y9 y10 y11 y12 y13 y14 y21 y27 y28 y29 y36 y37 y38 y66 y70 y71 y72 y82 y83 y84 y90 y114 z0 z1 z2 : AV, trim [(66, z2), (65, z1), (64, z0), (0, y0), (1, y1), (2, y2), (3, y3), (4, y4), (5, y5), (6, y6), (7, y7), (8, y8), (9, y9), (10, y10), (11, y11), (12, y12), (13, y13), (14, y14), (21, y21), (27, y27), (28, y28), (29, y29), (36, y36), (37, y37), (38, y38), (66, y66), (70, y70), (71, y71), (72, y72), (82, y82), (83, y83), (84, y84), (90, y90), (114, y114)] [(0, y0), (1, y1), (2, y2), (3, y3), (4, y4), (5, y5), (6, y6), (7, y7), (8, y8), (9, y9), (10, y10), (11, y11), (12, y12), (13, y13), (14, y14), (21, y21), (27, y27), (28, y28), (29, y29), (36, y36), (37, y37), (38, y38), (66, y66), (70, y70), (71, y71), (72, y72), (82, y82), (83, y83), (84, y84), (90, y90), (114, y114)] = [(0, y0), (1, y1), (2, y2), (3, y3), (4, y4), (5, y5), (6, y6), (7, y7), (8, y8), (9, y9), (10, y10), (11, y11), (12, y12), (13, y13), (14, y14), (21, y21), (27, y27), (28, y28), (29, y29), (36, y36), (37, y37), (38, y38), (66, z2), (70, y70), (71, y71), (72, y72), (82, y82), (83, y83), (84, y84), (90, y90), (114, y114)] := fun y0 y1 y2 y3 y4 y5 y6 y7 y8 y9 y10 y11 y12 y13 y14 y21 y27 y28 y29 y36 y37 y38 y66 y70 y71 y72 y82 y83 y84 y90 y114 z0 z1 z2 => rfl
        refine R_nil (tr _ _ _ _ _ _ _ _ _ _ _ _ _ _ _ _ _ _ _ _ _ _ _ _ _ _ _ _ _ _ _ _ _ _) ?_; clear tr
        refine then_n ?_
        refine cdd (fun h4 => ?_) (fun h4 => ?_)
        · try simp only [decide_eq_true_eq, decide_eq_false_iff_not, Bool.not_eq_true', Bool.not_eq_false', beq_iff_eq, beq_eq_false_iff_ne, ne_eq] at h4
          refine at_seq rfl ?_
          refine rg rfl ?_
          refine Rq ?_
          have lq0 := hget_lt q0
          have lqo := hget_lt qo
          have lqk := hget_lt qk
          refine A_store ty37 (by simp (disch := first | omega | (simp only [List.length_map, List.length_append, List.length_set, List.length_cons, List.length_nil, List.length_take, List.length_drop]; omega)) only [go_sem, ↓reduceIte, Nat.reduceEqDiff, reduceCtorEq, q0, qo, qk, hsx]; rfl) (by simp (disch := first | omega | (simp only [List.length_map, List.length_append, List.length_set, List.length_cons, List.length_nil, List.length_take, List.length_drop]; omega)) only [go_sem, ↓reduceIte, Nat.reduceEqDiff, reduceCtorEq, q0, qo, qk, hsx]; rfl) qo ⟨by omega, rfl, by first | exact Nat.le_refl _ | simp⟩ (k' := [nilI, AV.i 0, nilI]) (rfl) ?_
          intro HW ww
          have eww := ww.len
          have q0 := (ww.old _ (by omega)).trans q0
          have qk := (ww.old _ (by omega)).trans qk
          have qo := ww.new
          refine Rq ?_
          have tr : ∀ y0 y1 y2 y3 y4 y5 y6 y7 y8 y9 y10 y11 y12 y13 y14 y21 y27 y28 y29 y36 y37 y38 y66 y70 y71 y72 y82 y83 y84 y90 y114 z0 z1 : AV, trim [(3, z1), (67, z0), (0, y0), (1, y1), (2, y2), (3, y3), (4, y4), (5, y5), (6, y6), (7, y7), (8, y8), (9, y9), (10, y10), (11, y11), (12, y12), (13, y13), (14, y14), (21, y21), (27, y27), (28, y28), (29, y29), (36, y36), (37, y37), (38, y38), (66, y66), (70, y70), (71, y71), (72, y72), (82, y82), (83, y83), (84, y84), (90, y90), (114, y114)] [(0, y0), (1, y1), (2, y2), (3, y3), (4, y4), (5, y5), (6, y6), (7, y7), (8, y8), (9, y9), (10, y10), (11, y11), (12, y12), (13, y13), (14, y14), (21, y21), (27, y27), (28, y28), (29, y29), (36, y36), (37, y37), (38, y38), (66, y66), (70, y70), (71, y71), (72, y72), (82, y82), (83, y83), (84, y84), (90, y90), (114, y114)] = [(0, y0), (1, y1), (2, y2), (3, z1), (4, y4), (5, y5), (6, y6), (7, y7), (8, y8), (9, y9), (10, y10), (11, y11), (12, y12), (13, y13), (14, y14), (21, y21), (27, y27), (28, y28), (29, y29), (36, y36), (37, y37), (38, y38), (66, y66), (70, y70), (71, y71), (72, y72), (82, y82), (83, y83), (84, y84), (90, y90), (114, y114)] := fun y0 y1 y2 y3 y4 y5 y6 y7 y8 y9 y10 y11 y12 y13 y14 y21 y27 y28 y29 y36 y37 y38 y66 y70 y71 y72 y82 y83 y84 y90 y114 z0 z1 => rfl
          refine R_nil (tr _ _ _ _ _ _ _ _ _ _ _ _ _ _ _ _ _ _ _ _ _ _ _ _ _ _ _ _ _ _ _ _ _) ?_; clear tr
          refine then_n ?_
          refine at_ret rfl ?_
          refine then_r ?_
          refine fin_pure (rs := [.cell 2 37, .tmp 3]) rfl (by simp only [go_sem, ↓reduceIte, Nat.reduceEqDiff, qo]; rfl) rfl ?_
          exact ⟨.none (by assumption) (by unfold potB; omega), rfl⟩
        · try simp only [decide_eq_true_eq, decide_eq_false_iff_not, Bool.not_eq_true', Bool.not_eq_false', beq_iff_eq, beq_eq_false_iff_ne, ne_eq] at h4
          refine at_skip rfl ?_
          refine then_n ?_
          refine at_seq rfl ?_
          refine at_seq rfl ?_
          refine rg rfl ?_
          refine Rq ?_
          refine R_q rfl (by simp (disch := first | omega | (simp only [List.length_map, List.length_append, List.length_set, List.length_cons, List.length_nil, List.length_take, List.length_drop]; omega)) only [go_sem, ↓reduceIte, Nat.reduceEqDiff, reduceCtorEq, q0, qo, qk, qd, qs, qp, hsx, hlx]; rfl) ?_
          refine Rq ?_
          refine Rq ?_
          have tr : ∀ y0 y1 y2 y3 y4 y5 y6 y7 y8 y9 y10 y11 y12 y13 y14 y21 y27 y28 y29 y36 y37 y38 y66 y70 y71 y72 y82 y83 y84 y90 y114 z0 z1 z2 z3 : AV, trim [(71, z3), (70, z2), (69, z1), (68, z0), (0, y0), (1, y1), (2, y2), (3, y3), (4, y4), (5, y5), (6, y6), (7, y7), (8, y8), (9, y9), (10, y10), (11, y11), (12, y12), (13, y13), (14, y14), (21, y21), (27, y27), (28, y28), (29, y29), (36, y36), (37, y37), (38, y38), (66, y66), (70, y70), (71, y71), (72, y72), (82, y82), (83, y83), (84, y84), (90, y90), (114, y114)] [(0, y0), (1, y1), (2, y2), (3, y3), (4, y4), (5, y5), (6, y6), (7, y7), (8, y8), (9, y9), (10, y10), (11, y11), (12, y12), (13, y13), (14, y14), (21, y21), (27, y27), (28, y28), (29, y29), (36, y36), (37, y37), (38, y38), (66, y66), (70, y70), (71, y71), (72, y72), (82, y82), (83, y83), (84, y84), (90, y90), (114, y114)] = [(0, y0), (1, y1), (2, y2), (3, y3), (4, y4), (5, y5), (6, y6), (7, y7), (8, y8), (9, y9), (10, y10), (11, y11), (12, y12), (13, y13), (14, y14), (21, y21), (27, y27), (28, y28), (29, y29), (36, y36), (37, y37), (38, y38), (66, y66), (70, z2), (71, z3), (72, y72), (82, y82), (83, y83), (84, y84), (90, y90), (114, y114)] := fun y0 y1 y2 y3 y4 y5 y6 y7 y8 y9 y10 y11 y12 y13 y14 y21 y27 y28 y29 y36 y37 y38 y66 y70 y71 y72 y82 y83 y84 y90 y114 z0 z1 z2 z3 => rfl
          refine R_nil (tr _ _ _ _ _ _ _ _ _ _ _ _ _ _ _ _ _ _ _ _ _ _ _ _ _ _ _ _ _ _ _ _ _ _ _) ?_; clear tr
          refine then_n ?_
          refine at_block rfl ?_
          refine loop_n rfl (fun mm kv H' => ∃ u : Nat, ∃ w : List Int, ∃ o : AV, ∃ c : List Int, ∃ la : Int, ∃ x : AV, ∃ x11 x12 x13 x14 x72 x82 x83 x84 x90 x114 : AV, (kv = [(11, x11), (12, x12), (13, x13), (14, x14), (71, AV.i u), (72, x72), (82, x82), (83, x83), (84, x84), (90, x90), (114, x114)]) ∧ (mm = rows.length - u) ∧ (hget H' H.length = some [rowsAV rows, AV.i q, AV.i la0]) ∧ (hget H' H1.length = some [nilI, AV.i 0, nilI]) ∧ (hget H' H2.length = some (K.map AV.i)) ∧ (hget H' HL.length = some ((List.replicate (gt rows 0).length (0 : Int)).map AV.i)) ∧ (hget H' HD.length = some [x, AV.i la]) ∧ (hget H' HT.length = some [o, AV.i (potB rows q (zeroC rows) la0), AV.own 1 H2.length 0 (stN rows q).toNat]) ∧ (OutI HU.length H' o w) ∧ (u ≤ rows.length) ∧ (w.length = u) ∧ (Reach rows q la0 w c la) ∧ (StOK q (gt rows 0).length c la) ∧ (sumL c = u) ∧ (potB rows q c la ≠ -1) ∧ (x = intsAV c ∨ (x = .own 1 HL.length 0 (gt rows 0).length ∧ c = List.replicate (gt rows 0).length 0))) ⟨0, [], nilI, (zeroC rows), la0, (AV.own 1 HL.length 0 (gt rows 0).length), _, _, _, _, _, _, _, _, _, _, rfl, rfl, by exact q0, by exact qo, by exact qk, by exact qd, by exact qs, by exact qp, by exact .inl ⟨rfl, rfl⟩, by omega, by rfl, by exact .nil, by exact hz, by rw [sum_zero]; rfl, by unfold potB; omega, by exact .inr ⟨rfl, rfl⟩⟩ (by rfl) ?_
          rintro mm kv HA ⟨u, w, o, c, la, x, x11, x12, x13, x14, x72, x82, x83, x84, x90, x114, rfl, rfl, q0, qo, qk, qd, qs, qp, hO, hu, hw, hR, st, hsc, hpc, hx⟩
          have tr : ∀ y0 y1 y2 y3 y4 y5 y6 y7 y8 y9 y10 y11 y12 y13 y14 y21 y27 y28 y29 y36 y37 y38 y66 y70 y71 y72 y82 y83 y84 y90 y114 z11 z12 z13 z14 z71 z72 z82 z83 z84 z90 z114 : AV, upd [(0, y0), (1, y1), (2, y2), (3, y3), (4, y4), (5, y5), (6, y6), (7, y7), (8, y8), (9, y9), (10, y10), (11, y11), (12, y12), (13, y13), (14, y14), (21, y21), (27, y27), (28, y28), (29, y29), (36, y36), (37, y37), (38, y38), (66, y66), (70, y70), (71, y71), (72, y72), (82, y82), (83, y83), (84, y84), (90, y90), (114, y114)] [(11, z11), (12, z12), (13, z13), (14, z14), (71, z71), (72, z72), (82, z82), (83, z83), (84, z84), (90, z90), (114, z114)] = [(0, y0), (1, y1), (2, y2), (3, y3), (4, y4), (5, y5), (6, y6), (7, y7), (8, y8), (9, y9), (10, y10), (11, z11), (12, z12), (13, z13), (14, z14), (21, y21), (27, y27), (28, y28), (29, y29), (36, y36), (37, y37), (38, y38), (66, y66), (70, y70), (71, z71), (72, z72), (82, z82), (83, z83), (84, z84), (90, z90), (114, z114)] := fun y0 y1 y2 y3 y4 y5 y6 y7 y8 y9 y10 y11 y12 y13 y14 y21 y27 y28 y29 y36 y37 y38 y66 y70 y71 y72 y82 y83 y84 y90 y114 z11 z12 z13 z14 z71 z72 z82 z83 z84 z90 z114 => rfl
          refine W_to (tr _ _ _ _ _ _ _ _ _ _ _ _ _ _ _ _ _ _ _ _ _ _ _ _ _ _ _ _ _ _ _ _ _ _ _ _ _ _ _ _ _ _) ?_; clear tr
          have hir := idx_rng hq0 st
          have hcl := st.c.1
          have hkc := full_at hK hq0 st
          have hsx := (src_of hx qd).st
          have hlx := (src_of hx qd).len
          have lq0 := hget_lt q0
          have lqo := hget_lt qo
          have lqk := hget_lt qk
          have lqd := hget_lt qd
          have lqs := hget_lt qs
          have lqp := hget_lt qp
          refine at_seq rfl ?_
          refine rg rfl ?_
          refine Rq ?_
          have tr : ∀ y0 y1 y2 y3 y4 y5 y6 y7 y8 y9 y10 y11 y12 y13 y14 y21 y27 y28 y29 y36 y37 y38 y66 y70 y71 y72 y82 y83 y84 y90 y114 z0 : AV, trim [(72, z0), (0, y0), (1, y1), (2, y2), (3, y3), (4, y4), (5, y5), (6, y6), (7, y7), (8, y8), (9, y9), (10, y10), (11, y11), (12, y12), (13, y13), (14, y14), (21, y21), (27, y27), (28, y28), (29, y29), (36, y36), (37, y37), (38, y38), (66, y66), (70, y70), (71, y71), (72, y72), (82, y82), (83, y83), (84, y84), (90, y90), (114, y114)] [(0, y0), (1, y1), (2, y2), (3, y3), (4, y4), (5, y5), (6, y6), (7, y7), (8, y8), (9, y9), (10, y10), (11, y11), (12, y12), (13, y13), (14, y14), (21, y21), (27, y27), (28, y28), (29, y29), (36, y36), (37, y37), (38, y38), (66, y66), (70, y70), (71, y71), (72, y72), (82, y82), (83, y83), (84, y84), (90, y90), (114, y114)] = [(0, y0), (1, y1), (2, y2), (3, y3), (4, y4), (5, y5), (6, y6), (7, y7), (8, y8), (9, y9), (10, y10), (11, y11), (12, y12), (13, y13), (14, y14), (21, y21), (27, y27), (28, y28), (29, y29), (36, y36), (37, y37), (38, y38), (66, y66), (70, y70), (71, y71), (72, z0), (82, y82), (83, y83), (84, y84), (90, y90), (114, y114)] := fun y0 y1 y2 y3 y4 y5 y6 y7 y8 y9 y10 y11 y12 y13 y14 y21 y27 y28 y29 y36 y37 y38 y66 y70 y71 y72 y82 y83 y84 y90 y114 z0 => rfl
          refine R_nil (tr _ _ _ _ _ _ _ _ _ _ _ _ _ _ _ _ _ _ _ _ _ _ _ _ _ _ _ _ _ _ _ _) ?_; clear tr
          refine then_n ?_
          refine at_seq rfl ?_
          refine cdd (fun h5 => ?_) (fun h5 => ?_)
          · try simp only [decide_eq_true_eq, decide_eq_false_iff_not, Bool.not_eq_true', Bool.not_eq_false', beq_iff_eq, beq_eq_false_iff_ne, ne_eq] at h5
            refine at_skip rfl ?_
            refine then_n ?_
            refine at_seq rfl ?_
            refine at_block rfl ?_
            refine at_seq rfl ?_
            refine rg rfl ?_
            refine Rq ?_
            refine Rq ?_
            have tr : ∀ y0 y1 y2 y3 y4 y5 y6 y7 y8 y9 y10 y11 y12 y13 y14 y21 y27 y28 y29 y36 y37 y38 y66 y70 y71 y72 y82 y83 y84 y90 y114 z0 z1 : AV, trim [(11, z1), (73, z0), (0, y0), (1, y1), (2, y2), (3, y3), (4, y4), (5, y5), (6, y6), (7, y7), (8, y8), (9, y9), (10, y10), (11, y11), (12, y12), (13, y13), (14, y14), (21, y21), (27, y27), (28, y28), (29, y29), (36, y36), (37, y37), (38, y38), (66, y66), (70, y70), (71, y71), (72, y72), (82, y82), (83, y83), (84, y84), (90, y90), (114, y114)] [(0, y0), (1, y1), (2, y2), (3, y3), (4, y4), (5, y5), (6, y6), (7, y7), (8, y8), (9, y9), (10, y10), (11, y11), (12, y12), (13, y13), (14, y14), (21, y21), (27, y27), (28, y28), (29, y29), (36, y36), (37, y37), (38, y38), (66, y66), (70, y70), (71, y71), (72, y72), (82, y82), (83, y83), (84, y84), (90, y90), (114, y114)] = [(0, y0), (1, y1), (2, y2), (3, y3), (4, y4), (5, y5), (6, y6), (7, y7), (8, y8), (9, y9), (10, y10), (11, z1), (12, y12), (13, y13), (14, y14), (21, y21), (27, y27), (28, y28), (29, y29), (36, y36), (37, y37), (38, y38), (66, y66), (70, y70), (71, y71), (72, y72), (82, y82), (83, y83), (84, y84), (90, y90), (114, y114)] := fun y0 y1 y2 y3 y4 y5 y6 y7 y8 y9 y10 y11 y12 y13 y14 y21 y27 y28 y29 y36 y37 y38 y66 y70 y71 y72 y82 y83 y84 y90 y114 z0 z1 => rfl
            refine R_nil (tr _ _ _ _ _ _ _ _ _ _ _ _ _ _ _ _ _ _ _ _ _ _ _ _ _ _ _ _ _ _ _ _ _) ?_; clear tr
            refine then_n ?_
            refine at_seq rfl ?_
            refine rg rfl ?_
            refine Rq ?_
            refine R_q rfl (by simp (disch := first | omega | (simp only [List.length_map, List.length_append, List.length_set, List.length_cons, List.length_nil, List.length_take, List.length_drop]; omega)) only [go_sem, ↓reduceIte, Nat.reduceEqDiff, reduceCtorEq, q0, qo, qk, qd, qs, qp, hsx, hlx]; rfl) ?_
            refine R_q rfl (by simp (disch := first | omega | (simp only [List.length_map, List.length_append, List.length_set, List.length_cons, List.length_nil, List.length_take, List.length_drop]; omega)) only [go_sem, ↓reduceIte, Nat.reduceEqDiff, reduceCtorEq, q0, qo, qk, qd, qs, qp, hsx, hlx]; rfl) ?_
            refine Rcall ?_
            refine ACall_eq (index_ok _ _ rows q la0 g c la st x (src_of hx qd)) ?_
            refine Rq ?_
            refine R_q rfl (by simp (disch := first | omega | (simp only [List.length_map, List.length_append, List.length_set, List.length_cons, List.length_nil, List.length_take, List.length_drop]; omega)) only [go_sem, ↓reduceIte, Nat.reduceEqDiff, reduceCtorEq, q0, qo, qk, qd, qs, qp, hsx, hlx]; rfl) ?_
            refine Rq ?_
            have tr : ∀ y0 y1 y2 y3 y4 y5 y6 y7 y8 y9 y10 y11 y12 y13 y14 y21 y27 y28 y29 y36 y37 y38 y66 y70 y71 y72 y82 y83 y84 y90 y114 z0 z1 z2 z3 z4 z5 z6 : AV, trim [(12, z6), (79, z5), (78, z4), (77, z3), (76, z2), (75, z1), (74, z0), (0, y0), (1, y1), (2, y2), (3, y3), (4, y4), (5, y5), (6, y6), (7, y7), (8, y8), (9, y9), (10, y10), (11, y11), (12, y12), (13, y13), (14, y14), (21, y21), (27, y27), (28, y28), (29, y29), (36, y36), (37, y37), (38, y38), (66, y66), (70, y70), (71, y71), (72, y72), (82, y82), (83, y83), (84, y84), (90, y90), (114, y114)] [(0, y0), (1, y1), (2, y2), (3, y3), (4, y4), (5, y5), (6, y6), (7, y7), (8, y8), (9, y9), (10, y10), (11, y11), (12, y12), (13, y13), (14, y14), (21, y21), (27, y27), (28, y28), (29, y29), (36, y36), (37, y37), (38, y38), (66, y66), (70, y70), (71, y71), (72, y72), (82, y82), (83, y83), (84, y84), (90, y90), (114, y114)] = [(0, y0), (1, y1), (2, y2), (3, y3), (4, y4), (5, y5), (6, y6), (7, y7), (8, y8), (9, y9), (10, y10), (11, y11), (12, z6), (13, y13), (14, y14), (21, y21), (27, y27), (28, y28), (29, y29), (36, y36), (37, y37), (38, y38), (66, y66), (70, y70), (71, y71), (72, y72), (82, y82), (83, y83), (84, y84), (90, y90), (114, y114)] := fun y0 y1 y2 y3 y4 y5 y6 y7 y8 y9 y10 y11 y12 y13 y14 y21 y27 y28 y29 y36 y37 y38 y66 y70 y71 y72 y82 y83 y84 y90 y114 z0 z1 z2 z3 z4 z5 z6 => rfl
            refine R_nil (tr _ _ _ _ _ _ _ _ _ _ _ _ _ _ _ _ _ _ _ _ _ _ _ _ _ _ _ _ _ _ _ _ _ _ _ _ _ _) ?_; clear tr
            refine then_n ?_
            refine at_seq rfl ?_
            refine rg rfl ?_
            refine Rq ?_
            refine R_q rfl (by simp (disch := first | omega | (simp only [List.length_map, List.length_append, List.length_set, List.length_cons, List.length_nil, List.length_take, List.length_drop]; omega)) only [go_sem, ↓reduceIte, Nat.reduceEqDiff, reduceCtorEq, q0, qo, qk, qd, qs, qp, hsx, hlx]; rfl) ?_
            refine R_q rfl hlx ?_
            refine Rq ?_
            have tr : ∀ y0 y1 y2 y3 y4 y5 y6 y7 y8 y9 y10 y11 y12 y13 y14 y21 y27 y28 y29 y36 y37 y38 y66 y70 y71 y72 y82 y83 y84 y90 y114 z0 z1 z2 z3 : AV, trim [(83, z3), (82, z2), (81, z1), (80, z0), (0, y0), (1, y1), (2, y2), (3, y3), (4, y4), (5, y5), (6, y6), (7, y7), (8, y8), (9, y9), (10, y10), (11, y11), (12, y12), (13, y13), (14, y14), (21, y21), (27, y27), (28, y28), (29, y29), (36, y36), (37, y37), (38, y38), (66, y66), (70, y70), (71, y71), (72, y72), (82, y82), (83, y83), (84, y84), (90, y90), (114, y114)] [(0, y0), (1, y1), (2, y2), (3, y3), (4, y4), (5, y5), (6, y6), (7, y7), (8, y8), (9, y9), (10, y10), (11, y11), (12, y12), (13, y13), (14, y14), (21, y21), (27, y27), (28, y28), (29, y29), (36, y36), (37, y37), (38, y38), (66, y66), (70, y70), (71, y71), (72, y72), (82, y82), (83, y83), (84, y84), (90, y90), (114, y114)] = [(0, y0), (1, y1), (2, y2), (3, y3), (4, y4), (5, y5), (6, y6), (7, y7), (8, y8), (9, y9), (10, y10), (11, y11), (12, y12), (13, y13), (14, y14), (21, y21), (27, y27), (28, y28), (29, y29), (36, y36), (37, y37), (38, y38), (66, y66), (70, y70), (71, y71), (72, y72), (82, z2), (83, z3), (84, y84), (90, y90), (114, y114)] := fun y0 y1 y2 y3 y4 y5 y6 y7 y8 y9 y10 y11 y12 y13 y14 y21 y27 y28 y29 y36 y37 y38 y66 y70 y71 y72 y82 y83 y84 y90 y114 z0 z1 z2 z3 => rfl
            refine R_nil (tr _ _ _ _ _ _ _ _ _ _ _ _ _ _ _ _ _ _ _ _ _ _ _ _ _ _ _ _ _ _ _ _ _ _ _) ?_; clear tr
            refine then_n ?_
            refine at_block rfl ?_
            refine loop_n rfl (fun mm kv H' => ∃ jn : Nat, ∃ x13 x14 x84 x90 x114 : AV, (kv = [(13, x13), (14, x14), (83, AV.i jn), (84, x84), (90, x90), (114, x114)]) ∧ (mm = (gt rows 0).length - jn) ∧ (hget H' H.length = some [rowsAV rows, AV.i q, AV.i la0]) ∧ (hget H' H1.length = some [nilI, AV.i 0, nilI]) ∧ (hget H' H2.length = some (K.map AV.i)) ∧ (hget H' HL.length = some ((List.replicate (gt rows 0).length (0 : Int)).map AV.i)) ∧ (hget H' HD.length = some [x, AV.i la]) ∧ (hget H' HT.length = some [o, AV.i (potB rows q (zeroC rows) la0), AV.own 1 H2.length 0 (stN rows q).toNat]) ∧ (OutI HU.length H' o w) ∧ (jn ≤ (gt rows 0).length) ∧ (∀ k, k < jn → ¬ Hit rows q c la k)) ⟨0, _, _, _, _, _, rfl, rfl, by exact q0, by exact qo, by exact qk, by exact qd, by exact qs, by exact qp, by exact hO, by omega, by intro k hk; omega⟩ (by rfl) ?_
            rintro mm kv HB ⟨jn, x13, x14, x84, x90, x114, rfl, rfl, q0, qo, qk, qd, qs, qp, hO, hj, hno⟩
            have tr : ∀ y0 y1 y2 y3 y4 y5 y6 y7 y8 y9 y10 y11 y12 y13 y14 y21 y27 y28 y29 y36 y37 y38 y66 y70 y71 y72 y82 y83 y84 y90 y114 z13 z14 z83 z84 z90 z114 : AV, upd [(0, y0), (1, y1), (2, y2), (3, y3), (4, y4), (5, y5), (6, y6), (7, y7), (8, y8), (9, y9), (10, y10), (11, y11), (12, y12), (13, y13), (14, y14), (21, y21), (27, y27), (28, y28), (29, y29), (36, y36), (37, y37), (38, y38), (66, y66), (70, y70), (71, y71), (72, y72), (82, y82), (83, y83), (84, y84), (90, y90), (114, y114)] [(13, z13), (14, z14), (83, z83), (84, z84), (90, z90), (114, z114)] = [(0, y0), (1, y1), (2, y2), (3, y3), (4, y4), (5, y5), (6, y6), (7, y7), (8, y8), (9, y9), (10, y10), (11, y11), (12, y12), (13, z13), (14, z14), (21, y21), (27, y27), (28, y28), (29, y29), (36, y36), (37, y37), (38, y38), (66, y66), (70, y70), (71, y71), (72, y72), (82, y82), (83, z83), (84, z84), (90, z90), (114, z114)] := fun y0 y1 y2 y3 y4 y5 y6 y7 y8 y9 y10 y11 y12 y13 y14 y21 y27 y28 y29 y36 y37 y38 y66 y70 y71 y72 y82 y83 y84 y90 y114 z13 z14 z83 z84 z90 z114 => rfl
            refine W_to (tr _ _ _ _ _ _ _ _ _ _ _ _ _ _ _ _ _ _ _ _ _ _ _ _ _ _ _ _ _ _ _ _ _ _ _ _ _) ?_; clear tr
            have lq0 := hget_lt q0
            have lqo := hget_lt qo
            have lqk := hget_lt qk
            have lqd := hget_lt qd
            have lqs := hget_lt qs
            have lqp := hget_lt qp
            refine at_seq rfl ?_
            refine rg rfl ?_
            refine Rq ?_
            have tr : ∀ y0 y1 y2 y3 y4 y5 y6 y7 y8 y9 y10 y11 y12 y13 y14 y21 y27 y28 y29 y36 y37 y38 y66 y70 y71 y72 y82 y83 y84 y90 y114 z0 : AV, trim [(84, z0), (0, y0), (1, y1), (2, y2), (3, y3), (4, y4), (5, y5), (6, y6), (7, y7), (8, y8), (9, y9), (10, y10), (11, y11), (12, y12), (13, y13), (14, y14), (21, y21), (27, y27), (28, y28), (29, y29), (36, y36), (37, y37), (38, y38), (66, y66), (70, y70), (71, y71), (72, y72), (82, y82), (83, y83), (84, y84), (90, y90), (114, y114)] [(0, y0), (1, y1), (2, y2), (3, y3), (4, y4), (5, y5), (6, y6), (7, y7), (8, y8), (9, y9), (10, y10), (11, y11), (12, y12), (13, y13), (14, y14), (21, y21), (27, y27), (28, y28), (29, y29), (36, y36), (37, y37), (38, y38), (66, y66), (70, y70), (71, y71), (72, y72), (82, y82), (83, y83), (84, y84), (90, y90), (114, y114)] = [(0, y0), (1, y1), (2, y2), (3, y3), (4, y4), (5, y5), (6, y6), (7, y7), (8, y8), (9, y9), (10, y10), (11, y11), (12, y12), (13, y13), (14, y14), (21, y21), (27, y27), (28, y28), (29, y29), (36, y36), (37, y37), (38, y38), (66, y66), (70, y70), (71, y71), (72, y72), (82, y82), (83, y83), (84, z0), (90, y90), (114, y114)] := fun y0 y1 y2 y3 y4 y5 y6 y7 y8 y9 y10 y11 y12 y13 y14 y21 y27 y28 y29 y36 y37 y38 y66 y70 y71 y72 y82 y83 y84 y90 y114 z0 => rfl
            refine R_nil (tr _ _ _ _ _ _ _ _ _ _ _ _ _ _ _ _ _ _ _ _ _ _ _ _ _ _ _ _ _ _ _ _) ?_; clear tr
            refine then_n ?_
            refine at_seq rfl ?_
            refine cdd (fun h6 => ?_) (fun h6 => ?_)
            · try simp only [decide_eq_true_eq, decide_eq_false_iff_not, Bool.not_eq_true', Bool.not_eq_false', beq_iff_eq, beq_eq_false_iff_ne, ne_eq] at h6
              refine at_skip rfl ?_
              refine then_n ?_
              refine at_seq rfl ?_
              refine at_block rfl ?_
              refine at_seq rfl ?_
              refine rg rfl ?_
              refine Rq ?_
              refine Rq ?_
              have tr : ∀ y0 y1 y2 y3 y4 y5 y6 y7 y8 y9 y10 y11 y12 y13 y14 y21 y27 y28 y29 y36 y37 y38 y66 y70 y71 y72 y82 y83 y84 y90 y114 z0 z1 : AV, trim [(13, z1), (85, z0), (0, y0), (1, y1), (2, y2), (3, y3), (4, y4), (5, y5), (6, y6), (7, y7), (8, y8), (9, y9), (10, y10), (11, y11), (12, y12), (13, y13), (14, y14), (21, y21), (27, y27), (28, y28), (29, y29), (36, y36), (37, y37), (38, y38), (66, y66), (70, y70), (71, y71), (72, y72), (82, y82), (83, y83), (84, y84), (90, y90), (114, y114)] [(0, y0), (1, y1), (2, y2), (3, y3), (4, y4), (5, y5), (6, y6), (7, y7), (8, y8), (9, y9), (10, y10), (11, y11), (12, y12), (13, y13), (14, y14), (21, y21), (27, y27), (28, y28), (29, y29), (36, y36), (37, y37), (38, y38), (66, y66), (70, y70), (71, y71), (72, y72), (82, y82), (83, y83), (84, y84), (90, y90), (114, y114)] = [(0, y0), (1, y1), (2, y2), (3, y3), (4, y4), (5, y5), (6, y6), (7, y7), (8, y8), (9, y9), (10, y10), (11, y11), (12, y12), (13, z1), (14, y14), (21, y21), (27, y27), (28, y28), (29, y29), (36, y36), (37, y37), (38, y38), (66, y66), (70, y70), (71, y71), (72, y72), (82, y82), (83, y83), (84, y84), (90, y90), (114, y114)] := fun y0 y1 y2 y3 y4 y5 y6 y7 y8 y9 y10 y11 y12 y13 y14 y21 y27 y28 y29 y36 y37 y38 y66 y70 y71 y72 y82 y83 y84 y90 y114 z0 z1 => rfl
              refine R_nil (tr _ _ _ _ _ _ _ _ _ _ _ _ _ _ _ _ _ _ _ _ _ _ _ _ _ _ _ _ _ _ _ _ _) ?_; clear tr
              refine then_n ?_
              refine at_seq rfl ?_
              refine at_seq rfl ?_
              refine rg rfl ?_
              refine R_q rfl (by simp (disch := first | omega | (simp only [List.length_map, List.length_append, List.length_set, List.length_cons, List.length_nil, List.length_take, List.length_drop]; omega)) only [go_sem, ↓reduceIte, Nat.reduceEqDiff, reduceCtorEq, q0, qo, qk, qd, qs, qp, hsx, hlx]; rfl) ?_
              refine R_q rfl (by simp (disch := first | omega | (simp only [List.length_map, List.length_append, List.length_set, List.length_cons, List.length_nil, List.length_take, List.length_drop]; omega)) only [go_sem, ↓reduceIte, Nat.reduceEqDiff, reduceCtorEq, q0, qo, qk, qd, qs, qp, hsx, hlx]; rfl) ?_
              refine Rq ?_
              refine Rcall ?_
              refine ACall_eq (may_ok _ _ rows q la0 g c la st x (src_of hx qd) jn (by omega)) ?_
              refine Rq ?_
              have tr : ∀ y0 y1 y2 y3 y4 y5 y6 y7 y8 y9 y10 y11 y12 y13 y14 y21 y27 y28 y29 y36 y37 y38 y66 y70 y71 y72 y82 y83 y84 y90 y114 z0 z1 z2 z3 z4 : AV, trim [(90, z4), (89, z3), (88, z2), (87, z1), (86, z0), (0, y0), (1, y1), (2, y2), (3, y3), (4, y4), (5, y5), (6, y6), (7, y7), (8, y8), (9, y9), (10, y10), (11, y11), (12, y12), (13, y13), (14, y14), (21, y21), (27, y27), (28, y28), (29, y29), (36, y36), (37, y37), (38, y38), (66, y66), (70, y70), (71, y71), (72, y72), (82, y82), (83, y83), (84, y84), (90, y90), (114, y114)] [(0, y0), (1, y1), (2, y2), (3, y3), (4, y4), (5, y5), (6, y6), (7, y7), (8, y8), (9, y9), (10, y10), (11, y11), (12, y12), (13, y13), (14, y14), (21, y21), (27, y27), (28, y28), (29, y29), (36, y36), (37, y37), (38, y38), (66, y66), (70, y70), (71, y71), (72, y72), (82, y82), (83, y83), (84, y84), (90, y90), (114, y114)] = [(0, y0), (1, y1), (2, y2), (3, y3), (4, y4), (5, y5), (6, y6), (7, y7), (8, y8), (9, y9), (10, y10), (11, y11), (12, y12), (13, y13), (14, y14), (21, y21), (27, y27), (28, y28), (29, y29), (36, y36), (37, y37), (38, y38), (66, y66), (70, y70), (71, y71), (72, y72), (82, y82), (83, y83), (84, y84), (90, z4), (114, y114)] := fun y0 y1 y2 y3 y4 y5 y6 y7 y8 y9 y10 y11 y12 y13 y14 y21 y27 y28 y29 y36 y37 y38 y66 y70 y71 y72 y82 y83 y84 y90 y114 z0 z1 z2 z3 z4 => rfl
              refine R_nil (tr _ _ _ _ _ _ _ _ _ _ _ _ _ _ _ _ _ _ _ _ _ _ _ _ _ _ _ _ _ _ _ _ _ _ _ _) ?_; clear tr
              refine then_n ?_
              refine cdd (fun h7 => ?_) (fun h7 => ?_)
              · try simp only [decide_eq_true_eq, decide_eq_false_iff_not, Bool.not_eq_true', Bool.not_eq_false', beq_iff_eq, beq_eq_false_iff_ne, ne_eq] at h7
                refine at_exit rfl ?_
                refine then_x ?_
                refine blk_x ?_
                refine then_n ?_
                refine rg rfl ?_
                refine Rq ?_
                refine Rq ?_
                have tr : ∀ y0 y1 y2 y3 y4 y5 y6 y7 y8 y9 y10 y11 y12 y13 y14 y21 y27 y28 y29 y36 y37 y38 y66 y70 y71 y72 y82 y83 y84 y90 y114 z0 z1 : AV, trim [(83, z1), (124, z0), (0, y0), (1, y1), (2, y2), (3, y3), (4, y4), (5, y5), (6, y6), (7, y7), (8, y8), (9, y9), (10, y10), (11, y11), (12, y12), (13, y13), (14, y14), (21, y21), (27, y27), (28, y28), (29, y29), (36, y36), (37, y37), (38, y38), (66, y66), (70, y70), (71, y71), (72, y72), (82, y82), (83, y83), (84, y84), (90, y90), (114, y114)] [(0, y0), (1, y1), (2, y2), (3, y3), (4, y4), (5, y5), (6, y6), (7, y7), (8, y8), (9, y9), (10, y10), (11, y11), (12, y12), (13, y13), (14, y14), (21, y21), (27, y27), (28, y28), (29, y29), (36, y36), (37, y37), (38, y38), (66, y66), (70, y70), (71, y71), (72, y72), (82, y82), (83, y83), (84, y84), (90, y90), (114, y114)] = [(0, y0), (1, y1), (2, y2), (3, y3), (4, y4), (5, y5), (6, y6), (7, y7), (8, y8), (9, y9), (10, y10), (11, y11), (12, y12), (13, y13), (14, y14), (21, y21), (27, y27), (28, y28), (29, y29), (36, y36), (37, y37), (38, y38), (66, y66), (70, y70), (71, y71), (72, y72), (82, y82), (83, z1), (84, y84), (90, y90), (114, y114)] := fun y0 y1 y2 y3 y4 y5 y6 y7 y8 y9 y10 y11 y12 y13 y14 y21 y27 y28 y29 y36 y37 y38 y66 y70 y71 y72 y82 y83 y84 y90 y114 z0 z1 => rfl
                refine R_nil (tr _ _ _ _ _ _ _ _ _ _ _ _ _ _ _ _ _ _ _ _ _ _ _ _ _ _ _ _ _ _ _ _ _) ?_; clear tr
                refine then_n ?_
                exact ⟨_, _, ⟨jn + 1, _, _, _, _, _, rfl, rfl, by exact q0, by exact qo, by exact qk, by exact qd, by exact qs, by exact qp, by exact hO, by omega, by exact hit_step hno (fun hh => by obtain ⟨hh1, hh2, hh3, hh4⟩ := hh; unfold potB at hh3 hh4; first | omega | (rw [hsu] at hh4; omega))⟩, by rfl, by omega⟩
              · try simp only [decide_eq_true_eq, decide_eq_false_iff_not, Bool.not_eq_true', Bool.not_eq_false', beq_iff_eq, beq_eq_false_iff_ne, ne_eq] at h7
                refine at_skip rfl ?_
                refine then_n ?_
                refine at_seq rfl ?_
                refine rl rfl rfl ?_
                have hcj := okc_gt st.c (j := jn) (by omega)
                have sta := aft_st st (j := jn) (by omega) (by omega)
                have hsa := sum_aft c jn (by omega)
                have hka := full_at hK hq0 sta
                have hia := idx_rng hq0 sta
                have hpa := pot_rng g (aft c jn) (by omega) jn
                refine Lq ?_
                refine L_q rfl (by simp (disch := first | omega | (simp only [List.length_map, List.length_append, List.length_set, List.length_cons, List.length_nil, List.length_take, List.length_drop]; omega)) only [go_sem, ↓reduceIte, Nat.reduceEqDiff, reduceCtorEq, q0, qo, qk, qd, qs, qp, hsx, hlx]; rfl) rfl ?_
                refine L_q rfl (by simp (disch := first | omega | (simp only [List.length_map, List.length_append, List.length_set, List.length_cons, List.length_nil, List.length_take, List.length_drop]; omega)) only [go_sem, ↓reduceIte, Nat.reduceEqDiff, reduceCtorEq, q0, qo, qk, qd, qs, qp, hsx, hlx]; rfl) rfl ?_
                refine Lq ?_
                refine L_nil ?_
                refine Ms ?_
                refine Rcall ?_
                refine ACall_eq (after_ok _ _ rows q la0 g c la st x (src_of hx qd) jn (by omega)) ?_
                refine R_end ?_
                refine Ms ?_
                refine Rcall ?_
                refine ACall_eq (index_ok _ _ rows q la0 g (aft c jn) jn sta _ (.inl rfl)) ?_
                refine R_end ?_
                refine M_nil ?_
                refine Rq ?_
                refine R_q rfl (by simp (disch := first | omega | (simp only [List.length_map, List.length_append, List.length_set, List.length_cons, List.length_nil, List.length_take, List.length_drop]; omega)) only [go_sem, ↓reduceIte, Nat.reduceEqDiff, reduceCtorEq, q0, qo, qk, qd, qs, qp, hsx, hlx]; rfl) ?_
                refine Rq ?_
                have tr : ∀ y0 y1 y2 y3 y4 y5 y6 y7 y8 y9 y10 y11 y12 y13 y14 y21 y27 y28 y29 y36 y37 y38 y66 y70 y71 y72 y82 y83 y84 y90 y114 z0 z1 z2 z3 z4 z5 z6 z7 z8 : AV, trim [(14, z8), (98, z7), (97, z6), (96, z5), (95, z4), (94, z3), (93, z2), (92, z1), (91, z0), (0, y0), (1, y1), (2, y2), (3, y3), (4, y4), (5, y5), (6, y6), (7, y7), (8, y8), (9, y9), (10, y10), (11, y11), (12, y12), (13, y13), (14, y14), (21, y21), (27, y27), (28, y28), (29, y29), (36, y36), (37, y37), (38, y38), (66, y66), (70, y70), (71, y71), (72, y72), (82, y82), (83, y83), (84, y84), (90, y90), (114, y114)] [(0, y0), (1, y1), (2, y2), (3, y3), (4, y4), (5, y5), (6, y6), (7, y7), (8, y8), (9, y9), (10, y10), (11, y11), (12, y12), (13, y13), (14, y14), (21, y21), (27, y27), (28, y28), (29, y29), (36, y36), (37, y37), (38, y38), (66, y66), (70, y70), (71, y71), (72, y72), (82, y82), (83, y83), (84, y84), (90, y90), (114, y114)] = [(0, y0), (1, y1), (2, y2), (3, y3), (4, y4), (5, y5), (6, y6), (7, y7), (8, y8), (9, y9), (10, y10), (11, y11), (12, y12), (13, y13), (14, z8), (21, y21), (27, y27), (28, y28), (29, y29), (36, y36), (37, y37), (38, y38), (66, y66), (70, y70), (71, y71), (72, y72), (82, y82), (83, y83), (84, y84), (90, y90), (114, y114)] := fun y0 y1 y2 y3 y4 y5 y6 y7 y8 y9 y10 y11 y12 y13 y14 y21 y27 y28 y29 y36 y37 y38 y66 y70 y71 y72 y82 y83 y84 y90 y114 z0 z1 z2 z3 z4 z5 z6 z7 z8 => rfl
                refine R_nil (tr _ _ _ _ _ _ _ _ _ _ _ _ _ _ _ _ _ _ _ _ _ _ _ _ _ _ _ _ _ _ _ _ _ _ _ _ _ _ _ _) ?_; clear tr
                refine then_n ?_
                refine at_seq rfl ?_
                refine rg rfl ?_
                have hrl := g5 u (by omega)
                have hce := cell_rng g u jn
                have hsu : (sumL c).toNat = u := by omega
                refine Rq ?_
                refine Rq ?_
                refine Rq ?_
                refine Rp_split (fun h8 => ?_) (fun h8 => ?_)
                · try simp only [decide_eq_true_eq, decide_eq_false_iff_not, Bool.not_eq_true', Bool.not_eq_false', beq_iff_eq, beq_eq_false_iff_ne, ne_eq] at h8
                  refine Ry ?_
                  refine Rq ?_
                  refine Ry ?_
                  refine R_q rfl (by simp (disch := first | omega | (simp only [List.length_map, List.length_append, List.length_set, List.length_cons, List.length_nil, List.length_take, List.length_drop]; omega)) only [go_sem, ↓reduceIte, Nat.reduceEqDiff, reduceCtorEq, q0, qo, qk, qd, qs, qp, hsx, hlx]; rfl) ?_
                  refine Ry ?_
                  refine Rq ?_
                  refine Ry ?_
                  refine Rq ?_
                  refine Ry ?_
                  refine R_q rfl (by simp (disch := first | omega | (simp only [List.length_map, List.length_append, List.length_set, List.length_cons, List.length_nil, List.length_take, List.length_drop]; omega)) only [go_sem, ↓reduceIte, Nat.reduceEqDiff, reduceCtorEq, q0, qo, qk, qd, qs, qp, hsx, hlx]; rfl) ?_
                  refine Ry ?_
                  refine Rq ?_
                  refine Ry ?_
                  refine Rq ?_
                  refine Ry ?_
                  refine R_q rfl (by simp (disch := first | omega | (simp only [List.length_map, List.length_append, List.length_set, List.length_cons, List.length_nil, List.length_take, List.length_drop]; omega)) only [go_sem, ↓reduceIte, Nat.reduceEqDiff, reduceCtorEq, q0, qo, qk, qd, qs, qp, hsx, hlx]; rfl) ?_
                  refine Ry ?_
                  refine Rq ?_
                  refine Ry ?_
                  refine Rq ?_
                  refine Ry ?_
                  refine Rq ?_
                  refine Ry ?_
                  refine Rq ?_
                  refine Rq ?_
                  have tr : ∀ y0 y1 y2 y3 y4 y5 y6 y7 y8 y9 y10 y11 y12 y13 y14 y21 y27 y28 y29 y36 y37 y38 y66 y70 y71 y72 y82 y83 y84 y90 y114 z0 z1 z2 z3 z4 z5 z6 z7 z8 z9 z10 z11 z12 z13 z14 z15 : AV, trim [(114, z15), (113, z14), (112, z13), (111, z12), (110, z11), (109, z10), (108, z9), (107, z8), (106, z7), (105, z6), (104, z5), (103, z4), (102, z3), (101, z2), (100, z1), (99, z0), (0, y0), (1, y1), (2, y2), (3, y3), (4, y4), (5, y5), (6, y6), (7, y7), (8, y8), (9, y9), (10, y10), (11, y11), (12, y12), (13, y13), (14, y14), (21, y21), (27, y27), (28, y28), (29, y29), (36, y36), (37, y37), (38, y38), (66, y66), (70, y70), (71, y71), (72, y72), (82, y82), (83, y83), (84, y84), (90, y90), (114, y114)] [(0, y0), (1, y1), (2, y2), (3, y3), (4, y4), (5, y5), (6, y6), (7, y7), (8, y8), (9, y9), (10, y10), (11, y11), (12, y12), (13, y13), (14, y14), (21, y21), (27, y27), (28, y28), (29, y29), (36, y36), (37, y37), (38, y38), (66, y66), (70, y70), (71, y71), (72, y72), (82, y82), (83, y83), (84, y84), (90, y90), (114, y114)] = [(0, y0), (1, y1), (2, y2), (3, y3), (4, y4), (5, y5), (6, y6), (7, y7), (8, y8), (9, y9), (10, y10), (11, y11), (12, y12), (13, y13), (14, y14), (21, y21), (27, y27), (28, y28), (29, y29), (36, y36), (37, y37), (38, y38), (66, y66), (70, y70), (71, y71), (72, y72), (82, y82), (83, y83), (84, y84), (90, y90), (114, z15)] := fun y0 y1 y2 y3 y4 y5 y6 y7 y8 y9 y10 y11 y12 y13 y14 y21 y27 y28 y29 y36 y37 y38 y66 y70 y71 y72 y82 y83 y84 y90 y114 z0 z1 z2 z3 z4 z5 z6 z7 z8 z9 z10 z11 z12 z13 z14 z15 => rfl
                  refine R_nil (tr _ _ _ _ _ _ _ _ _ _ _ _ _ _ _ _ _ _ _ _ _ _ _ _ _ _ _ _ _ _ _ _ _ _ _ _ _ _ _ _ _ _ _ _ _ _ _) ?_; clear tr
                  refine then_n ?_
                  refine cdd (fun h9 => ?_) (fun h9 => ?_)
                  · try simp only [decide_eq_true_eq, decide_eq_false_iff_not, Bool.not_eq_true', Bool.not_eq_false', beq_iff_eq, beq_eq_false_iff_ne, ne_eq] at h9
                    refine at_seq rfl ?_
                    refine rg rfl ?_
                    have hhit : Hit rows q c la jn := ⟨by omega, by omega, by unfold potB; omega, by unfold potB; rw [hsu]; omega⟩
                    refine Rq ?_
                    refine R_q rfl (by simp (disch := first | omega | (simp only [List.length_map, List.length_append, List.length_set, List.length_cons, List.length_nil, List.length_take, List.length_drop]; omega)) only [go_sem, ↓reduceIte, Nat.reduceEqDiff, reduceCtorEq, q0, qo, qk, qd, qs, qp, hsx, hlx]; rfl) ?_
                    refine Rq ?_
                    refine A_buildSlice (bs25 _ _ _ _ jn (by simp (disch := first | omega | (simp only [List.length_map, List.length_append, List.length_set, List.length_cons, List.length_nil, List.length_take, List.length_drop]; omega)) only [go_sem, ↓reduceIte, Nat.reduceEqDiff, reduceCtorEq, q0, qo, qk, qd, qs, qp])) ?_
                    intro HE ne
                    have ene := ne.len
                    have q0 := (ne.old _ (hget_lt q0)).trans q0
                    have qo := (ne.old _ (hget_lt qo)).trans qo
                    have qk := (ne.old _ (hget_lt qk)).trans qk
                    have qd := (ne.old _ (hget_lt qd)).trans qd
                    have qs := (ne.old _ (hget_lt qs)).trans qs
                    have qp := (ne.old _ (hget_lt qp)).trans qp
                    have qn := ne.new
                    have hO := hO.mono fun b hb k hk => (ne.old _ (hget_lt hk)).trans hk
                    have lq0 := hget_lt q0
                    have lqo := hget_lt qo
                    have lqk := hget_lt qk
                    have lqd := hget_lt qd
                    have lqs := hget_lt qs
                    have lqp := hget_lt qp
                    have lqn := hget_lt qn
                    obtain ⟨b, hbl, hap⟩ := outI_append (lim := H.length) hO qn (by omega) (by omega) (by omega)
                    refine A_append (by simp (disch := first | omega | (simp only [List.length_map, List.length_append, List.length_set, List.length_cons, List.length_nil, List.length_take, List.length_drop]; omega)) only [go_sem, ↓reduceIte, Nat.reduceEqDiff, reduceCtorEq, q0, qo, qk, qd, qs, qp]; exact hap) ?_
                    intro HF gf
                    have egf := gf.len
                    have q0 := (gf.old _ (by omega) lq0).trans q0
                    have qo := (gf.old _ (by omega) lqo).trans qo
                    have qk := (gf.old _ (by omega) lqk).trans qk
                    have qd := (gf.old _ (by omega) lqd).trans qd
                    have qs := (gf.old _ (by omega) lqs).trans qs
                    have qp := (gf.old _ (by omega) lqp).trans qp
                    have qw := gf.new
                    refine Rq ?_
                    have lq0 := hget_lt q0
                    have lqo := hget_lt qo
                    have lqk := hget_lt qk
                    have lqd := hget_lt qd
                    have lqs := hget_lt qs
                    have lqp := hget_lt qp
                    have lqw := hget_lt qw
                    refine A_store ty25 (by simp (disch := first | omega | (simp only [List.length_map, List.length_append, List.length_set, List.length_cons, List.length_nil, List.length_take, List.length_drop]; omega)) only [go_sem, ↓reduceIte, Nat.reduceEqDiff, reduceCtorEq, q0, qo, qk, qd, qs, qp, qw, hsx]; rfl) (by simp (disch := first | omega | (simp only [List.length_map, List.length_append, List.length_set, List.length_cons, List.length_nil, List.length_take, List.length_drop]; omega)) only [go_sem, ↓reduceIte, Nat.reduceEqDiff, reduceCtorEq, q0, qo, qk, qd, qs, qp, qw, hsx]; rfl) qp ⟨by omega, rfl, by first | exact Nat.le_refl _ | (show _ ≤ 3; decide)⟩ (k' := [AV.own 1 HE.length 0 (w.length + 1), AV.i (potB rows q (zeroC rows) la0), AV.own 1 H2.length 0 (stN rows q).toNat]) (rfl) ?_
                    intro HG wg
                    have ewg := wg.len
                    have q0 := (wg.old _ (by omega)).trans q0
                    have qo := (wg.old _ (by omega)).trans qo
                    have qk := (wg.old _ (by omega)).trans qk
                    have qd := (wg.old _ (by omega)).trans qd
                    have qs := (wg.old _ (by omega)).trans qs
                    have qw := (wg.old _ (by omega)).trans qw
                    have qp := wg.new
                    have tr : ∀ y0 y1 y2 y3 y4 y5 y6 y7 y8 y9 y10 y11 y12 y13 y14 y21 y27 y28 y29 y36 y37 y38 y66 y70 y71 y72 y82 y83 y84 y90 y114 z0 z1 z2 z3 z4 z5 : AV, trim [(120, z5), (119, z4), (118, z3), (117, z2), (116, z1), (115, z0), (0, y0), (1, y1), (2, y2), (3, y3), (4, y4), (5, y5), (6, y6), (7, y7), (8, y8), (9, y9), (10, y10), (11, y11), (12, y12), (13, y13), (14, y14), (21, y21), (27, y27), (28, y28), (29, y29), (36, y36), (37, y37), (38, y38), (66, y66), (70, y70), (71, y71), (72, y72), (82, y82), (83, y83), (84, y84), (90, y90), (114, y114)] [(0, y0), (1, y1), (2, y2), (3, y3), (4, y4), (5, y5), (6, y6), (7, y7), (8, y8), (9, y9), (10, y10), (11, y11), (12, y12), (13, y13), (14, y14), (21, y21), (27, y27), (28, y28), (29, y29), (36, y36), (37, y37), (38, y38), (66, y66), (70, y70), (71, y71), (72, y72), (82, y82), (83, y83), (84, y84), (90, y90), (114, y114)] = [(0, y0), (1, y1), (2, y2), (3, y3), (4, y4), (5, y5), (6, y6), (7, y7), (8, y8), (9, y9), (10, y10), (11, y11), (12, y12), (13, y13), (14, y14), (21, y21), (27, y27), (28, y28), (29, y29), (36, y36), (37, y37), (38, y38), (66, y66), (70, y70), (71, y71), (72, y72), (82, y82), (83, y83), (84, y84), (90, y90), (114, y114)] := fun y0 y1 y2 y3 y4 y5 y6 y7 y8 y9 y10 y11 y12 y13 y14 y21 y27 y28 y29 y36 y37 y38 y66 y70 y71 y72 y82 y83 y84 y90 y114 z0 z1 z2 z3 z4 z5 => rfl
                    refine R_nil (tr _ _ _ _ _ _ _ _ _ _ _ _ _ _ _ _ _ _ _ _ _ _ _ _ _ _ _ _ _ _ _ _ _ _ _ _ _) ?_; clear tr
                    refine then_n ?_
                    refine at_seq rfl ?_
                    refine rg rfl ?_
                    refine R_q rfl (by simp (disch := first | omega | (simp only [List.length_map, List.length_append, List.length_set, List.length_cons, List.length_nil, List.length_take, List.length_drop]; omega)) only [go_sem, ↓reduceIte, Nat.reduceEqDiff, reduceCtorEq, q0, qo, qk, qd, qs, qp, hsx, hlx]; rfl) ?_
                    refine Rq ?_
                    refine Rcall ?_
                    refine ACall_eq (after_ok _ _ rows q la0 g c la st x (src_of hx qd) jn (by omega)) ?_
                    have lq0 := hget_lt q0
                    have lqo := hget_lt qo
                    have lqk := hget_lt qk
                    have lqd := hget_lt qd
                    have lqs := hget_lt qs
                    have lqp := hget_lt qp
                    have lqw := hget_lt qw
                    refine A_store ty48 (by simp (disch := first | omega | (simp only [List.length_map, List.length_append, List.length_set, List.length_cons, List.length_nil, List.length_take, List.length_drop]; omega)) only [go_sem, ↓reduceIte, Nat.reduceEqDiff, reduceCtorEq, q0, qo, qk, qd, qs, qp, qw, hsx]; rfl) (by simp (disch := first | omega | (simp only [List.length_map, List.length_append, List.length_set, List.length_cons, List.length_nil, List.length_take, List.length_drop]; omega)) only [go_sem, ↓reduceIte, Nat.reduceEqDiff, reduceCtorEq, q0, qo, qk, qd, qs, qp, qw, hsx]; rfl) qs ⟨by omega, rfl, by first | exact Nat.le_refl _ | simp⟩ (k' := [intsAV (aft c jn), AV.i jn]) (rfl) ?_
                    intro HH wh
                    have ewh := wh.len
                    have q0 := (wh.old _ (by omega)).trans q0
                    have qo := (wh.old _ (by omega)).trans qo
                    have qk := (wh.old _ (by omega)).trans qk
                    have qd := (wh.old _ (by omega)).trans qd
                    have qp := (wh.old _ (by omega)).trans qp
                    have qw := (wh.old _ (by omega)).trans qw
                    have qs := wh.new
                    have tr : ∀ y0 y1 y2 y3 y4 y5 y6 y7 y8 y9 y10 y11 y12 y13 y14 y21 y27 y28 y29 y36 y37 y38 y66 y70 y71 y72 y82 y83 y84 y90 y114 z0 z1 z2 : AV, trim [(123, z2), (122, z1), (121, z0), (0, y0), (1, y1), (2, y2), (3, y3), (4, y4), (5, y5), (6, y6), (7, y7), (8, y8), (9, y9), (10, y10), (11, y11), (12, y12), (13, y13), (14, y14), (21, y21), (27, y27), (28, y28), (29, y29), (36, y36), (37, y37), (38, y38), (66, y66), (70, y70), (71, y71), (72, y72), (82, y82), (83, y83), (84, y84), (90, y90), (114, y114)] [(0, y0), (1, y1), (2, y2), (3, y3), (4, y4), (5, y5), (6, y6), (7, y7), (8, y8), (9, y9), (10, y10), (11, y11), (12, y12), (13, y13), (14, y14), (21, y21), (27, y27), (28, y28), (29, y29), (36, y36), (37, y37), (38, y38), (66, y66), (70, y70), (71, y71), (72, y72), (82, y82), (83, y83), (84, y84), (90, y90), (114, y114)] = [(0, y0), (1, y1), (2, y2), (3, y3), (4, y4), (5, y5), (6, y6), (7, y7), (8, y8), (9, y9), (10, y10), (11, y11), (12, y12), (13, y13), (14, y14), (21, y21), (27, y27), (28, y28), (29, y29), (36, y36), (37, y37), (38, y38), (66, y66), (70, y70), (71, y71), (72, y72), (82, y82), (83, y83), (84, y84), (90, y90), (114, y114)] := fun y0 y1 y2 y3 y4 y5 y6 y7 y8 y9 y10 y11 y12 y13 y14 y21 y27 y28 y29 y36 y37 y38 y66 y70 y71 y72 y82 y83 y84 y90 y114 z0 z1 z2 => rfl
                    refine R_nil (tr _ _ _ _ _ _ _ _ _ _ _ _ _ _ _ _ _ _ _ _ _ _ _ _ _ _ _ _ _ _ _ _ _ _) ?_; clear tr
                    refine then_n ?_
                    refine at_exit rfl ?_
                    refine blk_p (by decide) ?_
                    refine then_x ?_
                    refine then_x ?_
                    refine blk_x ?_
                    refine blk_n ?_
                    refine then_n ?_
                    refine rg rfl ?_
                    refine Rq ?_
                    refine Rq ?_
                    have tr : ∀ y0 y1 y2 y3 y4 y5 y6 y7 y8 y9 y10 y11 y12 y13 y14 y21 y27 y28 y29 y36 y37 y38 y66 y70 y71 y72 y82 y83 y84 y90 y114 z0 z1 : AV, trim [(71, z1), (125, z0), (0, y0), (1, y1), (2, y2), (3, y3), (4, y4), (5, y5), (6, y6), (7, y7), (8, y8), (9, y9), (10, y10), (11, y11), (12, y12), (13, y13), (14, y14), (21, y21), (27, y27), (28, y28), (29, y29), (36, y36), (37, y37), (38, y38), (66, y66), (70, y70), (71, y71), (72, y72), (82, y82), (83, y83), (84, y84), (90, y90), (114, y114)] [(0, y0), (1, y1), (2, y2), (3, y3), (4, y4), (5, y5), (6, y6), (7, y7), (8, y8), (9, y9), (10, y10), (11, y11), (12, y12), (13, y13), (14, y14), (21, y21), (27, y27), (28, y28), (29, y29), (36, y36), (37, y37), (38, y38), (66, y66), (70, y70), (71, y71), (72, y72), (82, y82), (83, y83), (84, y84), (90, y90), (114, y114)] = [(0, y0), (1, y1), (2, y2), (3, y3), (4, y4), (5, y5), (6, y6), (7, y7), (8, y8), (9, y9), (10, y10), (11, y11), (12, y12), (13, y13), (14, y14), (21, y21), (27, y27), (28, y28), (29, y29), (36, y36), (37, y37), (38, y38), (66, y66), (70, y70), (71, z1), (72, y72), (82, y82), (83, y83), (84, y84), (90, y90), (114, y114)] := fun y0 y1 y2 y3 y4 y5 y6 y7 y8 y9 y10 y11 y12 y13 y14 y21 y27 y28 y29 y36 y37 y38 y66 y70 y71 y72 y82 y83 y84 y90 y114 z0 z1 => rfl
                    refine R_nil (tr _ _ _ _ _ _ _ _ _ _ _ _ _ _ _ _ _ _ _ _ _ _ _ _ _ _ _ _ _ _ _ _ _) ?_; clear tr
                    refine then_n ?_
                    exact ⟨_, _, ⟨u + 1, (w ++ [(jn : Int)]), (AV.own 1 HE.length 0 (w.length + 1)), (aft c jn), jn, (intsAV (aft c jn)), _, _, _, _, _, _, _, _, _, _, rfl, rfl, by exact q0, by exact qo, by exact qk, by exact qd, by exact qs, by exact qp, by exact (show OutI HU.length HH (AV.own 1 HE.length 0 (w.length + 1)) (w ++ [(jn : Int)]) from OutI.new qw (by omega) (by rw [List.length_append]; rfl)), by omega, by rw [List.length_append, hw]; rfl, by exact .snoc hR ⟨by omega, hhit, hno⟩, by exact sta, by omega, by exact hhit.2.2.1, by exact .inl rfl⟩, by rfl, by omega⟩
                  · try simp only [decide_eq_true_eq, decide_eq_false_iff_not, Bool.not_eq_true', Bool.not_eq_false', beq_iff_eq, beq_eq_false_iff_ne, ne_eq] at h9
                    refine at_skip rfl ?_
                    refine blk_n ?_
                    refine then_n ?_
                    refine rg rfl ?_
                    refine Rq ?_
                    refine Rq ?_
                    have tr : ∀ y0 y1 y2 y3 y4 y5 y6 y7 y8 y9 y10 y11 y12 y13 y14 y21 y27 y28 y29 y36 y37 y38 y66 y70 y71 y72 y82 y83 y84 y90 y114 z0 z1 : AV, trim [(83, z1), (124, z0), (0, y0), (1, y1), (2, y2), (3, y3), (4, y4), (5, y5), (6, y6), (7, y7), (8, y8), (9, y9), (10, y10), (11, y11), (12, y12), (13, y13), (14, y14), (21, y21), (27, y27), (28, y28), (29, y29), (36, y36), (37, y37), (38, y38), (66, y66), (70, y70), (71, y71), (72, y72), (82, y82), (83, y83), (84, y84), (90, y90), (114, y114)] [(0, y0), (1, y1), (2, y2), (3, y3), (4, y4), (5, y5), (6, y6), (7, y7), (8, y8), (9, y9), (10, y10), (11, y11), (12, y12), (13, y13), (14, y14), (21, y21), (27, y27), (28, y28), (29, y29), (36, y36), (37, y37), (38, y38), (66, y66), (70, y70), (71, y71), (72, y72), (82, y82), (83, y83), (84, y84), (90, y90), (114, y114)] = [(0, y0), (1, y1), (2, y2), (3, y3), (4, y4), (5, y5), (6, y6), (7, y7), (8, y8), (9, y9), (10, y10), (11, y11), (12, y12), (13, y13), (14, y14), (21, y21), (27, y27), (28, y28), (29, y29), (36, y36), (37, y37), (38, y38), (66, y66), (70, y70), (71, y71), (72, y72), (82, y82), (83, z1), (84, y84), (90, y90), (114, y114)] := fun y0 y1 y2 y3 y4 y5 y6 y7 y8 y9 y10 y11 y12 y13 y14 y21 y27 y28 y29 y36 y37 y38 y66 y70 y71 y72 y82 y83 y84 y90 y114 z0 z1 => rfl
                    refine R_nil (tr _ _ _ _ _ _ _ _ _ _ _ _ _ _ _ _ _ _ _ _ _ _ _ _ _ _ _ _ _ _ _ _ _) ?_; clear tr
                    refine then_n ?_
                    exact ⟨_, _, ⟨jn + 1, _, _, _, _, _, rfl, rfl, by exact q0, by exact qo, by exact qk, by exact qd, by exact qs, by exact qp, by exact hO, by omega, by exact hit_step hno (fun hh => by obtain ⟨hh1, hh2, hh3, hh4⟩ := hh; unfold potB at hh3 hh4; first | omega | (rw [hsu] at hh4; omega))⟩, by rfl, by omega⟩
                · try simp only [decide_eq_true_eq, decide_eq_false_iff_not, Bool.not_eq_true', Bool.not_eq_false', beq_iff_eq, beq_eq_false_iff_ne, ne_eq] at h8
                  refine Rn ?_
                  refine Rn ?_
                  refine Rn ?_
                  refine Rn ?_
                  refine Rn ?_
                  refine Rn ?_
                  refine Rn ?_
                  refine Rn ?_
                  refine Rn ?_
                  refine Rn ?_
                  refine Rn ?_
                  refine Rn ?_
                  refine Rq ?_
                  have tr : ∀ y0 y1 y2 y3 y4 y5 y6 y7 y8 y9 y10 y11 y12 y13 y14 y21 y27 y28 y29 y36 y37 y38 y66 y70 y71 y72 y82 y83 y84 y90 y114 z0 z1 z2 z3 z4 z5 z6 z7 z8 z9 z10 z11 z12 z13 z14 z15 : AV, trim [(114, z15), (113, z14), (112, z13), (111, z12), (110, z11), (109, z10), (108, z9), (107, z8), (106, z7), (105, z6), (104, z5), (103, z4), (102, z3), (101, z2), (100, z1), (99, z0), (0, y0), (1, y1), (2, y2), (3, y3), (4, y4), (5, y5), (6, y6), (7, y7), (8, y8), (9, y9), (10, y10), (11, y11), (12, y12), (13, y13), (14, y14), (21, y21), (27, y27), (28, y28), (29, y29), (36, y36), (37, y37), (38, y38), (66, y66), (70, y70), (71, y71), (72, y72), (82, y82), (83, y83), (84, y84), (90, y90), (114, y114)] [(0, y0), (1, y1), (2, y2), (3, y3), (4, y4), (5, y5), (6, y6), (7, y7), (8, y8), (9, y9), (10, y10), (11, y11), (12, y12), (13, y13), (14, y14), (21, y21), (27, y27), (28, y28), (29, y29), (36, y36), (37, y37), (38, y38), (66, y66), (70, y70), (71, y71), (72, y72), (82, y82), (83, y83), (84, y84), (90, y90), (114, y114)] = [(0, y0), (1, y1), (2, y2), (3, y3), (4, y4), (5, y5), (6, y6), (7, y7), (8, y8), (9, y9), (10, y10), (11, y11), (12, y12), (13, y13), (14, y14), (21, y21), (27, y27), (28, y28), (29, y29), (36, y36), (37, y37), (38, y38), (66, y66), (70, y70), (71, y71), (72, y72), (82, y82), (83, y83), (84, y84), (90, y90), (114, z15)] := fun y0 y1 y2 y3 y4 y5 y6 y7 y8 y9 y10 y11 y12 y13 y14 y21 y27 y28 y29 y36 y37 y38 y66 y70 y71 y72 y82 y83 y84 y90 y114 z0 z1 z2 z3 z4 z5 z6 z7 z8 z9 z10 z11 z12 z13 z14 z15 => rfl
                  refine R_nil (tr _ _ _ _ _ _ _ _ _ _ _ _ _ _ _ _ _ _ _ _ _ _ _ _ _ _ _ _ _ _ _ _ _ _ _ _ _ _ _ _ _ _ _ _ _ _ _) ?_; clear tr
                  refine then_n ?_
                  refine cdf ?_
                  refine at_skip rfl ?_
                  refine blk_n ?_
                  refine then_n ?_
                  refine rg rfl ?_
                  refine Rq ?_
                  refine Rq ?_
                  have tr : ∀ y0 y1 y2 y3 y4 y5 y6 y7 y8 y9 y10 y11 y12 y13 y14 y21 y27 y28 y29 y36 y37 y38 y66 y70 y71 y72 y82 y83 y84 y90 y114 z0 z1 : AV, trim [(83, z1), (124, z0), (0, y0), (1, y1), (2, y2), (3, y3), (4, y4), (5, y5), (6, y6), (7, y7), (8, y8), (9, y9), (10, y10), (11, y11), (12, y12), (13, y13), (14, y14), (21, y21), (27, y27), (28, y28), (29, y29), (36, y36), (37, y37), (38, y38), (66, y66), (70, y70), (71, y71), (72, y72), (82, y82), (83, y83), (84, y84), (90, y90), (114, y114)] [(0, y0), (1, y1), (2, y2), (3, y3), (4, y4), (5, y5), (6, y6), (7, y7), (8, y8), (9, y9), (10, y10), (11, y11), (12, y12), (13, y13), (14, y14), (21, y21), (27, y27), (28, y28), (29, y29), (36, y36), (37, y37), (38, y38), (66, y66), (70, y70), (71, y71), (72, y72), (82, y82), (83, y83), (84, y84), (90, y90), (114, y114)] = [(0, y0), (1, y1), (2, y2), (3, y3), (4, y4), (5, y5), (6, y6), (7, y7), (8, y8), (9, y9), (10, y10), (11, y11), (12, y12), (13, y13), (14, y14), (21, y21), (27, y27), (28, y28), (29, y29), (36, y36), (37, y37), (38, y38), (66, y66), (70, y70), (71, y71), (72, y72), (82, y82), (83, z1), (84, y84), (90, y90), (114, y114)] := fun y0 y1 y2 y3 y4 y5 y6 y7 y8 y9 y10 y11 y12 y13 y14 y21 y27 y28 y29 y36 y37 y38 y66 y70 y71 y72 y82 y83 y84 y90 y114 z0 z1 => rfl
                  refine R_nil (tr _ _ _ _ _ _ _ _ _ _ _ _ _ _ _ _ _ _ _ _ _ _ _ _ _ _ _ _ _ _ _ _ _) ?_; clear tr
                  refine then_n ?_
                  exact ⟨_, _, ⟨jn + 1, _, _, _, _, _, rfl, rfl, by exact q0, by exact qo, by exact qk, by exact qd, by exact qs, by exact qp, by exact hO, by omega, by exact hit_step hno (fun hh => by obtain ⟨hh1, hh2, hh3, hh4⟩ := hh; unfold potB at hh3 hh4; first | omega | (rw [hsu] at hh4; omega))⟩, by rfl, by omega⟩
            · try simp only [decide_eq_true_eq, decide_eq_false_iff_not, Bool.not_eq_true', Bool.not_eq_false', beq_iff_eq, beq_eq_false_iff_ne, ne_eq] at h6
              refine at_exit rfl ?_
              refine then_x ?_
              refine then_x ?_
              refine blk_x ?_
              refine blk_n ?_
              refine then_n ?_
              refine rg rfl ?_
              exact (hit_ex hcl (by omega) hpc (fun k hk => hno k (by omega))).elim
          · try simp only [decide_eq_true_eq, decide_eq_false_iff_not, Bool.not_eq_true', Bool.not_eq_false', beq_iff_eq, beq_eq_false_iff_ne, ne_eq] at h5
            refine at_exit rfl ?_
            refine then_x ?_
            refine then_x ?_
            refine blk_x ?_
            refine then_n ?_
            refine at_seq rfl ?_
            refine rg rfl ?_
            obtain ⟨bw, rfl, hbw, qw⟩ := hO.resolve_left (fun hh => by rw [hh.1] at hw; simp at hw; omega)
            refine R_q rfl (by simp (disch := first | omega | (simp only [List.length_map, List.length_append, List.length_set, List.length_cons, List.length_nil, List.length_take, List.length_drop]; omega)) only [go_sem, ↓reduceIte, Nat.reduceEqDiff, reduceCtorEq, q0, qo, qk, qd, qs, qp, hsx, hlx]; rfl) ?_
            have lq0 := hget_lt q0
            have lqo := hget_lt qo
            have lqk := hget_lt qk
            have lqd := hget_lt qd
            have lqs := hget_lt qs
            have lqp := hget_lt qp
            have lqw := hget_lt qw
            refine A_store ty37 (by simp (disch := first | omega | (simp only [List.length_map, List.length_append, List.length_set, List.length_cons, List.length_nil, List.length_take, List.length_drop]; omega)) only [go_sem, ↓reduceIte, Nat.reduceEqDiff, reduceCtorEq, q0, qo, qk, qd, qs, qp, qw, hsx]; rfl) (by simp (disch := first | omega | (simp only [List.length_map, List.length_append, List.length_set, List.length_cons, List.length_nil, List.length_take, List.length_drop]; omega)) only [go_sem, ↓reduceIte, Nat.reduceEqDiff, reduceCtorEq, q0, qo, qk, qd, qs, qp, qw, hsx]; rfl) qo ⟨by omega, rfl, by first | exact Nat.le_refl _ | simp⟩ (k' := [AV.own 1 bw 0 w.length, AV.i (potB rows q (zeroC rows) la0), AV.own 1 H2.length 0 (stN rows q).toNat]) (rfl) ?_
            intro HZ wz
            have ewz := wz.len
            have q0 := (wz.old _ (by omega)).trans q0
            have qk := (wz.old _ (by omega)).trans qk
            have qd := (wz.old _ (by omega)).trans qd
            have qs := (wz.old _ (by omega)).trans qs
            have qp := (wz.old _ (by omega)).trans qp
            have qw := (wz.old _ (by omega)).trans qw
            have qo := wz.new
            refine Rq ?_
            have tr : ∀ y0 y1 y2 y3 y4 y5 y6 y7 y8 y9 y10 y11 y12 y13 y14 y21 y27 y28 y29 y36 y37 y38 y66 y70 y71 y72 y82 y83 y84 y90 y114 z0 z1 : AV, trim [(3, z1), (126, z0), (0, y0), (1, y1), (2, y2), (3, y3), (4, y4), (5, y5), (6, y6), (7, y7), (8, y8), (9, y9), (10, y10), (11, y11), (12, y12), (13, y13), (14, y14), (21, y21), (27, y27), (28, y28), (29, y29), (36, y36), (37, y37), (38, y38), (66, y66), (70, y70), (71, y71), (72, y72), (82, y82), (83, y83), (84, y84), (90, y90), (114, y114)] [(0, y0), (1, y1), (2, y2), (3, y3), (4, y4), (5, y5), (6, y6), (7, y7), (8, y8), (9, y9), (10, y10), (11, y11), (12, y12), (13, y13), (14, y14), (21, y21), (27, y27), (28, y28), (29, y29), (36, y36), (37, y37), (38, y38), (66, y66), (70, y70), (71, y71), (72, y72), (82, y82), (83, y83), (84, y84), (90, y90), (114, y114)] = [(0, y0), (1, y1), (2, y2), (3, z1), (4, y4), (5, y5), (6, y6), (7, y7), (8, y8), (9, y9), (10, y10), (11, y11), (12, y12), (13, y13), (14, y14), (21, y21), (27, y27), (28, y28), (29, y29), (36, y36), (37, y37), (38, y38), (66, y66), (70, y70), (71, y71), (72, y72), (82, y82), (83, y83), (84, y84), (90, y90), (114, y114)] := fun y0 y1 y2 y3 y4 y5 y6 y7 y8 y9 y10 y11 y12 y13 y14 y21 y27 y28 y29 y36 y37 y38 y66 y70 y71 y72 y82 y83 y84 y90 y114 z0 z1 => rfl
            refine R_nil (tr _ _ _ _ _ _ _ _ _ _ _ _ _ _ _ _ _ _ _ _ _ _ _ _ _ _ _ _ _ _ _ _ _) ?_; clear tr
            refine then_n ?_
            refine at_ret rfl ?_
            refine fin_pure (rs := [.cell 2 37, .tmp 3]) rfl (by simp only [go_sem, ↓reduceIte, Nat.reduceEqDiff, qo]; rfl) rfl ?_
            refine ⟨?_, rfl⟩
            have hh : PlanR rows q la0 (.tup [.agg [frz HZ H.length 6 (.own 1 bw 0 w.length), AV.i (potB rows q (zeroC rows) la0), frz HZ H.length 6 (.own 1 H2.length 0 (stN rows q).toNat)], AV.i 0]) := by
              rw [frz_ownI (l := w) (by omega) qw rfl, frz_ownI (l := K) (by omega) qk (by omega)]
              exact .plan (by assumption) (by unfold potB; omega) hK hR (by omega)
            exact hh

end Go.Proofs.Ytmkalakojfpfgaa
