/-
  Walks of chapter 46. The steps are written by program (walk.py).
-/
import Derived.Test.YtmkalakojfpfgaaWF
import Derived.Test.YtmkalakojfpfgaaWE
import Derived.Test.YtmkalakojfpfgaaRE
import Derived.Test.YtmkalakojfpfgaaQ9
set_option linter.unusedSimpArgs false
set_option linter.unusedVariables false
set_option maxHeartbeats 40000000
set_option maxRecDepth 4000
namespace Go.Proofs.Ytmkalakojfpfgaa
open Go Go.Am

theorem raccept_ok (lim : Nat) (H : Heap) (rows : Tb) (q la0 : Int) (w : List Int) (v : Int) (P : List Int) (x y y0 : AV) (hx : frz H 0 7 x = intsAV w) (hy0 : frz H 0 7 y0 = y) (hsy : storable y = true) (hy : (costS rows q la0 w).2 = 0 → y = intsAV P) (hPL : P.length ≤ 9223372036854775807) (hPb : ∀ i, gt P i ≤ 9223372036854775807) :
    ACall sig lim 20 [.agg [rowsAV rows, AV.i q, AV.i la0], .agg [x, AV.i v, y0]] H fun r H' => r = AV.i (acceptS rows q la0 w v P) ∧ H' = H := by
  have hargs : [.agg [rowsAV rows, AV.i q, AV.i la0], .agg [x, AV.i v, y0]].map (frz H 0 8) = [.agg [rowsAV rows, AV.i q, AV.i la0], .agg [intsAV w, AV.i v, y]] := by
    show [AV.agg [frz H 0 7 (rowsAV rows), AV.i q, AV.i la0], AV.agg [frz H 0 7 x, AV.i v, frz H 0 7 y0]] = _
    rw [frz_rowsA, hx, hy0]
  have q0 : True := trivial
  have qp : True := trivial
  have qs : True := trivial
  refine ACall_data (fa := fa20) rfl rfl rfl rfl hargs ?_
  have tr : ∀ a0 a1 : AV, env0 fa20.keep [a0, a1] = [(0, a0), (1, a1), (2, .any), (3, .any), (4, .any), (5, .any), (6, .any), (7, .any), (8, .any), (9, .any), (10, .any), (11, .any), (12, .any), (13, .any), (14, .any), (18, .any), (28, .any), (33, .any), (39, .any), (41, .any), (42, .any), (43, .any), (44, .any), (63, .any), (66, .any), (67, .any), (68, .any), (69, .any), (78, .any), (79, .any), (80, .any), (86, .any), (115, .any), (127, .any)] := fun a0 a1 => rfl
  refine W_to (tr _ _) ?_; clear tr
  refine at_seq rfl ?_
  refine rg rfl ?_
  refine A_box rfl (by simp (disch := first | omega | (simp only [List.length_map, List.length_append, List.length_set, List.length_cons, List.length_nil, List.length_take, List.length_drop]; omega)) only [go_sem, ↓reduceIte, Nat.reduceEqDiff, reduceCtorEq]; rfl) ?_
  intro H1 n1
  have en1 := n1.len
  have q0 := n1.new
  rw [List.length_nil] at en1 q0
  refine A_box rfl (by simp (disch := first | omega | (simp only [List.length_map, List.length_append, List.length_set, List.length_cons, List.length_nil, List.length_take, List.length_drop]; omega)) only [go_sem, ↓reduceIte, Nat.reduceEqDiff, reduceCtorEq, hsy]; rfl) ?_
  intro H2 n2
  have en2 := n2.len
  have q0 := (n2.old _ (hget_lt q0)).trans q0
  have qp := n2.new
  rw [en1] at qp en2
  refine Rq ?_
  have tr : ∀ y0 y1 y2 y3 y4 y5 y6 y7 y8 y9 y10 y11 y12 y13 y14 y18 y28 y33 y39 y41 y42 y43 y44 y63 y66 y67 y68 y69 y78 y79 y80 y86 y115 y127 z0 z1 z2 : AV, trim [(4, z2), (3, z1), (2, z0), (0, y0), (1, y1), (2, y2), (3, y3), (4, y4), (5, y5), (6, y6), (7, y7), (8, y8), (9, y9), (10, y10), (11, y11), (12, y12), (13, y13), (14, y14), (18, y18), (28, y28), (33, y33), (39, y39), (41, y41), (42, y42), (43, y43), (44, y44), (63, y63), (66, y66), (67, y67), (68, y68), (69, y69), (78, y78), (79, y79), (80, y80), (86, y86), (115, y115), (127, y127)] [(0, y0), (1, y1), (2, y2), (3, y3), (4, y4), (5, y5), (6, y6), (7, y7), (8, y8), (9, y9), (10, y10), (11, y11), (12, y12), (13, y13), (14, y14), (18, y18), (28, y28), (33, y33), (39, y39), (41, y41), (42, y42), (43, y43), (44, y44), (63, y63), (66, y66), (67, y67), (68, y68), (69, y69), (78, y78), (79, y79), (80, y80), (86, y86), (115, y115), (127, y127)] = [(0, y0), (1, y1), (2, z0), (3, z1), (4, z2), (5, y5), (6, y6), (7, y7), (8, y8), (9, y9), (10, y10), (11, y11), (12, y12), (13, y13), (14, y14), (18, y18), (28, y28), (33, y33), (39, y39), (41, y41), (42, y42), (43, y43), (44, y44), (63, y63), (66, y66), (67, y67), (68, y68), (69, y69), (78, y78), (79, y79), (80, y80), (86, y86), (115, y115), (127, y127)] := fun y0 y1 y2 y3 y4 y5 y6 y7 y8 y9 y10 y11 y12 y13 y14 y18 y28 y33 y39 y41 y42 y43 y44 y63 y66 y67 y68 y69 y78 y79 y80 y86 y115 y127 z0 z1 z2 => rfl
  refine R_nil (tr _ _ _ _ _ _ _ _ _ _ _ _ _ _ _ _ _ _ _ _ _ _ _ _ _ _ _ _ _ _ _ _ _ _ _ _ _) ?_; clear tr
  refine then_n ?_
  refine at_seq rfl ?_
  refine at_seq rfl ?_
  refine rg rfl ?_
  refine R_q rfl (by simp (disch := first | omega | (simp only [List.length_map, List.length_append, List.length_set, List.length_cons, List.length_nil, List.length_take, List.length_drop]; omega)) only [go_sem, ↓reduceIte, Nat.reduceEqDiff, reduceCtorEq, hsy, en1, q0, qp, qs]; rfl) ?_
  refine Rcall ?_
  refine ACall_eq (rcheck_ok _ _ rows q la0) ?_
  refine Rq ?_
  have tr : ∀ y0 y1 y2 y3 y4 y5 y6 y7 y8 y9 y10 y11 y12 y13 y14 y18 y28 y33 y39 y41 y42 y43 y44 y63 y66 y67 y68 y69 y78 y79 y80 y86 y115 y127 z0 z1 z2 : AV, trim [(5, z2), (16, z1), (15, z0), (0, y0), (1, y1), (2, y2), (3, y3), (4, y4), (5, y5), (6, y6), (7, y7), (8, y8), (9, y9), (10, y10), (11, y11), (12, y12), (13, y13), (14, y14), (18, y18), (28, y28), (33, y33), (39, y39), (41, y41), (42, y42), (43, y43), (44, y44), (63, y63), (66, y66), (67, y67), (68, y68), (69, y69), (78, y78), (79, y79), (80, y80), (86, y86), (115, y115), (127, y127)] [(0, y0), (1, y1), (2, y2), (3, y3), (4, y4), (5, y5), (6, y6), (7, y7), (8, y8), (9, y9), (10, y10), (11, y11), (12, y12), (13, y13), (14, y14), (18, y18), (28, y28), (33, y33), (39, y39), (41, y41), (42, y42), (43, y43), (44, y44), (63, y63), (66, y66), (67, y67), (68, y68), (69, y69), (78, y78), (79, y79), (80, y80), (86, y86), (115, y115), (127, y127)] = [(0, y0), (1, y1), (2, y2), (3, y3), (4, y4), (5, z2), (6, y6), (7, y7), (8, y8), (9, y9), (10, y10), (11, y11), (12, y12), (13, y13), (14, y14), (18, y18), (28, y28), (33, y33), (39, y39), (41, y41), (42, y42), (43, y43), (44, y44), (63, y63), (66, y66), (67, y67), (68, y68), (69, y69), (78, y78), (79, y79), (80, y80), (86, y86), (115, y115), (127, y127)] := fun y0 y1 y2 y3 y4 y5 y6 y7 y8 y9 y10 y11 y12 y13 y14 y18 y28 y33 y39 y41 y42 y43 y44 y63 y66 y67 y68 y69 y78 y79 y80 y86 y115 y127 z0 z1 z2 => rfl
  refine R_nil (tr _ _ _ _ _ _ _ _ _ _ _ _ _ _ _ _ _ _ _ _ _ _ _ _ _ _ _ _ _ _ _ _ _ _ _ _ _) ?_; clear tr
  refine then_n ?_
  refine at_seq rfl ?_
  refine rg rfl ?_
  refine Rq ?_
  refine Rq ?_
  have tr : ∀ y0 y1 y2 y3 y4 y5 y6 y7 y8 y9 y10 y11 y12 y13 y14 y18 y28 y33 y39 y41 y42 y43 y44 y63 y66 y67 y68 y69 y78 y79 y80 y86 y115 y127 z0 z1 : AV, trim [(18, z1), (17, z0), (0, y0), (1, y1), (2, y2), (3, y3), (4, y4), (5, y5), (6, y6), (7, y7), (8, y8), (9, y9), (10, y10), (11, y11), (12, y12), (13, y13), (14, y14), (18, y18), (28, y28), (33, y33), (39, y39), (41, y41), (42, y42), (43, y43), (44, y44), (63, y63), (66, y66), (67, y67), (68, y68), (69, y69), (78, y78), (79, y79), (80, y80), (86, y86), (115, y115), (127, y127)] [(0, y0), (1, y1), (2, y2), (3, y3), (4, y4), (5, y5), (6, y6), (7, y7), (8, y8), (9, y9), (10, y10), (11, y11), (12, y12), (13, y13), (14, y14), (18, y18), (28, y28), (33, y33), (39, y39), (41, y41), (42, y42), (43, y43), (44, y44), (63, y63), (66, y66), (67, y67), (68, y68), (69, y69), (78, y78), (79, y79), (80, y80), (86, y86), (115, y115), (127, y127)] = [(0, y0), (1, y1), (2, y2), (3, y3), (4, y4), (5, y5), (6, y6), (7, y7), (8, y8), (9, y9), (10, y10), (11, y11), (12, y12), (13, y13), (14, y14), (18, z1), (28, y28), (33, y33), (39, y39), (41, y41), (42, y42), (43, y43), (44, y44), (63, y63), (66, y66), (67, y67), (68, y68), (69, y69), (78, y78), (79, y79), (80, y80), (86, y86), (115, y115), (127, y127)] := fun y0 y1 y2 y3 y4 y5 y6 y7 y8 y9 y10 y11 y12 y13 y14 y18 y28 y33 y39 y41 y42 y43 y44 y63 y66 y67 y68 y69 y78 y79 y80 y86 y115 y127 z0 z1 => rfl
  refine R_nil (tr _ _ _ _ _ _ _ _ _ _ _ _ _ _ _ _ _ _ _ _ _ _ _ _ _ _ _ _ _ _ _ _ _ _ _ _) ?_; clear tr
  refine then_n ?_
  refine cdd (fun h1 => ?_) (fun h1 => ?_)
  · try simp only [decide_eq_true_eq, decide_eq_false_iff_not, Bool.not_eq_true', Bool.not_eq_false', beq_iff_eq, beq_eq_false_iff_ne, ne_eq] at h1
    refine at_seq rfl ?_
    refine rg rfl ?_
    refine Rq ?_
    refine Rq ?_
    have tr : ∀ y0 y1 y2 y3 y4 y5 y6 y7 y8 y9 y10 y11 y12 y13 y14 y18 y28 y33 y39 y41 y42 y43 y44 y63 y66 y67 y68 y69 y78 y79 y80 y86 y115 y127 z0 z1 : AV, trim [(4, z1), (19, z0), (0, y0), (1, y1), (2, y2), (3, y3), (4, y4), (5, y5), (6, y6), (7, y7), (8, y8), (9, y9), (10, y10), (11, y11), (12, y12), (13, y13), (14, y14), (18, y18), (28, y28), (33, y33), (39, y39), (41, y41), (42, y42), (43, y43), (44, y44), (63, y63), (66, y66), (67, y67), (68, y68), (69, y69), (78, y78), (79, y79), (80, y80), (86, y86), (115, y115), (127, y127)] [(0, y0), (1, y1), (2, y2), (3, y3), (4, y4), (5, y5), (6, y6), (7, y7), (8, y8), (9, y9), (10, y10), (11, y11), (12, y12), (13, y13), (14, y14), (18, y18), (28, y28), (33, y33), (39, y39), (41, y41), (42, y42), (43, y43), (44, y44), (63, y63), (66, y66), (67, y67), (68, y68), (69, y69), (78, y78), (79, y79), (80, y80), (86, y86), (115, y115), (127, y127)] = [(0, y0), (1, y1), (2, y2), (3, y3), (4, z1), (5, y5), (6, y6), (7, y7), (8, y8), (9, y9), (10, y10), (11, y11), (12, y12), (13, y13), (14, y14), (18, y18), (28, y28), (33, y33), (39, y39), (41, y41), (42, y42), (43, y43), (44, y44), (63, y63), (66, y66), (67, y67), (68, y68), (69, y69), (78, y78), (79, y79), (80, y80), (86, y86), (115, y115), (127, y127)] := fun y0 y1 y2 y3 y4 y5 y6 y7 y8 y9 y10 y11 y12 y13 y14 y18 y28 y33 y39 y41 y42 y43 y44 y63 y66 y67 y68 y69 y78 y79 y80 y86 y115 y127 z0 z1 => rfl
    refine R_nil (tr _ _ _ _ _ _ _ _ _ _ _ _ _ _ _ _ _ _ _ _ _ _ _ _ _ _ _ _ _ _ _ _ _ _ _ _) ?_; clear tr
    refine then_n ?_
    refine at_ret rfl ?_
    refine then_r ?_
    refine fpure ?_
    refine ⟨rfl, ?_, rfl⟩
    first | (rw [acc_chk (by assumption)]; done) | (rw [acc_cost (by assumption)]; done) | (rw [acc_sum (by assumption) (by omega)]; done) | (rw [acc_form (by assumption) (by omega) (fun hh => by have := hh.1; omega)]; done) | (rw [acc_form (by assumption) (by omega) (fun hh => by have := hh.2 u (by omega); unfold FormK at this; omega)]; done) | (rw [acc_bound (by assumption) (by omega) hfa (by omega : u < P.length) (fun hh => by have hh2 := hh j (by omega) (by omega) (by omega) (by omega) (by omega); omega)]; done) | (rw [acc_last (by assumption) (by omega) hfa (fun k hk => hb k (by omega)), if_pos (by omega)]; done) | (rw [acc_last (by assumption) (by omega) hfa (fun k hk => hb k (by omega)), if_neg (by omega)]; done)
  · try simp only [decide_eq_true_eq, decide_eq_false_iff_not, Bool.not_eq_true', Bool.not_eq_false', beq_iff_eq, beq_eq_false_iff_ne, ne_eq] at h1
    refine at_skip rfl ?_
    refine then_n ?_
    refine at_seq rfl ?_
    refine rg rfl ?_
    have g : Good rows q la0 := good_of (by assumption : checkS rows q la0 = 0)
    obtain ⟨g1, g2, g3, g4, g5, g6, g7, g8, g9, g10, g11⟩ := id g
    have hq0 : 0 ≤ q := by omega
    have hz := zero_st g
    have hzi := zero_idx rows q la0
    have hzr := idx_rng hq0 hz
    have hzp := pot_rng g (zeroC rows) (by rw [sum_zero]; exact Int.le_refl _) la0
    have hcv : costS rows q la0 w = costV rows q la0 w := by rw [costS, if_neg (fun hh => hh (by assumption))]
    have hnum := num_eq g
    have hnb := num_bd g
    refine R_q rfl (by simp (disch := first | omega | (simp only [List.length_map, List.length_append, List.length_set, List.length_cons, List.length_nil, List.length_take, List.length_drop]; omega)) only [go_sem, ↓reduceIte, Nat.reduceEqDiff, reduceCtorEq, hsy, en1, q0, qp, qs]; rfl) ?_
    refine Rq ?_
    refine R_q rfl (by simp (disch := first | omega | (simp only [List.length_map, List.length_append, List.length_set, List.length_cons, List.length_nil, List.length_take, List.length_drop]; omega)) only [go_sem, ↓reduceIte, Nat.reduceEqDiff, reduceCtorEq, hsy, en1, q0, qp, qs]; rfl) ?_
    refine Rcall ?_
    refine ACall_eq (rcost_ok _ _ rows q la0 w g1 g2 g3 g4 g5 g6 g7 g8) ?_
    rewrite [← hcv]
    refine Rq ?_
    refine Rq ?_
    refine Rq ?_
    refine Rq ?_
    refine Rq ?_
    have tr : ∀ y0 y1 y2 y3 y4 y5 y6 y7 y8 y9 y10 y11 y12 y13 y14 y18 y28 y33 y39 y41 y42 y43 y44 y63 y66 y67 y68 y69 y78 y79 y80 y86 y115 y127 z0 z1 z2 z3 z4 z5 z6 z7 z8 : AV, trim [(7, z8), (6, z7), (26, z6), (25, z5), (20, z4), (24, z3), (23, z2), (22, z1), (21, z0), (0, y0), (1, y1), (2, y2), (3, y3), (4, y4), (5, y5), (6, y6), (7, y7), (8, y8), (9, y9), (10, y10), (11, y11), (12, y12), (13, y13), (14, y14), (18, y18), (28, y28), (33, y33), (39, y39), (41, y41), (42, y42), (43, y43), (44, y44), (63, y63), (66, y66), (67, y67), (68, y68), (69, y69), (78, y78), (79, y79), (80, y80), (86, y86), (115, y115), (127, y127)] [(0, y0), (1, y1), (2, y2), (3, y3), (4, y4), (5, y5), (6, y6), (7, y7), (8, y8), (9, y9), (10, y10), (11, y11), (12, y12), (13, y13), (14, y14), (18, y18), (28, y28), (33, y33), (39, y39), (41, y41), (42, y42), (43, y43), (44, y44), (63, y63), (66, y66), (67, y67), (68, y68), (69, y69), (78, y78), (79, y79), (80, y80), (86, y86), (115, y115), (127, y127)] = [(0, y0), (1, y1), (2, y2), (3, y3), (4, y4), (5, y5), (6, z7), (7, z8), (8, y8), (9, y9), (10, y10), (11, y11), (12, y12), (13, y13), (14, y14), (18, y18), (28, y28), (33, y33), (39, y39), (41, y41), (42, y42), (43, y43), (44, y44), (63, y63), (66, y66), (67, y67), (68, y68), (69, y69), (78, y78), (79, y79), (80, y80), (86, y86), (115, y115), (127, y127)] := fun y0 y1 y2 y3 y4 y5 y6 y7 y8 y9 y10 y11 y12 y13 y14 y18 y28 y33 y39 y41 y42 y43 y44 y63 y66 y67 y68 y69 y78 y79 y80 y86 y115 y127 z0 z1 z2 z3 z4 z5 z6 z7 z8 => rfl
    refine R_nil (tr _ _ _ _ _ _ _ _ _ _ _ _ _ _ _ _ _ _ _ _ _ _ _ _ _ _ _ _ _ _ _ _ _ _ _ _ _ _ _ _ _ _ _) ?_; clear tr
    refine then_n ?_
    refine at_seq rfl ?_
    refine at_seq rfl ?_
    refine rg rfl ?_
    refine Rq ?_
    refine Rq ?_
    have tr : ∀ y0 y1 y2 y3 y4 y5 y6 y7 y8 y9 y10 y11 y12 y13 y14 y18 y28 y33 y39 y41 y42 y43 y44 y63 y66 y67 y68 y69 y78 y79 y80 y86 y115 y127 z0 z1 : AV, trim [(28, z1), (27, z0), (0, y0), (1, y1), (2, y2), (3, y3), (4, y4), (5, y5), (6, y6), (7, y7), (8, y8), (9, y9), (10, y10), (11, y11), (12, y12), (13, y13), (14, y14), (18, y18), (28, y28), (33, y33), (39, y39), (41, y41), (42, y42), (43, y43), (44, y44), (63, y63), (66, y66), (67, y67), (68, y68), (69, y69), (78, y78), (79, y79), (80, y80), (86, y86), (115, y115), (127, y127)] [(0, y0), (1, y1), (2, y2), (3, y3), (4, y4), (5, y5), (6, y6), (7, y7), (8, y8), (9, y9), (10, y10), (11, y11), (12, y12), (13, y13), (14, y14), (18, y18), (28, y28), (33, y33), (39, y39), (41, y41), (42, y42), (43, y43), (44, y44), (63, y63), (66, y66), (67, y67), (68, y68), (69, y69), (78, y78), (79, y79), (80, y80), (86, y86), (115, y115), (127, y127)] = [(0, y0), (1, y1), (2, y2), (3, y3), (4, y4), (5, y5), (6, y6), (7, y7), (8, y8), (9, y9), (10, y10), (11, y11), (12, y12), (13, y13), (14, y14), (18, y18), (28, z1), (33, y33), (39, y39), (41, y41), (42, y42), (43, y43), (44, y44), (63, y63), (66, y66), (67, y67), (68, y68), (69, y69), (78, y78), (79, y79), (80, y80), (86, y86), (115, y115), (127, y127)] := fun y0 y1 y2 y3 y4 y5 y6 y7 y8 y9 y10 y11 y12 y13 y14 y18 y28 y33 y39 y41 y42 y43 y44 y63 y66 y67 y68 y69 y78 y79 y80 y86 y115 y127 z0 z1 => rfl
    refine R_nil (tr _ _ _ _ _ _ _ _ _ _ _ _ _ _ _ _ _ _ _ _ _ _ _ _ _ _ _ _ _ _ _ _ _ _ _ _) ?_; clear tr
    refine then_n ?_
    refine cdd (fun h2 => ?_) (fun h2 => ?_)
    · try simp only [decide_eq_true_eq, decide_eq_false_iff_not, Bool.not_eq_true', Bool.not_eq_false', beq_iff_eq, beq_eq_false_iff_ne, ne_eq] at h2
      refine at_seq rfl ?_
      refine rg rfl ?_
      refine Rq ?_
      refine Rq ?_
      have tr : ∀ y0 y1 y2 y3 y4 y5 y6 y7 y8 y9 y10 y11 y12 y13 y14 y18 y28 y33 y39 y41 y42 y43 y44 y63 y66 y67 y68 y69 y78 y79 y80 y86 y115 y127 z0 z1 : AV, trim [(4, z1), (29, z0), (0, y0), (1, y1), (2, y2), (3, y3), (4, y4), (5, y5), (6, y6), (7, y7), (8, y8), (9, y9), (10, y10), (11, y11), (12, y12), (13, y13), (14, y14), (18, y18), (28, y28), (33, y33), (39, y39), (41, y41), (42, y42), (43, y43), (44, y44), (63, y63), (66, y66), (67, y67), (68, y68), (69, y69), (78, y78), (79, y79), (80, y80), (86, y86), (115, y115), (127, y127)] [(0, y0), (1, y1), (2, y2), (3, y3), (4, y4), (5, y5), (6, y6), (7, y7), (8, y8), (9, y9), (10, y10), (11, y11), (12, y12), (13, y13), (14, y14), (18, y18), (28, y28), (33, y33), (39, y39), (41, y41), (42, y42), (43, y43), (44, y44), (63, y63), (66, y66), (67, y67), (68, y68), (69, y69), (78, y78), (79, y79), (80, y80), (86, y86), (115, y115), (127, y127)] = [(0, y0), (1, y1), (2, y2), (3, y3), (4, z1), (5, y5), (6, y6), (7, y7), (8, y8), (9, y9), (10, y10), (11, y11), (12, y12), (13, y13), (14, y14), (18, y18), (28, y28), (33, y33), (39, y39), (41, y41), (42, y42), (43, y43), (44, y44), (63, y63), (66, y66), (67, y67), (68, y68), (69, y69), (78, y78), (79, y79), (80, y80), (86, y86), (115, y115), (127, y127)] := fun y0 y1 y2 y3 y4 y5 y6 y7 y8 y9 y10 y11 y12 y13 y14 y18 y28 y33 y39 y41 y42 y43 y44 y63 y66 y67 y68 y69 y78 y79 y80 y86 y115 y127 z0 z1 => rfl
      refine R_nil (tr _ _ _ _ _ _ _ _ _ _ _ _ _ _ _ _ _ _ _ _ _ _ _ _ _ _ _ _ _ _ _ _ _ _ _ _) ?_; clear tr
      refine then_n ?_
      refine at_ret rfl ?_
      refine then_r ?_
      refine fpure ?_
      refine ⟨rfl, ?_, rfl⟩
      first | (rw [acc_chk (by assumption)]; done) | (rw [acc_cost (by assumption)]; done) | (rw [acc_sum (by assumption) (by omega)]; done) | (rw [acc_form (by assumption) (by omega) (fun hh => by have := hh.1; omega)]; done) | (rw [acc_form (by assumption) (by omega) (fun hh => by have := hh.2 u (by omega); unfold FormK at this; omega)]; done) | (rw [acc_bound (by assumption) (by omega) hfa (by omega : u < P.length) (fun hh => by have hh2 := hh j (by omega) (by omega) (by omega) (by omega) (by omega); omega)]; done) | (rw [acc_last (by assumption) (by omega) hfa (fun k hk => hb k (by omega)), if_pos (by omega)]; done) | (rw [acc_last (by assumption) (by omega) hfa (fun k hk => hb k (by omega)), if_neg (by omega)]; done)
    · try simp only [decide_eq_true_eq, decide_eq_false_iff_not, Bool.not_eq_true', Bool.not_eq_false', beq_iff_eq, beq_eq_false_iff_ne, ne_eq] at h2
      refine at_skip rfl ?_
      refine then_n ?_
      refine at_seq rfl ?_
      refine at_seq rfl ?_
      refine rg rfl ?_
      have he : (costS rows q la0 w).2 = 0 := by assumption
      obtain rfl := hy he
      refine Rq ?_
      refine R_q rfl (by simp (disch := first | omega | (simp only [List.length_map, List.length_append, List.length_set, List.length_cons, List.length_nil, List.length_take, List.length_drop]; omega)) only [go_sem, ↓reduceIte, Nat.reduceEqDiff, reduceCtorEq, hsy, en1, q0, qp, qs]; rfl) ?_
      refine Rq ?_
      refine Rq ?_
      have tr : ∀ y0 y1 y2 y3 y4 y5 y6 y7 y8 y9 y10 y11 y12 y13 y14 y18 y28 y33 y39 y41 y42 y43 y44 y63 y66 y67 y68 y69 y78 y79 y80 y86 y115 y127 z0 z1 z2 z3 : AV, trim [(33, z3), (32, z2), (31, z1), (30, z0), (0, y0), (1, y1), (2, y2), (3, y3), (4, y4), (5, y5), (6, y6), (7, y7), (8, y8), (9, y9), (10, y10), (11, y11), (12, y12), (13, y13), (14, y14), (18, y18), (28, y28), (33, y33), (39, y39), (41, y41), (42, y42), (43, y43), (44, y44), (63, y63), (66, y66), (67, y67), (68, y68), (69, y69), (78, y78), (79, y79), (80, y80), (86, y86), (115, y115), (127, y127)] [(0, y0), (1, y1), (2, y2), (3, y3), (4, y4), (5, y5), (6, y6), (7, y7), (8, y8), (9, y9), (10, y10), (11, y11), (12, y12), (13, y13), (14, y14), (18, y18), (28, y28), (33, y33), (39, y39), (41, y41), (42, y42), (43, y43), (44, y44), (63, y63), (66, y66), (67, y67), (68, y68), (69, y69), (78, y78), (79, y79), (80, y80), (86, y86), (115, y115), (127, y127)] = [(0, y0), (1, y1), (2, y2), (3, y3), (4, y4), (5, y5), (6, y6), (7, y7), (8, y8), (9, y9), (10, y10), (11, y11), (12, y12), (13, y13), (14, y14), (18, y18), (28, y28), (33, z3), (39, y39), (41, y41), (42, y42), (43, y43), (44, y44), (63, y63), (66, y66), (67, y67), (68, y68), (69, y69), (78, y78), (79, y79), (80, y80), (86, y86), (115, y115), (127, y127)] := fun y0 y1 y2 y3 y4 y5 y6 y7 y8 y9 y10 y11 y12 y13 y14 y18 y28 y33 y39 y41 y42 y43 y44 y63 y66 y67 y68 y69 y78 y79 y80 y86 y115 y127 z0 z1 z2 z3 => rfl
      refine R_nil (tr _ _ _ _ _ _ _ _ _ _ _ _ _ _ _ _ _ _ _ _ _ _ _ _ _ _ _ _ _ _ _ _ _ _ _ _ _ _) ?_; clear tr
      refine then_n ?_
      refine cdd (fun h3 => ?_) (fun h3 => ?_)
      · try simp only [decide_eq_true_eq, decide_eq_false_iff_not, Bool.not_eq_true', Bool.not_eq_false', beq_iff_eq, beq_eq_false_iff_ne, ne_eq] at h3
        refine at_seq rfl ?_
        refine rg rfl ?_
        refine Rq ?_
        have tr : ∀ y0 y1 y2 y3 y4 y5 y6 y7 y8 y9 y10 y11 y12 y13 y14 y18 y28 y33 y39 y41 y42 y43 y44 y63 y66 y67 y68 y69 y78 y79 y80 y86 y115 y127 z0 : AV, trim [(4, z0), (0, y0), (1, y1), (2, y2), (3, y3), (4, y4), (5, y5), (6, y6), (7, y7), (8, y8), (9, y9), (10, y10), (11, y11), (12, y12), (13, y13), (14, y14), (18, y18), (28, y28), (33, y33), (39, y39), (41, y41), (42, y42), (43, y43), (44, y44), (63, y63), (66, y66), (67, y67), (68, y68), (69, y69), (78, y78), (79, y79), (80, y80), (86, y86), (115, y115), (127, y127)] [(0, y0), (1, y1), (2, y2), (3, y3), (4, y4), (5, y5), (6, y6), (7, y7), (8, y8), (9, y9), (10, y10), (11, y11), (12, y12), (13, y13), (14, y14), (18, y18), (28, y28), (33, y33), (39, y39), (41, y41), (42, y42), (43, y43), (44, y44), (63, y63), (66, y66), (67, y67), (68, y68), (69, y69), (78, y78), (79, y79), (80, y80), (86, y86), (115, y115), (127, y127)] = [(0, y0), (1, y1), (2, y2), (3, y3), (4, z0), (5, y5), (6, y6), (7, y7), (8, y8), (9, y9), (10, y10), (11, y11), (12, y12), (13, y13), (14, y14), (18, y18), (28, y28), (33, y33), (39, y39), (41, y41), (42, y42), (43, y43), (44, y44), (63, y63), (66, y66), (67, y67), (68, y68), (69, y69), (78, y78), (79, y79), (80, y80), (86, y86), (115, y115), (127, y127)] := fun y0 y1 y2 y3 y4 y5 y6 y7 y8 y9 y10 y11 y12 y13 y14 y18 y28 y33 y39 y41 y42 y43 y44 y63 y66 y67 y68 y69 y78 y79 y80 y86 y115 y127 z0 => rfl
        refine R_nil (tr _ _ _ _ _ _ _ _ _ _ _ _ _ _ _ _ _ _ _ _ _ _ _ _ _ _ _ _ _ _ _ _ _ _ _) ?_; clear tr
        refine then_n ?_
        refine at_ret rfl ?_
        refine then_r ?_
        refine fpure ?_
        refine ⟨rfl, ?_, rfl⟩
        first | (rw [acc_chk (by assumption)]; done) | (rw [acc_cost (by assumption)]; done) | (rw [acc_sum (by assumption) (by omega)]; done) | (rw [acc_form (by assumption) (by omega) (fun hh => by have := hh.1; omega)]; done) | (rw [acc_form (by assumption) (by omega) (fun hh => by have := hh.2 u (by omega); unfold FormK at this; omega)]; done) | (rw [acc_bound (by assumption) (by omega) hfa (by omega : u < P.length) (fun hh => by have hh2 := hh j (by omega) (by omega) (by omega) (by omega) (by omega); omega)]; done) | (rw [acc_last (by assumption) (by omega) hfa (fun k hk => hb k (by omega)), if_pos (by omega)]; done) | (rw [acc_last (by assumption) (by omega) hfa (fun k hk => hb k (by omega)), if_neg (by omega)]; done)
      · try simp only [decide_eq_true_eq, decide_eq_false_iff_not, Bool.not_eq_true', Bool.not_eq_false', beq_iff_eq, beq_eq_false_iff_ne, ne_eq] at h3
        refine at_skip rfl ?_
        refine then_n ?_
        refine at_seq rfl ?_
        refine at_seq rfl ?_
        refine rd rfl rfl ?_
        refine Qq ?_
        refine Q_q rfl (by simp (disch := first | omega | (simp only [List.length_map, List.length_append, List.length_set, List.length_cons, List.length_nil, List.length_take, List.length_drop]; omega)) only [go_sem, ↓reduceIte, Nat.reduceEqDiff, reduceCtorEq, hsy, en1, q0, qp, qs]; rfl) ?_
        refine Qq ?_
        refine Q_q rfl (by simp (disch := first | omega | (simp only [List.length_map, List.length_append, List.length_set, List.length_cons, List.length_nil, List.length_take, List.length_drop]; omega)) only [go_sem, ↓reduceIte, Nat.reduceEqDiff, reduceCtorEq, hsy, en1, q0, qp, qs]; rfl) ?_
        refine Qcall ?_
        refine ACall_eq (size_ok _ _ rows q la0 (by omega) (by omega) (by omega) (by omega) (by omega)) ?_
        rewrite [sz_ok g11]
        refine ⟨rfl, ?_⟩
        refine Qq ?_
        refine Q_nil ?_
        have tr : ∀ y0 y1 y2 y3 y4 y5 y6 y7 y8 y9 y10 y11 y12 y13 y14 y18 y28 y33 y39 y41 y42 y43 y44 y63 y66 y67 y68 y69 y78 y79 y80 y86 y115 y127 z0 z1 z2 z3 z4 z5 : AV, trim [(39, z5), (38, z4), (37, z3), (36, z2), (35, z1), (34, z0), (0, y0), (1, y1), (2, y2), (3, y3), (4, y4), (5, y5), (6, y6), (7, y7), (8, y8), (9, y9), (10, y10), (11, y11), (12, y12), (13, y13), (14, y14), (18, y18), (28, y28), (33, y33), (39, y39), (41, y41), (42, y42), (43, y43), (44, y44), (63, y63), (66, y66), (67, y67), (68, y68), (69, y69), (78, y78), (79, y79), (80, y80), (86, y86), (115, y115), (127, y127)] [(0, y0), (1, y1), (2, y2), (3, y3), (4, y4), (5, y5), (6, y6), (7, y7), (8, y8), (9, y9), (10, y10), (11, y11), (12, y12), (13, y13), (14, y14), (18, y18), (28, y28), (33, y33), (39, y39), (41, y41), (42, y42), (43, y43), (44, y44), (63, y63), (66, y66), (67, y67), (68, y68), (69, y69), (78, y78), (79, y79), (80, y80), (86, y86), (115, y115), (127, y127)] = [(0, y0), (1, y1), (2, y2), (3, y3), (4, y4), (5, y5), (6, y6), (7, y7), (8, y8), (9, y9), (10, y10), (11, y11), (12, y12), (13, y13), (14, y14), (18, y18), (28, y28), (33, y33), (39, z5), (41, y41), (42, y42), (43, y43), (44, y44), (63, y63), (66, y66), (67, y67), (68, y68), (69, y69), (78, y78), (79, y79), (80, y80), (86, y86), (115, y115), (127, y127)] := fun y0 y1 y2 y3 y4 y5 y6 y7 y8 y9 y10 y11 y12 y13 y14 y18 y28 y33 y39 y41 y42 y43 y44 y63 y66 y67 y68 y69 y78 y79 y80 y86 y115 y127 z0 z1 z2 z3 z4 z5 => rfl
        refine R_nil (tr _ _ _ _ _ _ _ _ _ _ _ _ _ _ _ _ _ _ _ _ _ _ _ _ _ _ _ _ _ _ _ _ _ _ _ _ _ _ _ _) ?_; clear tr
        refine then_n ?_
        refine cdd (fun h4 => ?_) (fun h4 => ?_)
        · try simp only [decide_eq_true_eq, decide_eq_false_iff_not, Bool.not_eq_true', Bool.not_eq_false', beq_iff_eq, beq_eq_false_iff_ne, ne_eq] at h4
          refine at_seq rfl ?_
          refine rg rfl ?_
          refine Rq ?_
          have tr : ∀ y0 y1 y2 y3 y4 y5 y6 y7 y8 y9 y10 y11 y12 y13 y14 y18 y28 y33 y39 y41 y42 y43 y44 y63 y66 y67 y68 y69 y78 y79 y80 y86 y115 y127 z0 : AV, trim [(4, z0), (0, y0), (1, y1), (2, y2), (3, y3), (4, y4), (5, y5), (6, y6), (7, y7), (8, y8), (9, y9), (10, y10), (11, y11), (12, y12), (13, y13), (14, y14), (18, y18), (28, y28), (33, y33), (39, y39), (41, y41), (42, y42), (43, y43), (44, y44), (63, y63), (66, y66), (67, y67), (68, y68), (69, y69), (78, y78), (79, y79), (80, y80), (86, y86), (115, y115), (127, y127)] [(0, y0), (1, y1), (2, y2), (3, y3), (4, y4), (5, y5), (6, y6), (7, y7), (8, y8), (9, y9), (10, y10), (11, y11), (12, y12), (13, y13), (14, y14), (18, y18), (28, y28), (33, y33), (39, y39), (41, y41), (42, y42), (43, y43), (44, y44), (63, y63), (66, y66), (67, y67), (68, y68), (69, y69), (78, y78), (79, y79), (80, y80), (86, y86), (115, y115), (127, y127)] = [(0, y0), (1, y1), (2, y2), (3, y3), (4, z0), (5, y5), (6, y6), (7, y7), (8, y8), (9, y9), (10, y10), (11, y11), (12, y12), (13, y13), (14, y14), (18, y18), (28, y28), (33, y33), (39, y39), (41, y41), (42, y42), (43, y43), (44, y44), (63, y63), (66, y66), (67, y67), (68, y68), (69, y69), (78, y78), (79, y79), (80, y80), (86, y86), (115, y115), (127, y127)] := fun y0 y1 y2 y3 y4 y5 y6 y7 y8 y9 y10 y11 y12 y13 y14 y18 y28 y33 y39 y41 y42 y43 y44 y63 y66 y67 y68 y69 y78 y79 y80 y86 y115 y127 z0 => rfl
          refine R_nil (tr _ _ _ _ _ _ _ _ _ _ _ _ _ _ _ _ _ _ _ _ _ _ _ _ _ _ _ _ _ _ _ _ _ _ _) ?_; clear tr
          refine then_n ?_
          refine at_ret rfl ?_
          refine then_r ?_
          refine fpure ?_
          refine ⟨rfl, ?_, rfl⟩
          first | (rw [acc_chk (by assumption)]; done) | (rw [acc_cost (by assumption)]; done) | (rw [acc_sum (by assumption) (by omega)]; done) | (rw [acc_form (by assumption) (by omega) (fun hh => by have := hh.1; omega)]; done) | (rw [acc_form (by assumption) (by omega) (fun hh => by have := hh.2 u (by omega); unfold FormK at this; omega)]; done) | (rw [acc_bound (by assumption) (by omega) hfa (by omega : u < P.length) (fun hh => by have hh2 := hh j (by omega) (by omega) (by omega) (by omega) (by omega); omega)]; done) | (rw [acc_last (by assumption) (by omega) hfa (fun k hk => hb k (by omega)), if_pos (by omega)]; done) | (rw [acc_last (by assumption) (by omega) hfa (fun k hk => hb k (by omega)), if_neg (by omega)]; done)
        · try simp only [decide_eq_true_eq, decide_eq_false_iff_not, Bool.not_eq_true', Bool.not_eq_false', beq_iff_eq, beq_eq_false_iff_ne, ne_eq] at h4
          refine at_skip rfl ?_
          refine then_n ?_
          refine at_seq rfl ?_
          refine at_seq rfl ?_
          refine rg rfl ?_
          refine Rq ?_
          refine R_q rfl (by simp (disch := first | omega | (simp only [List.length_map, List.length_append, List.length_set, List.length_cons, List.length_nil, List.length_take, List.length_drop]; omega)) only [go_sem, ↓reduceIte, Nat.reduceEqDiff, reduceCtorEq, hsy, en1, q0, qp, qs]; rfl) ?_
          refine Rq ?_
          refine Rq ?_
          have tr : ∀ y0 y1 y2 y3 y4 y5 y6 y7 y8 y9 y10 y11 y12 y13 y14 y18 y28 y33 y39 y41 y42 y43 y44 y63 y66 y67 y68 y69 y78 y79 y80 y86 y115 y127 z0 z1 z2 z3 : AV, trim [(43, z3), (42, z2), (41, z1), (40, z0), (0, y0), (1, y1), (2, y2), (3, y3), (4, y4), (5, y5), (6, y6), (7, y7), (8, y8), (9, y9), (10, y10), (11, y11), (12, y12), (13, y13), (14, y14), (18, y18), (28, y28), (33, y33), (39, y39), (41, y41), (42, y42), (43, y43), (44, y44), (63, y63), (66, y66), (67, y67), (68, y68), (69, y69), (78, y78), (79, y79), (80, y80), (86, y86), (115, y115), (127, y127)] [(0, y0), (1, y1), (2, y2), (3, y3), (4, y4), (5, y5), (6, y6), (7, y7), (8, y8), (9, y9), (10, y10), (11, y11), (12, y12), (13, y13), (14, y14), (18, y18), (28, y28), (33, y33), (39, y39), (41, y41), (42, y42), (43, y43), (44, y44), (63, y63), (66, y66), (67, y67), (68, y68), (69, y69), (78, y78), (79, y79), (80, y80), (86, y86), (115, y115), (127, y127)] = [(0, y0), (1, y1), (2, y2), (3, y3), (4, y4), (5, y5), (6, y6), (7, y7), (8, y8), (9, y9), (10, y10), (11, y11), (12, y12), (13, y13), (14, y14), (18, y18), (28, y28), (33, y33), (39, y39), (41, z1), (42, z2), (43, z3), (44, y44), (63, y63), (66, y66), (67, y67), (68, y68), (69, y69), (78, y78), (79, y79), (80, y80), (86, y86), (115, y115), (127, y127)] := fun y0 y1 y2 y3 y4 y5 y6 y7 y8 y9 y10 y11 y12 y13 y14 y18 y28 y33 y39 y41 y42 y43 y44 y63 y66 y67 y68 y69 y78 y79 y80 y86 y115 y127 z0 z1 z2 z3 => rfl
          refine R_nil (tr _ _ _ _ _ _ _ _ _ _ _ _ _ _ _ _ _ _ _ _ _ _ _ _ _ _ _ _ _ _ _ _ _ _ _ _ _ _) ?_; clear tr
          refine then_n ?_
          refine at_block rfl ?_
          refine loop_n rfl (fun mm kv H' => ∃ u : Nat, ∃ x4 x8 x9 x44 x63 : AV, (kv = [(4, x4), (8, x8), (9, x9), (43, AV.i u), (44, x44), (63, x63)]) ∧ (mm = P.length - u) ∧ (H' = H2) ∧ (u ≤ P.length) ∧ (∀ k, k < u → FormK rows q P k)) ⟨0, _, _, _, _, _, rfl, rfl, rfl, by omega, by intro k hk; omega⟩ (by rfl) ?_
          rintro mm kv H' ⟨u, x4, x8, x9, x44, x63, rfl, rfl, rfl, hu, hf⟩
          have tr : ∀ y0 y1 y2 y3 y4 y5 y6 y7 y8 y9 y10 y11 y12 y13 y14 y18 y28 y33 y39 y41 y42 y43 y44 y63 y66 y67 y68 y69 y78 y79 y80 y86 y115 y127 z4 z8 z9 z43 z44 z63 : AV, upd [(0, y0), (1, y1), (2, y2), (3, y3), (4, y4), (5, y5), (6, y6), (7, y7), (8, y8), (9, y9), (10, y10), (11, y11), (12, y12), (13, y13), (14, y14), (18, y18), (28, y28), (33, y33), (39, y39), (41, y41), (42, y42), (43, y43), (44, y44), (63, y63), (66, y66), (67, y67), (68, y68), (69, y69), (78, y78), (79, y79), (80, y80), (86, y86), (115, y115), (127, y127)] [(4, z4), (8, z8), (9, z9), (43, z43), (44, z44), (63, z63)] = [(0, y0), (1, y1), (2, y2), (3, y3), (4, z4), (5, y5), (6, y6), (7, y7), (8, z8), (9, z9), (10, y10), (11, y11), (12, y12), (13, y13), (14, y14), (18, y18), (28, y28), (33, y33), (39, y39), (41, y41), (42, y42), (43, z43), (44, z44), (63, z63), (66, y66), (67, y67), (68, y68), (69, y69), (78, y78), (79, y79), (80, y80), (86, y86), (115, y115), (127, y127)] := fun y0 y1 y2 y3 y4 y5 y6 y7 y8 y9 y10 y11 y12 y13 y14 y18 y28 y33 y39 y41 y42 y43 y44 y63 y66 y67 y68 y69 y78 y79 y80 y86 y115 y127 z4 z8 z9 z43 z44 z63 => rfl
          refine W_to (tr _ _ _ _ _ _ _ _ _ _ _ _ _ _ _ _ _ _ _ _ _ _ _ _ _ _ _ _ _ _ _ _ _ _ _ _ _ _ _ _) ?_; clear tr
          refine at_seq rfl ?_
          refine rg rfl ?_
          refine Rq ?_
          have tr : ∀ y0 y1 y2 y3 y4 y5 y6 y7 y8 y9 y10 y11 y12 y13 y14 y18 y28 y33 y39 y41 y42 y43 y44 y63 y66 y67 y68 y69 y78 y79 y80 y86 y115 y127 z0 : AV, trim [(44, z0), (0, y0), (1, y1), (2, y2), (3, y3), (4, y4), (5, y5), (6, y6), (7, y7), (8, y8), (9, y9), (10, y10), (11, y11), (12, y12), (13, y13), (14, y14), (18, y18), (28, y28), (33, y33), (39, y39), (41, y41), (42, y42), (43, y43), (44, y44), (63, y63), (66, y66), (67, y67), (68, y68), (69, y69), (78, y78), (79, y79), (80, y80), (86, y86), (115, y115), (127, y127)] [(0, y0), (1, y1), (2, y2), (3, y3), (4, y4), (5, y5), (6, y6), (7, y7), (8, y8), (9, y9), (10, y10), (11, y11), (12, y12), (13, y13), (14, y14), (18, y18), (28, y28), (33, y33), (39, y39), (41, y41), (42, y42), (43, y43), (44, y44), (63, y63), (66, y66), (67, y67), (68, y68), (69, y69), (78, y78), (79, y79), (80, y80), (86, y86), (115, y115), (127, y127)] = [(0, y0), (1, y1), (2, y2), (3, y3), (4, y4), (5, y5), (6, y6), (7, y7), (8, y8), (9, y9), (10, y10), (11, y11), (12, y12), (13, y13), (14, y14), (18, y18), (28, y28), (33, y33), (39, y39), (41, y41), (42, y42), (43, y43), (44, z0), (63, y63), (66, y66), (67, y67), (68, y68), (69, y69), (78, y78), (79, y79), (80, y80), (86, y86), (115, y115), (127, y127)] := fun y0 y1 y2 y3 y4 y5 y6 y7 y8 y9 y10 y11 y12 y13 y14 y18 y28 y33 y39 y41 y42 y43 y44 y63 y66 y67 y68 y69 y78 y79 y80 y86 y115 y127 z0 => rfl
          refine R_nil (tr _ _ _ _ _ _ _ _ _ _ _ _ _ _ _ _ _ _ _ _ _ _ _ _ _ _ _ _ _ _ _ _ _ _ _) ?_; clear tr
          refine then_n ?_
          refine at_seq rfl ?_
          refine cdd (fun h5 => ?_) (fun h5 => ?_)
          · try simp only [decide_eq_true_eq, decide_eq_false_iff_not, Bool.not_eq_true', Bool.not_eq_false', beq_iff_eq, beq_eq_false_iff_ne, ne_eq] at h5
            refine at_skip rfl ?_
            refine then_n ?_
            refine at_seq rfl ?_
            refine at_block rfl ?_
            refine at_seq rfl ?_
            refine rg rfl ?_
            refine Rq ?_
            refine Rq ?_
            refine R_q rfl (by simp (disch := first | omega | (simp only [List.length_map, List.length_append, List.length_set, List.length_cons, List.length_nil, List.length_take, List.length_drop]; omega)) only [go_sem, ↓reduceIte, Nat.reduceEqDiff, reduceCtorEq, hsy, en1, q0, qp, qs]; rfl) ?_
            refine Rq ?_
            refine Rq ?_
            have tr : ∀ y0 y1 y2 y3 y4 y5 y6 y7 y8 y9 y10 y11 y12 y13 y14 y18 y28 y33 y39 y41 y42 y43 y44 y63 y66 y67 y68 y69 y78 y79 y80 y86 y115 y127 z0 z1 z2 z3 z4 : AV, trim [(9, z4), (8, z3), (47, z2), (46, z1), (45, z0), (0, y0), (1, y1), (2, y2), (3, y3), (4, y4), (5, y5), (6, y6), (7, y7), (8, y8), (9, y9), (10, y10), (11, y11), (12, y12), (13, y13), (14, y14), (18, y18), (28, y28), (33, y33), (39, y39), (41, y41), (42, y42), (43, y43), (44, y44), (63, y63), (66, y66), (67, y67), (68, y68), (69, y69), (78, y78), (79, y79), (80, y80), (86, y86), (115, y115), (127, y127)] [(0, y0), (1, y1), (2, y2), (3, y3), (4, y4), (5, y5), (6, y6), (7, y7), (8, y8), (9, y9), (10, y10), (11, y11), (12, y12), (13, y13), (14, y14), (18, y18), (28, y28), (33, y33), (39, y39), (41, y41), (42, y42), (43, y43), (44, y44), (63, y63), (66, y66), (67, y67), (68, y68), (69, y69), (78, y78), (79, y79), (80, y80), (86, y86), (115, y115), (127, y127)] = [(0, y0), (1, y1), (2, y2), (3, y3), (4, y4), (5, y5), (6, y6), (7, y7), (8, z3), (9, z4), (10, y10), (11, y11), (12, y12), (13, y13), (14, y14), (18, y18), (28, y28), (33, y33), (39, y39), (41, y41), (42, y42), (43, y43), (44, y44), (63, y63), (66, y66), (67, y67), (68, y68), (69, y69), (78, y78), (79, y79), (80, y80), (86, y86), (115, y115), (127, y127)] := fun y0 y1 y2 y3 y4 y5 y6 y7 y8 y9 y10 y11 y12 y13 y14 y18 y28 y33 y39 y41 y42 y43 y44 y63 y66 y67 y68 y69 y78 y79 y80 y86 y115 y127 z0 z1 z2 z3 z4 => rfl
            refine R_nil (tr _ _ _ _ _ _ _ _ _ _ _ _ _ _ _ _ _ _ _ _ _ _ _ _ _ _ _ _ _ _ _ _ _ _ _ _ _ _ _) ?_; clear tr
            refine then_n ?_
            refine at_seq rfl ?_
            refine rl rfl rfl ?_
            refine Lq ?_
            refine Lq ?_
            refine Lq ?_
            refine Lp_split (fun h6 => ?_) (fun h6 => ?_)
            · try simp only [decide_eq_true_eq, decide_eq_false_iff_not, Bool.not_eq_true', Bool.not_eq_false', beq_iff_eq, beq_eq_false_iff_ne, ne_eq] at h6
              refine Ln ?_
              refine Ln ?_
              refine Ln ?_
              refine Lu ?_
              refine Lu ?_
              refine Lu ?_
              refine Lu ?_
              refine Lu ?_
              refine L_nil ?_
              refine Ms ?_
              refine Ru ?_
              refine R_end ?_
              refine Ms ?_
              refine Ru ?_
              refine R_end ?_
              refine M_nil ?_
              refine Ru ?_
              refine Rn ?_
              refine Rq ?_
              have tr : ∀ y0 y1 y2 y3 y4 y5 y6 y7 y8 y9 y10 y11 y12 y13 y14 y18 y28 y33 y39 y41 y42 y43 y44 y63 y66 y67 y68 y69 y78 y79 y80 y86 y115 y127 z0 z1 z2 z3 z4 z5 z6 z7 z8 z9 z10 z11 z12 z13 z14 z15 : AV, trim [(63, z15), (62, z14), (61, z13), (57, z12), (56, z11), (60, z10), (59, z9), (58, z8), (55, z7), (54, z6), (53, z5), (52, z4), (51, z3), (50, z2), (49, z1), (48, z0), (0, y0), (1, y1), (2, y2), (3, y3), (4, y4), (5, y5), (6, y6), (7, y7), (8, y8), (9, y9), (10, y10), (11, y11), (12, y12), (13, y13), (14, y14), (18, y18), (28, y28), (33, y33), (39, y39), (41, y41), (42, y42), (43, y43), (44, y44), (63, y63), (66, y66), (67, y67), (68, y68), (69, y69), (78, y78), (79, y79), (80, y80), (86, y86), (115, y115), (127, y127)] [(0, y0), (1, y1), (2, y2), (3, y3), (4, y4), (5, y5), (6, y6), (7, y7), (8, y8), (9, y9), (10, y10), (11, y11), (12, y12), (13, y13), (14, y14), (18, y18), (28, y28), (33, y33), (39, y39), (41, y41), (42, y42), (43, y43), (44, y44), (63, y63), (66, y66), (67, y67), (68, y68), (69, y69), (78, y78), (79, y79), (80, y80), (86, y86), (115, y115), (127, y127)] = [(0, y0), (1, y1), (2, y2), (3, y3), (4, y4), (5, y5), (6, y6), (7, y7), (8, y8), (9, y9), (10, y10), (11, y11), (12, y12), (13, y13), (14, y14), (18, y18), (28, y28), (33, y33), (39, y39), (41, y41), (42, y42), (43, y43), (44, y44), (63, z15), (66, y66), (67, y67), (68, y68), (69, y69), (78, y78), (79, y79), (80, y80), (86, y86), (115, y115), (127, y127)] := fun y0 y1 y2 y3 y4 y5 y6 y7 y8 y9 y10 y11 y12 y13 y14 y18 y28 y33 y39 y41 y42 y43 y44 y63 y66 y67 y68 y69 y78 y79 y80 y86 y115 y127 z0 z1 z2 z3 z4 z5 z6 z7 z8 z9 z10 z11 z12 z13 z14 z15 => rfl
              refine R_nil (tr _ _ _ _ _ _ _ _ _ _ _ _ _ _ _ _ _ _ _ _ _ _ _ _ _ _ _ _ _ _ _ _ _ _ _ _ _ _ _ _ _ _ _ _ _ _ _ _ _ _) ?_; clear tr
              refine then_n ?_
              refine cdt ?_
              refine at_seq rfl ?_
              refine rg rfl ?_
              refine Rq ?_
              have tr : ∀ y0 y1 y2 y3 y4 y5 y6 y7 y8 y9 y10 y11 y12 y13 y14 y18 y28 y33 y39 y41 y42 y43 y44 y63 y66 y67 y68 y69 y78 y79 y80 y86 y115 y127 z0 : AV, trim [(4, z0), (0, y0), (1, y1), (2, y2), (3, y3), (4, y4), (5, y5), (6, y6), (7, y7), (8, y8), (9, y9), (10, y10), (11, y11), (12, y12), (13, y13), (14, y14), (18, y18), (28, y28), (33, y33), (39, y39), (41, y41), (42, y42), (43, y43), (44, y44), (63, y63), (66, y66), (67, y67), (68, y68), (69, y69), (78, y78), (79, y79), (80, y80), (86, y86), (115, y115), (127, y127)] [(0, y0), (1, y1), (2, y2), (3, y3), (4, y4), (5, y5), (6, y6), (7, y7), (8, y8), (9, y9), (10, y10), (11, y11), (12, y12), (13, y13), (14, y14), (18, y18), (28, y28), (33, y33), (39, y39), (41, y41), (42, y42), (43, y43), (44, y44), (63, y63), (66, y66), (67, y67), (68, y68), (69, y69), (78, y78), (79, y79), (80, y80), (86, y86), (115, y115), (127, y127)] = [(0, y0), (1, y1), (2, y2), (3, y3), (4, z0), (5, y5), (6, y6), (7, y7), (8, y8), (9, y9), (10, y10), (11, y11), (12, y12), (13, y13), (14, y14), (18, y18), (28, y28), (33, y33), (39, y39), (41, y41), (42, y42), (43, y43), (44, y44), (63, y63), (66, y66), (67, y67), (68, y68), (69, y69), (78, y78), (79, y79), (80, y80), (86, y86), (115, y115), (127, y127)] := fun y0 y1 y2 y3 y4 y5 y6 y7 y8 y9 y10 y11 y12 y13 y14 y18 y28 y33 y39 y41 y42 y43 y44 y63 y66 y67 y68 y69 y78 y79 y80 y86 y115 y127 z0 => rfl
              refine R_nil (tr _ _ _ _ _ _ _ _ _ _ _ _ _ _ _ _ _ _ _ _ _ _ _ _ _ _ _ _ _ _ _ _ _ _ _) ?_; clear tr
              refine then_n ?_
              refine at_ret rfl ?_
              refine blk_r ?_
              refine then_r ?_
              refine then_r ?_
              refine blk_r ?_
              refine then_r ?_
              refine fpure ?_
              refine ⟨rfl, ?_, rfl⟩
              first | (rw [acc_chk (by assumption)]; done) | (rw [acc_cost (by assumption)]; done) | (rw [acc_sum (by assumption) (by omega)]; done) | (rw [acc_form (by assumption) (by omega) (fun hh => by have := hh.1; omega)]; done) | (rw [acc_form (by assumption) (by omega) (fun hh => by have := hh.2 u (by omega); unfold FormK at this; omega)]; done) | (rw [acc_bound (by assumption) (by omega) hfa (by omega : u < P.length) (fun hh => by have hh2 := hh j (by omega) (by omega) (by omega) (by omega) (by omega); omega)]; done) | (rw [acc_last (by assumption) (by omega) hfa (fun k hk => hb k (by omega)), if_pos (by omega)]; done) | (rw [acc_last (by assumption) (by omega) hfa (fun k hk => hb k (by omega)), if_neg (by omega)]; done)
            · try simp only [decide_eq_true_eq, decide_eq_false_iff_not, Bool.not_eq_true', Bool.not_eq_false', beq_iff_eq, beq_eq_false_iff_ne, ne_eq] at h6
              refine Ly ?_
              refine Lq ?_
              refine Ly ?_
              refine Lq ?_
              refine Ly ?_
              refine Lq ?_
              refine Lp_split (fun h7 => ?_) (fun h7 => ?_)
              · try simp only [decide_eq_true_eq, decide_eq_false_iff_not, Bool.not_eq_true', Bool.not_eq_false', beq_iff_eq, beq_eq_false_iff_ne, ne_eq] at h7
                refine Ly ?_
                refine L_q rfl (by simp (disch := first | omega | (simp only [List.length_map, List.length_append, List.length_set, List.length_cons, List.length_nil, List.length_take, List.length_drop]; omega)) only [go_sem, ↓reduceIte, Nat.reduceEqDiff, reduceCtorEq, hsy, en1, q0, qp, qs]; rfl) rfl ?_
                refine Ly ?_
                refine Lq ?_
                refine Ly ?_
                refine Lq ?_
                refine Ly ?_
                refine L_q rfl (by simp (disch := first | omega | (simp only [List.length_map, List.length_append, List.length_set, List.length_cons, List.length_nil, List.length_take, List.length_drop]; omega)) only [go_sem, ↓reduceIte, Nat.reduceEqDiff, reduceCtorEq, hsy, en1, q0, qp, qs]; rfl) rfl ?_
                refine Ly ?_
                refine Lq ?_
                refine L_nil ?_
                refine Ms ?_
                refine Ry ?_
                refine Rcall ?_
                refine ACall_eq (at_ok _ _ rows q la0 g u (by omega) (by omega)) ?_
                refine R_end ?_
                refine Ms ?_
                refine Ry ?_
                refine Rq ?_
                refine R_end ?_
                refine M_nil ?_
                refine Ry ?_
                refine Rq ?_
                refine Ry ?_
                refine Rq ?_
                refine Rq ?_
                have tr : ∀ y0 y1 y2 y3 y4 y5 y6 y7 y8 y9 y10 y11 y12 y13 y14 y18 y28 y33 y39 y41 y42 y43 y44 y63 y66 y67 y68 y69 y78 y79 y80 y86 y115 y127 z0 z1 z2 z3 z4 z5 z6 z7 z8 z9 z10 z11 z12 z13 z14 z15 : AV, trim [(63, z15), (62, z14), (61, z13), (57, z12), (56, z11), (60, z10), (59, z9), (58, z8), (55, z7), (54, z6), (53, z5), (52, z4), (51, z3), (50, z2), (49, z1), (48, z0), (0, y0), (1, y1), (2, y2), (3, y3), (4, y4), (5, y5), (6, y6), (7, y7), (8, y8), (9, y9), (10, y10), (11, y11), (12, y12), (13, y13), (14, y14), (18, y18), (28, y28), (33, y33), (39, y39), (41, y41), (42, y42), (43, y43), (44, y44), (63, y63), (66, y66), (67, y67), (68, y68), (69, y69), (78, y78), (79, y79), (80, y80), (86, y86), (115, y115), (127, y127)] [(0, y0), (1, y1), (2, y2), (3, y3), (4, y4), (5, y5), (6, y6), (7, y7), (8, y8), (9, y9), (10, y10), (11, y11), (12, y12), (13, y13), (14, y14), (18, y18), (28, y28), (33, y33), (39, y39), (41, y41), (42, y42), (43, y43), (44, y44), (63, y63), (66, y66), (67, y67), (68, y68), (69, y69), (78, y78), (79, y79), (80, y80), (86, y86), (115, y115), (127, y127)] = [(0, y0), (1, y1), (2, y2), (3, y3), (4, y4), (5, y5), (6, y6), (7, y7), (8, y8), (9, y9), (10, y10), (11, y11), (12, y12), (13, y13), (14, y14), (18, y18), (28, y28), (33, y33), (39, y39), (41, y41), (42, y42), (43, y43), (44, y44), (63, z15), (66, y66), (67, y67), (68, y68), (69, y69), (78, y78), (79, y79), (80, y80), (86, y86), (115, y115), (127, y127)] := fun y0 y1 y2 y3 y4 y5 y6 y7 y8 y9 y10 y11 y12 y13 y14 y18 y28 y33 y39 y41 y42 y43 y44 y63 y66 y67 y68 y69 y78 y79 y80 y86 y115 y127 z0 z1 z2 z3 z4 z5 z6 z7 z8 z9 z10 z11 z12 z13 z14 z15 => rfl
                refine R_nil (tr _ _ _ _ _ _ _ _ _ _ _ _ _ _ _ _ _ _ _ _ _ _ _ _ _ _ _ _ _ _ _ _ _ _ _ _ _ _ _ _ _ _ _ _ _ _ _ _ _ _) ?_; clear tr
                refine then_n ?_
                refine cdd (fun h8 => ?_) (fun h8 => ?_)
                · try simp only [decide_eq_true_eq, decide_eq_false_iff_not, Bool.not_eq_true', Bool.not_eq_false', beq_iff_eq, beq_eq_false_iff_ne, ne_eq] at h8
                  refine at_seq rfl ?_
                  refine rg rfl ?_
                  refine Rq ?_
                  have tr : ∀ y0 y1 y2 y3 y4 y5 y6 y7 y8 y9 y10 y11 y12 y13 y14 y18 y28 y33 y39 y41 y42 y43 y44 y63 y66 y67 y68 y69 y78 y79 y80 y86 y115 y127 z0 : AV, trim [(4, z0), (0, y0), (1, y1), (2, y2), (3, y3), (4, y4), (5, y5), (6, y6), (7, y7), (8, y8), (9, y9), (10, y10), (11, y11), (12, y12), (13, y13), (14, y14), (18, y18), (28, y28), (33, y33), (39, y39), (41, y41), (42, y42), (43, y43), (44, y44), (63, y63), (66, y66), (67, y67), (68, y68), (69, y69), (78, y78), (79, y79), (80, y80), (86, y86), (115, y115), (127, y127)] [(0, y0), (1, y1), (2, y2), (3, y3), (4, y4), (5, y5), (6, y6), (7, y7), (8, y8), (9, y9), (10, y10), (11, y11), (12, y12), (13, y13), (14, y14), (18, y18), (28, y28), (33, y33), (39, y39), (41, y41), (42, y42), (43, y43), (44, y44), (63, y63), (66, y66), (67, y67), (68, y68), (69, y69), (78, y78), (79, y79), (80, y80), (86, y86), (115, y115), (127, y127)] = [(0, y0), (1, y1), (2, y2), (3, y3), (4, z0), (5, y5), (6, y6), (7, y7), (8, y8), (9, y9), (10, y10), (11, y11), (12, y12), (13, y13), (14, y14), (18, y18), (28, y28), (33, y33), (39, y39), (41, y41), (42, y42), (43, y43), (44, y44), (63, y63), (66, y66), (67, y67), (68, y68), (69, y69), (78, y78), (79, y79), (80, y80), (86, y86), (115, y115), (127, y127)] := fun y0 y1 y2 y3 y4 y5 y6 y7 y8 y9 y10 y11 y12 y13 y14 y18 y28 y33 y39 y41 y42 y43 y44 y63 y66 y67 y68 y69 y78 y79 y80 y86 y115 y127 z0 => rfl
                  refine R_nil (tr _ _ _ _ _ _ _ _ _ _ _ _ _ _ _ _ _ _ _ _ _ _ _ _ _ _ _ _ _ _ _ _ _ _ _) ?_; clear tr
                  refine then_n ?_
                  refine at_ret rfl ?_
                  refine blk_r ?_
                  refine then_r ?_
                  refine then_r ?_
                  refine blk_r ?_
                  refine then_r ?_
                  refine fpure ?_
                  refine ⟨rfl, ?_, rfl⟩
                  first | (rw [acc_chk (by assumption)]; done) | (rw [acc_cost (by assumption)]; done) | (rw [acc_sum (by assumption) (by omega)]; done) | (rw [acc_form (by assumption) (by omega) (fun hh => by have := hh.1; omega)]; done) | (rw [acc_form (by assumption) (by omega) (fun hh => by have := hh.2 u (by omega); unfold FormK at this; omega)]; done) | (rw [acc_bound (by assumption) (by omega) hfa (by omega : u < P.length) (fun hh => by have hh2 := hh j (by omega) (by omega) (by omega) (by omega) (by omega); omega)]; done) | (rw [acc_last (by assumption) (by omega) hfa (fun k hk => hb k (by omega)), if_pos (by omega)]; done) | (rw [acc_last (by assumption) (by omega) hfa (fun k hk => hb k (by omega)), if_neg (by omega)]; done)
                · try simp only [decide_eq_true_eq, decide_eq_false_iff_not, Bool.not_eq_true', Bool.not_eq_false', beq_iff_eq, beq_eq_false_iff_ne, ne_eq] at h8
                  refine at_skip rfl ?_
                  refine blk_n ?_
                  refine then_n ?_
                  refine rg rfl ?_
                  refine Rq ?_
                  refine Rq ?_
                  have tr : ∀ y0 y1 y2 y3 y4 y5 y6 y7 y8 y9 y10 y11 y12 y13 y14 y18 y28 y33 y39 y41 y42 y43 y44 y63 y66 y67 y68 y69 y78 y79 y80 y86 y115 y127 z0 z1 : AV, trim [(43, z1), (64, z0), (0, y0), (1, y1), (2, y2), (3, y3), (4, y4), (5, y5), (6, y6), (7, y7), (8, y8), (9, y9), (10, y10), (11, y11), (12, y12), (13, y13), (14, y14), (18, y18), (28, y28), (33, y33), (39, y39), (41, y41), (42, y42), (43, y43), (44, y44), (63, y63), (66, y66), (67, y67), (68, y68), (69, y69), (78, y78), (79, y79), (80, y80), (86, y86), (115, y115), (127, y127)] [(0, y0), (1, y1), (2, y2), (3, y3), (4, y4), (5, y5), (6, y6), (7, y7), (8, y8), (9, y9), (10, y10), (11, y11), (12, y12), (13, y13), (14, y14), (18, y18), (28, y28), (33, y33), (39, y39), (41, y41), (42, y42), (43, y43), (44, y44), (63, y63), (66, y66), (67, y67), (68, y68), (69, y69), (78, y78), (79, y79), (80, y80), (86, y86), (115, y115), (127, y127)] = [(0, y0), (1, y1), (2, y2), (3, y3), (4, y4), (5, y5), (6, y6), (7, y7), (8, y8), (9, y9), (10, y10), (11, y11), (12, y12), (13, y13), (14, y14), (18, y18), (28, y28), (33, y33), (39, y39), (41, y41), (42, y42), (43, z1), (44, y44), (63, y63), (66, y66), (67, y67), (68, y68), (69, y69), (78, y78), (79, y79), (80, y80), (86, y86), (115, y115), (127, y127)] := fun y0 y1 y2 y3 y4 y5 y6 y7 y8 y9 y10 y11 y12 y13 y14 y18 y28 y33 y39 y41 y42 y43 y44 y63 y66 y67 y68 y69 y78 y79 y80 y86 y115 y127 z0 z1 => rfl
                  refine R_nil (tr _ _ _ _ _ _ _ _ _ _ _ _ _ _ _ _ _ _ _ _ _ _ _ _ _ _ _ _ _ _ _ _ _ _ _ _) ?_; clear tr
                  refine then_n ?_
                  exact ⟨_, _, ⟨u + 1, _, _, _, _, _, rfl, rfl, rfl, by omega, by exact form_step hf (by unfold FormK; omega)⟩, by rfl, by omega⟩
              · try simp only [decide_eq_true_eq, decide_eq_false_iff_not, Bool.not_eq_true', Bool.not_eq_false', beq_iff_eq, beq_eq_false_iff_ne, ne_eq] at h7
                refine Ln ?_
                refine Ln ?_
                refine Ln ?_
                refine Ln ?_
                refine Ln ?_
                refine L_nil ?_
                refine Ms ?_
                refine Rn ?_
                refine R_end ?_
                refine Ms ?_
                refine Rn ?_
                refine R_end ?_
                refine M_nil ?_
                refine Rn ?_
                refine Ry ?_
                refine Rq ?_
                refine Rq ?_
                have tr : ∀ y0 y1 y2 y3 y4 y5 y6 y7 y8 y9 y10 y11 y12 y13 y14 y18 y28 y33 y39 y41 y42 y43 y44 y63 y66 y67 y68 y69 y78 y79 y80 y86 y115 y127 z0 z1 z2 z3 z4 z5 z6 z7 z8 z9 z10 z11 z12 z13 z14 z15 : AV, trim [(63, z15), (62, z14), (61, z13), (57, z12), (56, z11), (60, z10), (59, z9), (58, z8), (55, z7), (54, z6), (53, z5), (52, z4), (51, z3), (50, z2), (49, z1), (48, z0), (0, y0), (1, y1), (2, y2), (3, y3), (4, y4), (5, y5), (6, y6), (7, y7), (8, y8), (9, y9), (10, y10), (11, y11), (12, y12), (13, y13), (14, y14), (18, y18), (28, y28), (33, y33), (39, y39), (41, y41), (42, y42), (43, y43), (44, y44), (63, y63), (66, y66), (67, y67), (68, y68), (69, y69), (78, y78), (79, y79), (80, y80), (86, y86), (115, y115), (127, y127)] [(0, y0), (1, y1), (2, y2), (3, y3), (4, y4), (5, y5), (6, y6), (7, y7), (8, y8), (9, y9), (10, y10), (11, y11), (12, y12), (13, y13), (14, y14), (18, y18), (28, y28), (33, y33), (39, y39), (41, y41), (42, y42), (43, y43), (44, y44), (63, y63), (66, y66), (67, y67), (68, y68), (69, y69), (78, y78), (79, y79), (80, y80), (86, y86), (115, y115), (127, y127)] = [(0, y0), (1, y1), (2, y2), (3, y3), (4, y4), (5, y5), (6, y6), (7, y7), (8, y8), (9, y9), (10, y10), (11, y11), (12, y12), (13, y13), (14, y14), (18, y18), (28, y28), (33, y33), (39, y39), (41, y41), (42, y42), (43, y43), (44, y44), (63, z15), (66, y66), (67, y67), (68, y68), (69, y69), (78, y78), (79, y79), (80, y80), (86, y86), (115, y115), (127, y127)] := fun y0 y1 y2 y3 y4 y5 y6 y7 y8 y9 y10 y11 y12 y13 y14 y18 y28 y33 y39 y41 y42 y43 y44 y63 y66 y67 y68 y69 y78 y79 y80 y86 y115 y127 z0 z1 z2 z3 z4 z5 z6 z7 z8 z9 z10 z11 z12 z13 z14 z15 => rfl
                refine R_nil (tr _ _ _ _ _ _ _ _ _ _ _ _ _ _ _ _ _ _ _ _ _ _ _ _ _ _ _ _ _ _ _ _ _ _ _ _ _ _ _ _ _ _ _ _ _ _ _ _ _ _) ?_; clear tr
                refine then_n ?_
                refine cdf ?_
                refine at_skip rfl ?_
                refine blk_n ?_
                refine then_n ?_
                refine rg rfl ?_
                refine Rq ?_
                refine Rq ?_
                have tr : ∀ y0 y1 y2 y3 y4 y5 y6 y7 y8 y9 y10 y11 y12 y13 y14 y18 y28 y33 y39 y41 y42 y43 y44 y63 y66 y67 y68 y69 y78 y79 y80 y86 y115 y127 z0 z1 : AV, trim [(43, z1), (64, z0), (0, y0), (1, y1), (2, y2), (3, y3), (4, y4), (5, y5), (6, y6), (7, y7), (8, y8), (9, y9), (10, y10), (11, y11), (12, y12), (13, y13), (14, y14), (18, y18), (28, y28), (33, y33), (39, y39), (41, y41), (42, y42), (43, y43), (44, y44), (63, y63), (66, y66), (67, y67), (68, y68), (69, y69), (78, y78), (79, y79), (80, y80), (86, y86), (115, y115), (127, y127)] [(0, y0), (1, y1), (2, y2), (3, y3), (4, y4), (5, y5), (6, y6), (7, y7), (8, y8), (9, y9), (10, y10), (11, y11), (12, y12), (13, y13), (14, y14), (18, y18), (28, y28), (33, y33), (39, y39), (41, y41), (42, y42), (43, y43), (44, y44), (63, y63), (66, y66), (67, y67), (68, y68), (69, y69), (78, y78), (79, y79), (80, y80), (86, y86), (115, y115), (127, y127)] = [(0, y0), (1, y1), (2, y2), (3, y3), (4, y4), (5, y5), (6, y6), (7, y7), (8, y8), (9, y9), (10, y10), (11, y11), (12, y12), (13, y13), (14, y14), (18, y18), (28, y28), (33, y33), (39, y39), (41, y41), (42, y42), (43, z1), (44, y44), (63, y63), (66, y66), (67, y67), (68, y68), (69, y69), (78, y78), (79, y79), (80, y80), (86, y86), (115, y115), (127, y127)] := fun y0 y1 y2 y3 y4 y5 y6 y7 y8 y9 y10 y11 y12 y13 y14 y18 y28 y33 y39 y41 y42 y43 y44 y63 y66 y67 y68 y69 y78 y79 y80 y86 y115 y127 z0 z1 => rfl
                refine R_nil (tr _ _ _ _ _ _ _ _ _ _ _ _ _ _ _ _ _ _ _ _ _ _ _ _ _ _ _ _ _ _ _ _ _ _ _ _) ?_; clear tr
                refine then_n ?_
                exact ⟨_, _, ⟨u + 1, _, _, _, _, _, rfl, rfl, rfl, by omega, by exact form_step hf (by unfold FormK; omega)⟩, by rfl, by omega⟩
          · try simp only [decide_eq_true_eq, decide_eq_false_iff_not, Bool.not_eq_true', Bool.not_eq_false', beq_iff_eq, beq_eq_false_iff_ne, ne_eq] at h5
            refine at_exit rfl ?_
            refine then_x ?_
            refine then_x ?_
            refine blk_x ?_
            refine then_n ?_
            refine at_seq rfl ?_
            refine at_seq rfl ?_
            refine rg rfl ?_
            have hfa : FormA rows q P := ⟨by omega, fun k hk => hf k (by omega)⟩
            have hPl := hfa.1
            refine Rq ?_
            refine R_q rfl (by simp (disch := first | omega | (simp only [List.length_map, List.length_append, List.length_set, List.length_cons, List.length_nil, List.length_take, List.length_drop]; omega)) only [go_sem, ↓reduceIte, Nat.reduceEqDiff, reduceCtorEq, hsy, en1, q0, qp, qs]; rfl) ?_
            refine Rq ?_
            refine Rq ?_
            have tr : ∀ y0 y1 y2 y3 y4 y5 y6 y7 y8 y9 y10 y11 y12 y13 y14 y18 y28 y33 y39 y41 y42 y43 y44 y63 y66 y67 y68 y69 y78 y79 y80 y86 y115 y127 z0 z1 z2 z3 : AV, trim [(68, z3), (67, z2), (66, z1), (65, z0), (0, y0), (1, y1), (2, y2), (3, y3), (4, y4), (5, y5), (6, y6), (7, y7), (8, y8), (9, y9), (10, y10), (11, y11), (12, y12), (13, y13), (14, y14), (18, y18), (28, y28), (33, y33), (39, y39), (41, y41), (42, y42), (43, y43), (44, y44), (63, y63), (66, y66), (67, y67), (68, y68), (69, y69), (78, y78), (79, y79), (80, y80), (86, y86), (115, y115), (127, y127)] [(0, y0), (1, y1), (2, y2), (3, y3), (4, y4), (5, y5), (6, y6), (7, y7), (8, y8), (9, y9), (10, y10), (11, y11), (12, y12), (13, y13), (14, y14), (18, y18), (28, y28), (33, y33), (39, y39), (41, y41), (42, y42), (43, y43), (44, y44), (63, y63), (66, y66), (67, y67), (68, y68), (69, y69), (78, y78), (79, y79), (80, y80), (86, y86), (115, y115), (127, y127)] = [(0, y0), (1, y1), (2, y2), (3, y3), (4, y4), (5, y5), (6, y6), (7, y7), (8, y8), (9, y9), (10, y10), (11, y11), (12, y12), (13, y13), (14, y14), (18, y18), (28, y28), (33, y33), (39, y39), (41, y41), (42, y42), (43, y43), (44, y44), (63, y63), (66, z1), (67, z2), (68, z3), (69, y69), (78, y78), (79, y79), (80, y80), (86, y86), (115, y115), (127, y127)] := fun y0 y1 y2 y3 y4 y5 y6 y7 y8 y9 y10 y11 y12 y13 y14 y18 y28 y33 y39 y41 y42 y43 y44 y63 y66 y67 y68 y69 y78 y79 y80 y86 y115 y127 z0 z1 z2 z3 => rfl
            refine R_nil (tr _ _ _ _ _ _ _ _ _ _ _ _ _ _ _ _ _ _ _ _ _ _ _ _ _ _ _ _ _ _ _ _ _ _ _ _ _ _) ?_; clear tr
            refine then_n ?_
            refine at_block rfl ?_
            refine loop_n rfl (fun mm kv H' => ∃ u : Nat, ∃ x4 x10 x11 x12 x13 x14 x69 x78 x79 x80 x86 x115 : AV, (kv = [(4, x4), (10, x10), (11, x11), (12, x12), (13, x13), (14, x14), (68, AV.i u), (69, x69), (78, x78), (79, x79), (80, x80), (86, x86), (115, x115)]) ∧ (mm = P.length - u) ∧ (hget H' 0 = some [rowsAV rows, AV.i q, AV.i la0]) ∧ (hget H' 1 = some [intsAV w, AV.i v, intsAV P]) ∧ (u ≤ P.length) ∧ (∀ k, k < u → BoundK rows q P k)) ⟨0, _, _, _, _, _, _, _, _, _, _, _, _, rfl, rfl, by exact q0, by exact qp, by omega, by intro k hk; omega⟩ (by rfl) ?_
            rintro mm kv HA ⟨u, x4, x10, x11, x12, x13, x14, x69, x78, x79, x80, x86, x115, rfl, rfl, q0, qp, hu, hb⟩
            have tr : ∀ y0 y1 y2 y3 y4 y5 y6 y7 y8 y9 y10 y11 y12 y13 y14 y18 y28 y33 y39 y41 y42 y43 y44 y63 y66 y67 y68 y69 y78 y79 y80 y86 y115 y127 z4 z10 z11 z12 z13 z14 z68 z69 z78 z79 z80 z86 z115 : AV, upd [(0, y0), (1, y1), (2, y2), (3, y3), (4, y4), (5, y5), (6, y6), (7, y7), (8, y8), (9, y9), (10, y10), (11, y11), (12, y12), (13, y13), (14, y14), (18, y18), (28, y28), (33, y33), (39, y39), (41, y41), (42, y42), (43, y43), (44, y44), (63, y63), (66, y66), (67, y67), (68, y68), (69, y69), (78, y78), (79, y79), (80, y80), (86, y86), (115, y115), (127, y127)] [(4, z4), (10, z10), (11, z11), (12, z12), (13, z13), (14, z14), (68, z68), (69, z69), (78, z78), (79, z79), (80, z80), (86, z86), (115, z115)] = [(0, y0), (1, y1), (2, y2), (3, y3), (4, z4), (5, y5), (6, y6), (7, y7), (8, y8), (9, y9), (10, z10), (11, z11), (12, z12), (13, z13), (14, z14), (18, y18), (28, y28), (33, y33), (39, y39), (41, y41), (42, y42), (43, y43), (44, y44), (63, y63), (66, y66), (67, y67), (68, z68), (69, z69), (78, z78), (79, z79), (80, z80), (86, z86), (115, z115), (127, y127)] := fun y0 y1 y2 y3 y4 y5 y6 y7 y8 y9 y10 y11 y12 y13 y14 y18 y28 y33 y39 y41 y42 y43 y44 y63 y66 y67 y68 y69 y78 y79 y80 y86 y115 y127 z4 z10 z11 z12 z13 z14 z68 z69 z78 z79 z80 z86 z115 => rfl
            refine W_to (tr _ _ _ _ _ _ _ _ _ _ _ _ _ _ _ _ _ _ _ _ _ _ _ _ _ _ _ _ _ _ _ _ _ _ _ _ _ _ _ _ _ _ _ _ _ _ _) ?_; clear tr
            refine at_seq rfl ?_
            refine rg rfl ?_
            refine Rq ?_
            have tr : ∀ y0 y1 y2 y3 y4 y5 y6 y7 y8 y9 y10 y11 y12 y13 y14 y18 y28 y33 y39 y41 y42 y43 y44 y63 y66 y67 y68 y69 y78 y79 y80 y86 y115 y127 z0 : AV, trim [(69, z0), (0, y0), (1, y1), (2, y2), (3, y3), (4, y4), (5, y5), (6, y6), (7, y7), (8, y8), (9, y9), (10, y10), (11, y11), (12, y12), (13, y13), (14, y14), (18, y18), (28, y28), (33, y33), (39, y39), (41, y41), (42, y42), (43, y43), (44, y44), (63, y63), (66, y66), (67, y67), (68, y68), (69, y69), (78, y78), (79, y79), (80, y80), (86, y86), (115, y115), (127, y127)] [(0, y0), (1, y1), (2, y2), (3, y3), (4, y4), (5, y5), (6, y6), (7, y7), (8, y8), (9, y9), (10, y10), (11, y11), (12, y12), (13, y13), (14, y14), (18, y18), (28, y28), (33, y33), (39, y39), (41, y41), (42, y42), (43, y43), (44, y44), (63, y63), (66, y66), (67, y67), (68, y68), (69, y69), (78, y78), (79, y79), (80, y80), (86, y86), (115, y115), (127, y127)] = [(0, y0), (1, y1), (2, y2), (3, y3), (4, y4), (5, y5), (6, y6), (7, y7), (8, y8), (9, y9), (10, y10), (11, y11), (12, y12), (13, y13), (14, y14), (18, y18), (28, y28), (33, y33), (39, y39), (41, y41), (42, y42), (43, y43), (44, y44), (63, y63), (66, y66), (67, y67), (68, y68), (69, z0), (78, y78), (79, y79), (80, y80), (86, y86), (115, y115), (127, y127)] := fun y0 y1 y2 y3 y4 y5 y6 y7 y8 y9 y10 y11 y12 y13 y14 y18 y28 y33 y39 y41 y42 y43 y44 y63 y66 y67 y68 y69 y78 y79 y80 y86 y115 y127 z0 => rfl
            refine R_nil (tr _ _ _ _ _ _ _ _ _ _ _ _ _ _ _ _ _ _ _ _ _ _ _ _ _ _ _ _ _ _ _ _ _ _ _) ?_; clear tr
            refine then_n ?_
            refine at_seq rfl ?_
            refine cdd (fun h9 => ?_) (fun h9 => ?_)
            · try simp only [decide_eq_true_eq, decide_eq_false_iff_not, Bool.not_eq_true', Bool.not_eq_false', beq_iff_eq, beq_eq_false_iff_ne, ne_eq] at h9
              refine at_skip rfl ?_
              refine then_n ?_
              refine at_seq rfl ?_
              refine at_block rfl ?_
              refine at_seq rfl ?_
              refine rg rfl ?_
              refine Rq ?_
              refine Rq ?_
              refine R_q rfl (by simp (disch := first | omega | (simp only [List.length_map, List.length_append, List.length_set, List.length_cons, List.length_nil, List.length_take, List.length_drop]; omega)) only [go_sem, ↓reduceIte, Nat.reduceEqDiff, reduceCtorEq, hsy, en1, q0, qp, qs]; rfl) ?_
              refine Rq ?_
              refine Rq ?_
              have tr : ∀ y0 y1 y2 y3 y4 y5 y6 y7 y8 y9 y10 y11 y12 y13 y14 y18 y28 y33 y39 y41 y42 y43 y44 y63 y66 y67 y68 y69 y78 y79 y80 y86 y115 y127 z0 z1 z2 z3 z4 : AV, trim [(11, z4), (10, z3), (72, z2), (71, z1), (70, z0), (0, y0), (1, y1), (2, y2), (3, y3), (4, y4), (5, y5), (6, y6), (7, y7), (8, y8), (9, y9), (10, y10), (11, y11), (12, y12), (13, y13), (14, y14), (18, y18), (28, y28), (33, y33), (39, y39), (41, y41), (42, y42), (43, y43), (44, y44), (63, y63), (66, y66), (67, y67), (68, y68), (69, y69), (78, y78), (79, y79), (80, y80), (86, y86), (115, y115), (127, y127)] [(0, y0), (1, y1), (2, y2), (3, y3), (4, y4), (5, y5), (6, y6), (7, y7), (8, y8), (9, y9), (10, y10), (11, y11), (12, y12), (13, y13), (14, y14), (18, y18), (28, y28), (33, y33), (39, y39), (41, y41), (42, y42), (43, y43), (44, y44), (63, y63), (66, y66), (67, y67), (68, y68), (69, y69), (78, y78), (79, y79), (80, y80), (86, y86), (115, y115), (127, y127)] = [(0, y0), (1, y1), (2, y2), (3, y3), (4, y4), (5, y5), (6, y6), (7, y7), (8, y8), (9, y9), (10, z3), (11, z4), (12, y12), (13, y13), (14, y14), (18, y18), (28, y28), (33, y33), (39, y39), (41, y41), (42, y42), (43, y43), (44, y44), (63, y63), (66, y66), (67, y67), (68, y68), (69, y69), (78, y78), (79, y79), (80, y80), (86, y86), (115, y115), (127, y127)] := fun y0 y1 y2 y3 y4 y5 y6 y7 y8 y9 y10 y11 y12 y13 y14 y18 y28 y33 y39 y41 y42 y43 y44 y63 y66 y67 y68 y69 y78 y79 y80 y86 y115 y127 z0 z1 z2 z3 z4 => rfl
              refine R_nil (tr _ _ _ _ _ _ _ _ _ _ _ _ _ _ _ _ _ _ _ _ _ _ _ _ _ _ _ _ _ _ _ _ _ _ _ _ _ _ _) ?_; clear tr
              refine then_n ?_
              refine at_seq rfl ?_
              refine rg rfl ?_
              have st : StOK q (gt rows 0).length (decc q (gt rows 0).length u) (decl (gt rows 0).length u) := dec_st hq0 (by omega)
              have hcl : (decc q (gt rows 0).length u).length = (gt rows 0).length := st.c.1
              have hss := sum_le (q := 12) (decc q (gt rows 0).length u) (fun y hy => by have := st.c.2 y hy; omega)
              have hfu := hfa.2 u (by omega)
              have hpu := hPb u
              unfold FormK at hfu
              have lp0 := hget_lt qp
              refine R_q rfl (by simp (disch := first | omega | (simp only [List.length_map, List.length_append, List.length_set, List.length_cons, List.length_nil, List.length_take, List.length_drop]; omega)) only [go_sem, ↓reduceIte, Nat.reduceEqDiff, reduceCtorEq, hsy, en1, q0, qp, qs]; rfl) ?_
              refine Rq ?_
              refine Rcall ?_
              refine ACall_eq (at_ok _ _ rows q la0 g u (by omega) (by omega)) ?_
              refine A_alloc rfl ?_
              intro HC nc
              have enc := nc.len
              have q0 := (nc.old _ (hget_lt q0)).trans q0
              have qp := (nc.old _ (hget_lt qp)).trans qp
              have qs := nc.new
              have lq0 := hget_lt q0
              have lqp := hget_lt qp
              have lqs := hget_lt qs
              refine A_store ty55 (by simp (disch := first | omega | (simp only [List.length_map, List.length_append, List.length_set, List.length_cons, List.length_nil, List.length_take, List.length_drop]; omega)) only [go_sem, ↓reduceIte, Nat.reduceEqDiff, reduceCtorEq, q0, qp, qs]; rfl) (by simp (disch := first | omega | (simp only [List.length_map, List.length_append, List.length_set, List.length_cons, List.length_nil, List.length_take, List.length_drop]; omega)) only [go_sem, ↓reduceIte, Nat.reduceEqDiff, reduceCtorEq, q0, qp, qs]; rfl) qs ⟨by omega, rfl, by first | exact Nat.le_refl _ | simp⟩ (show _ = [intsAV (decc q (gt rows 0).length u), AV.i (sumL (decc q (gt rows 0).length u)), AV.i (decl (gt rows 0).length u)] from rfl) ?_
              intro HD wd
              have ewd := wd.len
              have q0 := (wd.old _ (by omega)).trans q0
              have qp := (wd.old _ (by omega)).trans qp
              have qs := wd.new
              have tr : ∀ y0 y1 y2 y3 y4 y5 y6 y7 y8 y9 y10 y11 y12 y13 y14 y18 y28 y33 y39 y41 y42 y43 y44 y63 y66 y67 y68 y69 y78 y79 y80 y86 y115 y127 z0 z1 z2 z3 : AV, trim [(12, z3), (75, z2), (74, z1), (73, z0), (0, y0), (1, y1), (2, y2), (3, y3), (4, y4), (5, y5), (6, y6), (7, y7), (8, y8), (9, y9), (10, y10), (11, y11), (12, y12), (13, y13), (14, y14), (18, y18), (28, y28), (33, y33), (39, y39), (41, y41), (42, y42), (43, y43), (44, y44), (63, y63), (66, y66), (67, y67), (68, y68), (69, y69), (78, y78), (79, y79), (80, y80), (86, y86), (115, y115), (127, y127)] [(0, y0), (1, y1), (2, y2), (3, y3), (4, y4), (5, y5), (6, y6), (7, y7), (8, y8), (9, y9), (10, y10), (11, y11), (12, y12), (13, y13), (14, y14), (18, y18), (28, y28), (33, y33), (39, y39), (41, y41), (42, y42), (43, y43), (44, y44), (63, y63), (66, y66), (67, y67), (68, y68), (69, y69), (78, y78), (79, y79), (80, y80), (86, y86), (115, y115), (127, y127)] = [(0, y0), (1, y1), (2, y2), (3, y3), (4, y4), (5, y5), (6, y6), (7, y7), (8, y8), (9, y9), (10, y10), (11, y11), (12, z3), (13, y13), (14, y14), (18, y18), (28, y28), (33, y33), (39, y39), (41, y41), (42, y42), (43, y43), (44, y44), (63, y63), (66, y66), (67, y67), (68, y68), (69, y69), (78, y78), (79, y79), (80, y80), (86, y86), (115, y115), (127, y127)] := fun y0 y1 y2 y3 y4 y5 y6 y7 y8 y9 y10 y11 y12 y13 y14 y18 y28 y33 y39 y41 y42 y43 y44 y63 y66 y67 y68 y69 y78 y79 y80 y86 y115 y127 z0 z1 z2 z3 => rfl
              refine R_nil (tr _ _ _ _ _ _ _ _ _ _ _ _ _ _ _ _ _ _ _ _ _ _ _ _ _ _ _ _ _ _ _ _ _ _ _ _ _ _) ?_; clear tr
              refine then_n ?_
              refine at_seq rfl ?_
              refine rg rfl ?_
              refine Rq ?_
              refine R_q rfl (by simp (disch := first | omega | (simp only [List.length_map, List.length_append, List.length_set, List.length_cons, List.length_nil, List.length_take, List.length_drop]; omega)) only [go_sem, ↓reduceIte, Nat.reduceEqDiff, reduceCtorEq, hsy, en1, q0, qp, qs]; rfl) ?_
              refine Rq ?_
              refine Rq ?_
              have tr : ∀ y0 y1 y2 y3 y4 y5 y6 y7 y8 y9 y10 y11 y12 y13 y14 y18 y28 y33 y39 y41 y42 y43 y44 y63 y66 y67 y68 y69 y78 y79 y80 y86 y115 y127 z0 z1 z2 z3 : AV, trim [(79, z3), (78, z2), (77, z1), (76, z0), (0, y0), (1, y1), (2, y2), (3, y3), (4, y4), (5, y5), (6, y6), (7, y7), (8, y8), (9, y9), (10, y10), (11, y11), (12, y12), (13, y13), (14, y14), (18, y18), (28, y28), (33, y33), (39, y39), (41, y41), (42, y42), (43, y43), (44, y44), (63, y63), (66, y66), (67, y67), (68, y68), (69, y69), (78, y78), (79, y79), (80, y80), (86, y86), (115, y115), (127, y127)] [(0, y0), (1, y1), (2, y2), (3, y3), (4, y4), (5, y5), (6, y6), (7, y7), (8, y8), (9, y9), (10, y10), (11, y11), (12, y12), (13, y13), (14, y14), (18, y18), (28, y28), (33, y33), (39, y39), (41, y41), (42, y42), (43, y43), (44, y44), (63, y63), (66, y66), (67, y67), (68, y68), (69, y69), (78, y78), (79, y79), (80, y80), (86, y86), (115, y115), (127, y127)] = [(0, y0), (1, y1), (2, y2), (3, y3), (4, y4), (5, y5), (6, y6), (7, y7), (8, y8), (9, y9), (10, y10), (11, y11), (12, y12), (13, y13), (14, y14), (18, y18), (28, y28), (33, y33), (39, y39), (41, y41), (42, y42), (43, y43), (44, y44), (63, y63), (66, y66), (67, y67), (68, y68), (69, y69), (78, z2), (79, z3), (80, y80), (86, y86), (115, y115), (127, y127)] := fun y0 y1 y2 y3 y4 y5 y6 y7 y8 y9 y10 y11 y12 y13 y14 y18 y28 y33 y39 y41 y42 y43 y44 y63 y66 y67 y68 y69 y78 y79 y80 y86 y115 y127 z0 z1 z2 z3 => rfl
              refine R_nil (tr _ _ _ _ _ _ _ _ _ _ _ _ _ _ _ _ _ _ _ _ _ _ _ _ _ _ _ _ _ _ _ _ _ _ _ _ _ _) ?_; clear tr
              refine then_n ?_
              refine at_block rfl ?_
              refine loop_n rfl (fun mm kv H' => ∃ j : Nat, ∃ x4 x13 x14 x80 x86 x115 : AV, (kv = [(4, x4), (13, x13), (14, x14), (79, AV.i j), (80, x80), (86, x86), (115, x115)]) ∧ (mm = (gt rows 0).length - j) ∧ (H' = HD) ∧ (j ≤ (gt rows 0).length) ∧ (∀ i, i < j → BoundJ rows q P (gt P u) (decc q (gt rows 0).length u) (decl (gt rows 0).length u) i)) ⟨0, _, _, _, _, _, _, rfl, rfl, rfl, by omega, by intro i hi; omega⟩ (by rfl) ?_
              rintro mm kv H' ⟨j, x4, x13, x14, x80, x86, x115, rfl, rfl, rfl, hj, hbj⟩
              have tr : ∀ y0 y1 y2 y3 y4 y5 y6 y7 y8 y9 y10 y11 y12 y13 y14 y18 y28 y33 y39 y41 y42 y43 y44 y63 y66 y67 y68 y69 y78 y79 y80 y86 y115 y127 z4 z13 z14 z79 z80 z86 z115 : AV, upd [(0, y0), (1, y1), (2, y2), (3, y3), (4, y4), (5, y5), (6, y6), (7, y7), (8, y8), (9, y9), (10, y10), (11, y11), (12, y12), (13, y13), (14, y14), (18, y18), (28, y28), (33, y33), (39, y39), (41, y41), (42, y42), (43, y43), (44, y44), (63, y63), (66, y66), (67, y67), (68, y68), (69, y69), (78, y78), (79, y79), (80, y80), (86, y86), (115, y115), (127, y127)] [(4, z4), (13, z13), (14, z14), (79, z79), (80, z80), (86, z86), (115, z115)] = [(0, y0), (1, y1), (2, y2), (3, y3), (4, z4), (5, y5), (6, y6), (7, y7), (8, y8), (9, y9), (10, y10), (11, y11), (12, y12), (13, z13), (14, z14), (18, y18), (28, y28), (33, y33), (39, y39), (41, y41), (42, y42), (43, y43), (44, y44), (63, y63), (66, y66), (67, y67), (68, y68), (69, y69), (78, y78), (79, z79), (80, z80), (86, z86), (115, z115), (127, y127)] := fun y0 y1 y2 y3 y4 y5 y6 y7 y8 y9 y10 y11 y12 y13 y14 y18 y28 y33 y39 y41 y42 y43 y44 y63 y66 y67 y68 y69 y78 y79 y80 y86 y115 y127 z4 z13 z14 z79 z80 z86 z115 => rfl
              refine W_to (tr _ _ _ _ _ _ _ _ _ _ _ _ _ _ _ _ _ _ _ _ _ _ _ _ _ _ _ _ _ _ _ _ _ _ _ _ _ _ _ _ _) ?_; clear tr
              refine at_seq rfl ?_
              refine rg rfl ?_
              refine Rq ?_
              have tr : ∀ y0 y1 y2 y3 y4 y5 y6 y7 y8 y9 y10 y11 y12 y13 y14 y18 y28 y33 y39 y41 y42 y43 y44 y63 y66 y67 y68 y69 y78 y79 y80 y86 y115 y127 z0 : AV, trim [(80, z0), (0, y0), (1, y1), (2, y2), (3, y3), (4, y4), (5, y5), (6, y6), (7, y7), (8, y8), (9, y9), (10, y10), (11, y11), (12, y12), (13, y13), (14, y14), (18, y18), (28, y28), (33, y33), (39, y39), (41, y41), (42, y42), (43, y43), (44, y44), (63, y63), (66, y66), (67, y67), (68, y68), (69, y69), (78, y78), (79, y79), (80, y80), (86, y86), (115, y115), (127, y127)] [(0, y0), (1, y1), (2, y2), (3, y3), (4, y4), (5, y5), (6, y6), (7, y7), (8, y8), (9, y9), (10, y10), (11, y11), (12, y12), (13, y13), (14, y14), (18, y18), (28, y28), (33, y33), (39, y39), (41, y41), (42, y42), (43, y43), (44, y44), (63, y63), (66, y66), (67, y67), (68, y68), (69, y69), (78, y78), (79, y79), (80, y80), (86, y86), (115, y115), (127, y127)] = [(0, y0), (1, y1), (2, y2), (3, y3), (4, y4), (5, y5), (6, y6), (7, y7), (8, y8), (9, y9), (10, y10), (11, y11), (12, y12), (13, y13), (14, y14), (18, y18), (28, y28), (33, y33), (39, y39), (41, y41), (42, y42), (43, y43), (44, y44), (63, y63), (66, y66), (67, y67), (68, y68), (69, y69), (78, y78), (79, y79), (80, z0), (86, y86), (115, y115), (127, y127)] := fun y0 y1 y2 y3 y4 y5 y6 y7 y8 y9 y10 y11 y12 y13 y14 y18 y28 y33 y39 y41 y42 y43 y44 y63 y66 y67 y68 y69 y78 y79 y80 y86 y115 y127 z0 => rfl
              refine R_nil (tr _ _ _ _ _ _ _ _ _ _ _ _ _ _ _ _ _ _ _ _ _ _ _ _ _ _ _ _ _ _ _ _ _ _ _) ?_; clear tr
              refine then_n ?_
              refine at_seq rfl ?_
              refine cdd (fun h10 => ?_) (fun h10 => ?_)
              · try simp only [decide_eq_true_eq, decide_eq_false_iff_not, Bool.not_eq_true', Bool.not_eq_false', beq_iff_eq, beq_eq_false_iff_ne, ne_eq] at h10
                refine at_skip rfl ?_
                refine then_n ?_
                refine at_seq rfl ?_
                refine at_block rfl ?_
                refine at_seq rfl ?_
                refine rg rfl ?_
                refine Rq ?_
                refine Rq ?_
                have tr : ∀ y0 y1 y2 y3 y4 y5 y6 y7 y8 y9 y10 y11 y12 y13 y14 y18 y28 y33 y39 y41 y42 y43 y44 y63 y66 y67 y68 y69 y78 y79 y80 y86 y115 y127 z0 z1 : AV, trim [(13, z1), (81, z0), (0, y0), (1, y1), (2, y2), (3, y3), (4, y4), (5, y5), (6, y6), (7, y7), (8, y8), (9, y9), (10, y10), (11, y11), (12, y12), (13, y13), (14, y14), (18, y18), (28, y28), (33, y33), (39, y39), (41, y41), (42, y42), (43, y43), (44, y44), (63, y63), (66, y66), (67, y67), (68, y68), (69, y69), (78, y78), (79, y79), (80, y80), (86, y86), (115, y115), (127, y127)] [(0, y0), (1, y1), (2, y2), (3, y3), (4, y4), (5, y5), (6, y6), (7, y7), (8, y8), (9, y9), (10, y10), (11, y11), (12, y12), (13, y13), (14, y14), (18, y18), (28, y28), (33, y33), (39, y39), (41, y41), (42, y42), (43, y43), (44, y44), (63, y63), (66, y66), (67, y67), (68, y68), (69, y69), (78, y78), (79, y79), (80, y80), (86, y86), (115, y115), (127, y127)] = [(0, y0), (1, y1), (2, y2), (3, y3), (4, y4), (5, y5), (6, y6), (7, y7), (8, y8), (9, y9), (10, y10), (11, y11), (12, y12), (13, z1), (14, y14), (18, y18), (28, y28), (33, y33), (39, y39), (41, y41), (42, y42), (43, y43), (44, y44), (63, y63), (66, y66), (67, y67), (68, y68), (69, y69), (78, y78), (79, y79), (80, y80), (86, y86), (115, y115), (127, y127)] := fun y0 y1 y2 y3 y4 y5 y6 y7 y8 y9 y10 y11 y12 y13 y14 y18 y28 y33 y39 y41 y42 y43 y44 y63 y66 y67 y68 y69 y78 y79 y80 y86 y115 y127 z0 z1 => rfl
                refine R_nil (tr _ _ _ _ _ _ _ _ _ _ _ _ _ _ _ _ _ _ _ _ _ _ _ _ _ _ _ _ _ _ _ _ _ _ _ _) ?_; clear tr
                refine then_n ?_
                refine at_seq rfl ?_
                refine at_seq rfl ?_
                refine rg rfl ?_
                refine R_q rfl (by simp (disch := first | omega | (simp only [List.length_map, List.length_append, List.length_set, List.length_cons, List.length_nil, List.length_take, List.length_drop]; omega)) only [go_sem, ↓reduceIte, Nat.reduceEqDiff, reduceCtorEq, hsy, en1, q0, qp, qs]; rfl) ?_
                refine R_q rfl (by simp (disch := first | omega | (simp only [List.length_map, List.length_append, List.length_set, List.length_cons, List.length_nil, List.length_take, List.length_drop]; omega)) only [go_sem, ↓reduceIte, Nat.reduceEqDiff, reduceCtorEq, hsy, en1, q0, qp, qs]; rfl) ?_
                refine Rq ?_
                refine Rcall ?_
                refine ACall_eq (rmay_ok _ _ rows q la0 g (decc q (gt rows 0).length u) (decl (gt rows 0).length u) st _ (.inl rfl) _ j (by rw [hcl]; omega)) ?_
                refine Rq ?_
                have tr : ∀ y0 y1 y2 y3 y4 y5 y6 y7 y8 y9 y10 y11 y12 y13 y14 y18 y28 y33 y39 y41 y42 y43 y44 y63 y66 y67 y68 y69 y78 y79 y80 y86 y115 y127 z0 z1 z2 z3 z4 : AV, trim [(86, z4), (85, z3), (84, z2), (83, z1), (82, z0), (0, y0), (1, y1), (2, y2), (3, y3), (4, y4), (5, y5), (6, y6), (7, y7), (8, y8), (9, y9), (10, y10), (11, y11), (12, y12), (13, y13), (14, y14), (18, y18), (28, y28), (33, y33), (39, y39), (41, y41), (42, y42), (43, y43), (44, y44), (63, y63), (66, y66), (67, y67), (68, y68), (69, y69), (78, y78), (79, y79), (80, y80), (86, y86), (115, y115), (127, y127)] [(0, y0), (1, y1), (2, y2), (3, y3), (4, y4), (5, y5), (6, y6), (7, y7), (8, y8), (9, y9), (10, y10), (11, y11), (12, y12), (13, y13), (14, y14), (18, y18), (28, y28), (33, y33), (39, y39), (41, y41), (42, y42), (43, y43), (44, y44), (63, y63), (66, y66), (67, y67), (68, y68), (69, y69), (78, y78), (79, y79), (80, y80), (86, y86), (115, y115), (127, y127)] = [(0, y0), (1, y1), (2, y2), (3, y3), (4, y4), (5, y5), (6, y6), (7, y7), (8, y8), (9, y9), (10, y10), (11, y11), (12, y12), (13, y13), (14, y14), (18, y18), (28, y28), (33, y33), (39, y39), (41, y41), (42, y42), (43, y43), (44, y44), (63, y63), (66, y66), (67, y67), (68, y68), (69, y69), (78, y78), (79, y79), (80, y80), (86, z4), (115, y115), (127, y127)] := fun y0 y1 y2 y3 y4 y5 y6 y7 y8 y9 y10 y11 y12 y13 y14 y18 y28 y33 y39 y41 y42 y43 y44 y63 y66 y67 y68 y69 y78 y79 y80 y86 y115 y127 z0 z1 z2 z3 z4 => rfl
                refine R_nil (tr _ _ _ _ _ _ _ _ _ _ _ _ _ _ _ _ _ _ _ _ _ _ _ _ _ _ _ _ _ _ _ _ _ _ _ _ _ _ _) ?_; clear tr
                refine then_n ?_
                refine cdd (fun h11 => ?_) (fun h11 => ?_)
                · try simp only [decide_eq_true_eq, decide_eq_false_iff_not, Bool.not_eq_true', Bool.not_eq_false', beq_iff_eq, beq_eq_false_iff_ne, ne_eq] at h11
                  refine at_exit rfl ?_
                  refine then_x ?_
                  refine blk_x ?_
                  refine then_n ?_
                  refine rg rfl ?_
                  refine Rq ?_
                  refine Rq ?_
                  have tr : ∀ y0 y1 y2 y3 y4 y5 y6 y7 y8 y9 y10 y11 y12 y13 y14 y18 y28 y33 y39 y41 y42 y43 y44 y63 y66 y67 y68 y69 y78 y79 y80 y86 y115 y127 z0 z1 : AV, trim [(79, z1), (116, z0), (0, y0), (1, y1), (2, y2), (3, y3), (4, y4), (5, y5), (6, y6), (7, y7), (8, y8), (9, y9), (10, y10), (11, y11), (12, y12), (13, y13), (14, y14), (18, y18), (28, y28), (33, y33), (39, y39), (41, y41), (42, y42), (43, y43), (44, y44), (63, y63), (66, y66), (67, y67), (68, y68), (69, y69), (78, y78), (79, y79), (80, y80), (86, y86), (115, y115), (127, y127)] [(0, y0), (1, y1), (2, y2), (3, y3), (4, y4), (5, y5), (6, y6), (7, y7), (8, y8), (9, y9), (10, y10), (11, y11), (12, y12), (13, y13), (14, y14), (18, y18), (28, y28), (33, y33), (39, y39), (41, y41), (42, y42), (43, y43), (44, y44), (63, y63), (66, y66), (67, y67), (68, y68), (69, y69), (78, y78), (79, y79), (80, y80), (86, y86), (115, y115), (127, y127)] = [(0, y0), (1, y1), (2, y2), (3, y3), (4, y4), (5, y5), (6, y6), (7, y7), (8, y8), (9, y9), (10, y10), (11, y11), (12, y12), (13, y13), (14, y14), (18, y18), (28, y28), (33, y33), (39, y39), (41, y41), (42, y42), (43, y43), (44, y44), (63, y63), (66, y66), (67, y67), (68, y68), (69, y69), (78, y78), (79, z1), (80, y80), (86, y86), (115, y115), (127, y127)] := fun y0 y1 y2 y3 y4 y5 y6 y7 y8 y9 y10 y11 y12 y13 y14 y18 y28 y33 y39 y41 y42 y43 y44 y63 y66 y67 y68 y69 y78 y79 y80 y86 y115 y127 z0 z1 => rfl
                  refine R_nil (tr _ _ _ _ _ _ _ _ _ _ _ _ _ _ _ _ _ _ _ _ _ _ _ _ _ _ _ _ _ _ _ _ _ _ _ _) ?_; clear tr
                  refine then_n ?_
                  exact ⟨_, _, ⟨j + 1, _, _, _, _, _, _, rfl, rfl, rfl, by omega, by exact boundj_step hbj (fun hh1 hh2 hh3 hh4 => by first | omega | (exact ⟨by omega, by omega⟩))⟩, by rfl, by omega⟩
                · try simp only [decide_eq_true_eq, decide_eq_false_iff_not, Bool.not_eq_true', Bool.not_eq_false', beq_iff_eq, beq_eq_false_iff_ne, ne_eq] at h11
                  refine at_skip rfl ?_
                  refine then_n ?_
                  refine at_seq rfl ?_
                  refine rd rfl rfl ?_
                  have hcj := okc_gt st.c (j := j) (by omega)
                  have sta := aft_st st (j := j) (by omega) (by omega)
                  have hia := idx_rng hq0 sta
                  have hfa2 := (hfa.2 (idxS q (gt rows 0).length (aft (decc q (gt rows 0).length u) j) j).toNat (by omega)).1
                  refine Qq ?_
                  refine Q_q rfl (by simp (disch := first | omega | (simp only [List.length_map, List.length_append, List.length_set, List.length_cons, List.length_nil, List.length_take, List.length_drop]; omega)) only [go_sem, ↓reduceIte, Nat.reduceEqDiff, reduceCtorEq, hsy, en1, q0, qp, qs]; rfl) ?_
                  refine Q_q rfl (by simp (disch := first | omega | (simp only [List.length_map, List.length_append, List.length_set, List.length_cons, List.length_nil, List.length_take, List.length_drop]; omega)) only [go_sem, ↓reduceIte, Nat.reduceEqDiff, reduceCtorEq, hsy, en1, q0, qp, qs]; rfl) ?_
                  refine Q_q rfl (by simp (disch := first | omega | (simp only [List.length_map, List.length_append, List.length_set, List.length_cons, List.length_nil, List.length_take, List.length_drop]; omega)) only [go_sem, ↓reduceIte, Nat.reduceEqDiff, reduceCtorEq, hsy, en1, q0, qp, qs]; rfl) ?_
                  refine Qq ?_
                  refine Qcall ?_
                  refine ACall_eq (rafter_ok _ _ rows q la0 g (decc q (gt rows 0).length u) (decl (gt rows 0).length u) st _ (.inl rfl) _ j (by rw [hcl]; omega) (by omega)) ?_
                  refine ⟨rfl, ?_⟩
                  refine Qq ?_
                  refine Q_q rfl (by simp (disch := first | omega | (simp only [List.length_map, List.length_append, List.length_set, List.length_cons, List.length_nil, List.length_take, List.length_drop]; omega)) only [go_sem, ↓reduceIte, Nat.reduceEqDiff, reduceCtorEq, hsy, en1, q0, qp, qs]; rfl) ?_
                  refine Qq ?_
                  refine Q_nil ?_
                  have tr : ∀ y0 y1 y2 y3 y4 y5 y6 y7 y8 y9 y10 y11 y12 y13 y14 y18 y28 y33 y39 y41 y42 y43 y44 y63 y66 y67 y68 y69 y78 y79 y80 y86 y115 y127 z0 z1 z2 z3 z4 z5 z6 z7 z8 : AV, trim [(14, z8), (94, z7), (93, z6), (92, z5), (91, z4), (90, z3), (89, z2), (88, z1), (87, z0), (0, y0), (1, y1), (2, y2), (3, y3), (4, y4), (5, y5), (6, y6), (7, y7), (8, y8), (9, y9), (10, y10), (11, y11), (12, y12), (13, y13), (14, y14), (18, y18), (28, y28), (33, y33), (39, y39), (41, y41), (42, y42), (43, y43), (44, y44), (63, y63), (66, y66), (67, y67), (68, y68), (69, y69), (78, y78), (79, y79), (80, y80), (86, y86), (115, y115), (127, y127)] [(0, y0), (1, y1), (2, y2), (3, y3), (4, y4), (5, y5), (6, y6), (7, y7), (8, y8), (9, y9), (10, y10), (11, y11), (12, y12), (13, y13), (14, y14), (18, y18), (28, y28), (33, y33), (39, y39), (41, y41), (42, y42), (43, y43), (44, y44), (63, y63), (66, y66), (67, y67), (68, y68), (69, y69), (78, y78), (79, y79), (80, y80), (86, y86), (115, y115), (127, y127)] = [(0, y0), (1, y1), (2, y2), (3, y3), (4, y4), (5, y5), (6, y6), (7, y7), (8, y8), (9, y9), (10, y10), (11, y11), (12, y12), (13, y13), (14, z8), (18, y18), (28, y28), (33, y33), (39, y39), (41, y41), (42, y42), (43, y43), (44, y44), (63, y63), (66, y66), (67, y67), (68, y68), (69, y69), (78, y78), (79, y79), (80, y80), (86, y86), (115, y115), (127, y127)] := fun y0 y1 y2 y3 y4 y5 y6 y7 y8 y9 y10 y11 y12 y13 y14 y18 y28 y33 y39 y41 y42 y43 y44 y63 y66 y67 y68 y69 y78 y79 y80 y86 y115 y127 z0 z1 z2 z3 z4 z5 z6 z7 z8 => rfl
                  refine R_nil (tr _ _ _ _ _ _ _ _ _ _ _ _ _ _ _ _ _ _ _ _ _ _ _ _ _ _ _ _ _ _ _ _ _ _ _ _ _ _ _ _ _ _ _) ?_; clear tr
                  refine then_n ?_
                  refine at_seq rfl ?_
                  refine rg rfl ?_
                  have hrl := g5 (sumL (decc q (gt rows 0).length u)).toNat (by omega)
                  have hce := cell_rng g (sumL (decc q (gt rows 0).length u)).toNat j
                  refine Rq ?_
                  refine Rq ?_
                  refine Rq ?_
                  refine Rp_split (fun h12 => ?_) (fun h12 => ?_)
                  · try simp only [decide_eq_true_eq, decide_eq_false_iff_not, Bool.not_eq_true', Bool.not_eq_false', beq_iff_eq, beq_eq_false_iff_ne, ne_eq] at h12
                    refine Ry ?_
                    refine Rq ?_
                    refine Ry ?_
                    refine Rq ?_
                    refine Ry ?_
                    refine Rq ?_
                    refine Rp_split (fun h13 => ?_) (fun h13 => ?_)
                    · try simp only [decide_eq_true_eq, decide_eq_false_iff_not, Bool.not_eq_true', Bool.not_eq_false', beq_iff_eq, beq_eq_false_iff_ne, ne_eq] at h13
                      refine Rn ?_
                      refine Rn ?_
                      refine Rn ?_
                      refine Rn ?_
                      refine Rn ?_
                      refine Rn ?_
                      refine Rn ?_
                      refine Rn ?_
                      refine Rn ?_
                      refine Rn ?_
                      refine Rn ?_
                      refine Rn ?_
                      refine Rn ?_
                      refine Ry ?_
                      refine Rq ?_
                      refine Rq ?_
                      have tr : ∀ y0 y1 y2 y3 y4 y5 y6 y7 y8 y9 y10 y11 y12 y13 y14 y18 y28 y33 y39 y41 y42 y43 y44 y63 y66 y67 y68 y69 y78 y79 y80 y86 y115 y127 z0 z1 z2 z3 z4 z5 z6 z7 z8 z9 z10 z11 z12 z13 z14 z15 z16 z17 z18 z19 z20 : AV, trim [(115, z20), (114, z19), (113, z18), (112, z17), (111, z16), (110, z15), (109, z14), (108, z13), (107, z12), (106, z11), (105, z10), (104, z9), (103, z8), (102, z7), (101, z6), (100, z5), (99, z4), (98, z3), (97, z2), (96, z1), (95, z0), (0, y0), (1, y1), (2, y2), (3, y3), (4, y4), (5, y5), (6, y6), (7, y7), (8, y8), (9, y9), (10, y10), (11, y11), (12, y12), (13, y13), (14, y14), (18, y18), (28, y28), (33, y33), (39, y39), (41, y41), (42, y42), (43, y43), (44, y44), (63, y63), (66, y66), (67, y67), (68, y68), (69, y69), (78, y78), (79, y79), (80, y80), (86, y86), (115, y115), (127, y127)] [(0, y0), (1, y1), (2, y2), (3, y3), (4, y4), (5, y5), (6, y6), (7, y7), (8, y8), (9, y9), (10, y10), (11, y11), (12, y12), (13, y13), (14, y14), (18, y18), (28, y28), (33, y33), (39, y39), (41, y41), (42, y42), (43, y43), (44, y44), (63, y63), (66, y66), (67, y67), (68, y68), (69, y69), (78, y78), (79, y79), (80, y80), (86, y86), (115, y115), (127, y127)] = [(0, y0), (1, y1), (2, y2), (3, y3), (4, y4), (5, y5), (6, y6), (7, y7), (8, y8), (9, y9), (10, y10), (11, y11), (12, y12), (13, y13), (14, y14), (18, y18), (28, y28), (33, y33), (39, y39), (41, y41), (42, y42), (43, y43), (44, y44), (63, y63), (66, y66), (67, y67), (68, y68), (69, y69), (78, y78), (79, y79), (80, y80), (86, y86), (115, z20), (127, y127)] := fun y0 y1 y2 y3 y4 y5 y6 y7 y8 y9 y10 y11 y12 y13 y14 y18 y28 y33 y39 y41 y42 y43 y44 y63 y66 y67 y68 y69 y78 y79 y80 y86 y115 y127 z0 z1 z2 z3 z4 z5 z6 z7 z8 z9 z10 z11 z12 z13 z14 z15 z16 z17 z18 z19 z20 => rfl
                      refine R_nil (tr _ _ _ _ _ _ _ _ _ _ _ _ _ _ _ _ _ _ _ _ _ _ _ _ _ _ _ _ _ _ _ _ _ _ _ _ _ _ _ _ _ _ _ _ _ _ _ _ _ _ _ _ _ _ _) ?_; clear tr
                      refine then_n ?_
                      refine cdt ?_
                      refine at_seq rfl ?_
                      refine rg rfl ?_
                      refine Rq ?_
                      have tr : ∀ y0 y1 y2 y3 y4 y5 y6 y7 y8 y9 y10 y11 y12 y13 y14 y18 y28 y33 y39 y41 y42 y43 y44 y63 y66 y67 y68 y69 y78 y79 y80 y86 y115 y127 z0 : AV, trim [(4, z0), (0, y0), (1, y1), (2, y2), (3, y3), (4, y4), (5, y5), (6, y6), (7, y7), (8, y8), (9, y9), (10, y10), (11, y11), (12, y12), (13, y13), (14, y14), (18, y18), (28, y28), (33, y33), (39, y39), (41, y41), (42, y42), (43, y43), (44, y44), (63, y63), (66, y66), (67, y67), (68, y68), (69, y69), (78, y78), (79, y79), (80, y80), (86, y86), (115, y115), (127, y127)] [(0, y0), (1, y1), (2, y2), (3, y3), (4, y4), (5, y5), (6, y6), (7, y7), (8, y8), (9, y9), (10, y10), (11, y11), (12, y12), (13, y13), (14, y14), (18, y18), (28, y28), (33, y33), (39, y39), (41, y41), (42, y42), (43, y43), (44, y44), (63, y63), (66, y66), (67, y67), (68, y68), (69, y69), (78, y78), (79, y79), (80, y80), (86, y86), (115, y115), (127, y127)] = [(0, y0), (1, y1), (2, y2), (3, y3), (4, z0), (5, y5), (6, y6), (7, y7), (8, y8), (9, y9), (10, y10), (11, y11), (12, y12), (13, y13), (14, y14), (18, y18), (28, y28), (33, y33), (39, y39), (41, y41), (42, y42), (43, y43), (44, y44), (63, y63), (66, y66), (67, y67), (68, y68), (69, y69), (78, y78), (79, y79), (80, y80), (86, y86), (115, y115), (127, y127)] := fun y0 y1 y2 y3 y4 y5 y6 y7 y8 y9 y10 y11 y12 y13 y14 y18 y28 y33 y39 y41 y42 y43 y44 y63 y66 y67 y68 y69 y78 y79 y80 y86 y115 y127 z0 => rfl
                      refine R_nil (tr _ _ _ _ _ _ _ _ _ _ _ _ _ _ _ _ _ _ _ _ _ _ _ _ _ _ _ _ _ _ _ _ _ _ _) ?_; clear tr
                      refine then_n ?_
                      refine at_ret rfl ?_
                      refine blk_r ?_
                      refine then_r ?_
                      refine then_r ?_
                      refine blk_r ?_
                      refine blk_r ?_
                      refine then_r ?_
                      refine then_r ?_
                      refine blk_r ?_
                      refine then_r ?_
                      refine fpure ?_
                      refine ⟨rfl, ?_, rfl⟩
                      first | (rw [acc_chk (by assumption)]; done) | (rw [acc_cost (by assumption)]; done) | (rw [acc_sum (by assumption) (by omega)]; done) | (rw [acc_form (by assumption) (by omega) (fun hh => by have := hh.1; omega)]; done) | (rw [acc_form (by assumption) (by omega) (fun hh => by have := hh.2 u (by omega); unfold FormK at this; omega)]; done) | (rw [acc_bound (by assumption) (by omega) hfa (by omega : u < P.length) (fun hh => by have hh2 := hh j (by omega) (by omega) (by omega) (by omega) (by omega); omega)]; done) | (rw [acc_last (by assumption) (by omega) hfa (fun k hk => hb k (by omega)), if_pos (by omega)]; done) | (rw [acc_last (by assumption) (by omega) hfa (fun k hk => hb k (by omega)), if_neg (by omega)]; done)
                    · try simp only [decide_eq_true_eq, decide_eq_false_iff_not, Bool.not_eq_true', Bool.not_eq_false', beq_iff_eq, beq_eq_false_iff_ne, ne_eq] at h13
                      refine Ry ?_
                      refine Rq ?_
                      refine Ry ?_
                      refine Rq ?_
                      refine Ry ?_
                      refine R_q rfl (by simp (disch := first | omega | (simp only [List.length_map, List.length_append, List.length_set, List.length_cons, List.length_nil, List.length_take, List.length_drop]; omega)) only [go_sem, ↓reduceIte, Nat.reduceEqDiff, reduceCtorEq, hsy, en1, q0, qp, qs]; rfl) ?_
                      refine Ry ?_
                      refine Rq ?_
                      refine Ry ?_
                      refine R_q rfl (by simp (disch := first | omega | (simp only [List.length_map, List.length_append, List.length_set, List.length_cons, List.length_nil, List.length_take, List.length_drop]; omega)) only [go_sem, ↓reduceIte, Nat.reduceEqDiff, reduceCtorEq, hsy, en1, q0, qp, qs]; rfl) ?_
                      refine Ry ?_
                      refine Rq ?_
                      refine Ry ?_
                      refine R_q rfl (by simp (disch := first | omega | (simp only [List.length_map, List.length_append, List.length_set, List.length_cons, List.length_nil, List.length_take, List.length_drop]; omega)) only [go_sem, ↓reduceIte, Nat.reduceEqDiff, reduceCtorEq, hsy, en1, q0, qp, qs]; rfl) ?_
                      refine Ry ?_
                      refine Rq ?_
                      refine Ry ?_
                      refine Rq ?_
                      refine Ry ?_
                      refine R_q rfl (by simp (disch := first | omega | (simp only [List.length_map, List.length_append, List.length_set, List.length_cons, List.length_nil, List.length_take, List.length_drop]; omega)) only [go_sem, ↓reduceIte, Nat.reduceEqDiff, reduceCtorEq, hsy, en1, q0, qp, qs]; rfl) ?_
                      refine Ry ?_
                      refine Rq ?_
                      refine Ry ?_
                      refine Rq ?_
                      refine Ry ?_
                      refine Rq ?_
                      refine Ry ?_
                      refine Rq ?_
                      refine Rq ?_
                      have tr : ∀ y0 y1 y2 y3 y4 y5 y6 y7 y8 y9 y10 y11 y12 y13 y14 y18 y28 y33 y39 y41 y42 y43 y44 y63 y66 y67 y68 y69 y78 y79 y80 y86 y115 y127 z0 z1 z2 z3 z4 z5 z6 z7 z8 z9 z10 z11 z12 z13 z14 z15 z16 z17 z18 z19 z20 : AV, trim [(115, z20), (114, z19), (113, z18), (112, z17), (111, z16), (110, z15), (109, z14), (108, z13), (107, z12), (106, z11), (105, z10), (104, z9), (103, z8), (102, z7), (101, z6), (100, z5), (99, z4), (98, z3), (97, z2), (96, z1), (95, z0), (0, y0), (1, y1), (2, y2), (3, y3), (4, y4), (5, y5), (6, y6), (7, y7), (8, y8), (9, y9), (10, y10), (11, y11), (12, y12), (13, y13), (14, y14), (18, y18), (28, y28), (33, y33), (39, y39), (41, y41), (42, y42), (43, y43), (44, y44), (63, y63), (66, y66), (67, y67), (68, y68), (69, y69), (78, y78), (79, y79), (80, y80), (86, y86), (115, y115), (127, y127)] [(0, y0), (1, y1), (2, y2), (3, y3), (4, y4), (5, y5), (6, y6), (7, y7), (8, y8), (9, y9), (10, y10), (11, y11), (12, y12), (13, y13), (14, y14), (18, y18), (28, y28), (33, y33), (39, y39), (41, y41), (42, y42), (43, y43), (44, y44), (63, y63), (66, y66), (67, y67), (68, y68), (69, y69), (78, y78), (79, y79), (80, y80), (86, y86), (115, y115), (127, y127)] = [(0, y0), (1, y1), (2, y2), (3, y3), (4, y4), (5, y5), (6, y6), (7, y7), (8, y8), (9, y9), (10, y10), (11, y11), (12, y12), (13, y13), (14, y14), (18, y18), (28, y28), (33, y33), (39, y39), (41, y41), (42, y42), (43, y43), (44, y44), (63, y63), (66, y66), (67, y67), (68, y68), (69, y69), (78, y78), (79, y79), (80, y80), (86, y86), (115, z20), (127, y127)] := fun y0 y1 y2 y3 y4 y5 y6 y7 y8 y9 y10 y11 y12 y13 y14 y18 y28 y33 y39 y41 y42 y43 y44 y63 y66 y67 y68 y69 y78 y79 y80 y86 y115 y127 z0 z1 z2 z3 z4 z5 z6 z7 z8 z9 z10 z11 z12 z13 z14 z15 z16 z17 z18 z19 z20 => rfl
                      refine R_nil (tr _ _ _ _ _ _ _ _ _ _ _ _ _ _ _ _ _ _ _ _ _ _ _ _ _ _ _ _ _ _ _ _ _ _ _ _ _ _ _ _ _ _ _ _ _ _ _ _ _ _ _ _ _ _ _) ?_; clear tr
                      refine then_n ?_
                      refine cdd (fun h14 => ?_) (fun h14 => ?_)
                      · try simp only [decide_eq_true_eq, decide_eq_false_iff_not, Bool.not_eq_true', Bool.not_eq_false', beq_iff_eq, beq_eq_false_iff_ne, ne_eq] at h14
                        refine at_seq rfl ?_
                        refine rg rfl ?_
                        refine Rq ?_
                        have tr : ∀ y0 y1 y2 y3 y4 y5 y6 y7 y8 y9 y10 y11 y12 y13 y14 y18 y28 y33 y39 y41 y42 y43 y44 y63 y66 y67 y68 y69 y78 y79 y80 y86 y115 y127 z0 : AV, trim [(4, z0), (0, y0), (1, y1), (2, y2), (3, y3), (4, y4), (5, y5), (6, y6), (7, y7), (8, y8), (9, y9), (10, y10), (11, y11), (12, y12), (13, y13), (14, y14), (18, y18), (28, y28), (33, y33), (39, y39), (41, y41), (42, y42), (43, y43), (44, y44), (63, y63), (66, y66), (67, y67), (68, y68), (69, y69), (78, y78), (79, y79), (80, y80), (86, y86), (115, y115), (127, y127)] [(0, y0), (1, y1), (2, y2), (3, y3), (4, y4), (5, y5), (6, y6), (7, y7), (8, y8), (9, y9), (10, y10), (11, y11), (12, y12), (13, y13), (14, y14), (18, y18), (28, y28), (33, y33), (39, y39), (41, y41), (42, y42), (43, y43), (44, y44), (63, y63), (66, y66), (67, y67), (68, y68), (69, y69), (78, y78), (79, y79), (80, y80), (86, y86), (115, y115), (127, y127)] = [(0, y0), (1, y1), (2, y2), (3, y3), (4, z0), (5, y5), (6, y6), (7, y7), (8, y8), (9, y9), (10, y10), (11, y11), (12, y12), (13, y13), (14, y14), (18, y18), (28, y28), (33, y33), (39, y39), (41, y41), (42, y42), (43, y43), (44, y44), (63, y63), (66, y66), (67, y67), (68, y68), (69, y69), (78, y78), (79, y79), (80, y80), (86, y86), (115, y115), (127, y127)] := fun y0 y1 y2 y3 y4 y5 y6 y7 y8 y9 y10 y11 y12 y13 y14 y18 y28 y33 y39 y41 y42 y43 y44 y63 y66 y67 y68 y69 y78 y79 y80 y86 y115 y127 z0 => rfl
                        refine R_nil (tr _ _ _ _ _ _ _ _ _ _ _ _ _ _ _ _ _ _ _ _ _ _ _ _ _ _ _ _ _ _ _ _ _ _ _) ?_; clear tr
                        refine then_n ?_
                        refine at_ret rfl ?_
                        refine blk_r ?_
                        refine then_r ?_
                        refine then_r ?_
                        refine blk_r ?_
                        refine blk_r ?_
                        refine then_r ?_
                        refine then_r ?_
                        refine blk_r ?_
                        refine then_r ?_
                        refine fpure ?_
                        refine ⟨rfl, ?_, rfl⟩
                        first | (rw [acc_chk (by assumption)]; done) | (rw [acc_cost (by assumption)]; done) | (rw [acc_sum (by assumption) (by omega)]; done) | (rw [acc_form (by assumption) (by omega) (fun hh => by have := hh.1; omega)]; done) | (rw [acc_form (by assumption) (by omega) (fun hh => by have := hh.2 u (by omega); unfold FormK at this; omega)]; done) | (rw [acc_bound (by assumption) (by omega) hfa (by omega : u < P.length) (fun hh => by have hh2 := hh j (by omega) (by omega) (by omega) (by omega) (by omega); omega)]; done) | (rw [acc_last (by assumption) (by omega) hfa (fun k hk => hb k (by omega)), if_pos (by omega)]; done) | (rw [acc_last (by assumption) (by omega) hfa (fun k hk => hb k (by omega)), if_neg (by omega)]; done)
                      · try simp only [decide_eq_true_eq, decide_eq_false_iff_not, Bool.not_eq_true', Bool.not_eq_false', beq_iff_eq, beq_eq_false_iff_ne, ne_eq] at h14
                        refine at_skip rfl ?_
                        refine blk_n ?_
                        refine then_n ?_
                        refine rg rfl ?_
                        refine Rq ?_
                        refine Rq ?_
                        have tr : ∀ y0 y1 y2 y3 y4 y5 y6 y7 y8 y9 y10 y11 y12 y13 y14 y18 y28 y33 y39 y41 y42 y43 y44 y63 y66 y67 y68 y69 y78 y79 y80 y86 y115 y127 z0 z1 : AV, trim [(79, z1), (116, z0), (0, y0), (1, y1), (2, y2), (3, y3), (4, y4), (5, y5), (6, y6), (7, y7), (8, y8), (9, y9), (10, y10), (11, y11), (12, y12), (13, y13), (14, y14), (18, y18), (28, y28), (33, y33), (39, y39), (41, y41), (42, y42), (43, y43), (44, y44), (63, y63), (66, y66), (67, y67), (68, y68), (69, y69), (78, y78), (79, y79), (80, y80), (86, y86), (115, y115), (127, y127)] [(0, y0), (1, y1), (2, y2), (3, y3), (4, y4), (5, y5), (6, y6), (7, y7), (8, y8), (9, y9), (10, y10), (11, y11), (12, y12), (13, y13), (14, y14), (18, y18), (28, y28), (33, y33), (39, y39), (41, y41), (42, y42), (43, y43), (44, y44), (63, y63), (66, y66), (67, y67), (68, y68), (69, y69), (78, y78), (79, y79), (80, y80), (86, y86), (115, y115), (127, y127)] = [(0, y0), (1, y1), (2, y2), (3, y3), (4, y4), (5, y5), (6, y6), (7, y7), (8, y8), (9, y9), (10, y10), (11, y11), (12, y12), (13, y13), (14, y14), (18, y18), (28, y28), (33, y33), (39, y39), (41, y41), (42, y42), (43, y43), (44, y44), (63, y63), (66, y66), (67, y67), (68, y68), (69, y69), (78, y78), (79, z1), (80, y80), (86, y86), (115, y115), (127, y127)] := fun y0 y1 y2 y3 y4 y5 y6 y7 y8 y9 y10 y11 y12 y13 y14 y18 y28 y33 y39 y41 y42 y43 y44 y63 y66 y67 y68 y69 y78 y79 y80 y86 y115 y127 z0 z1 => rfl
                        refine R_nil (tr _ _ _ _ _ _ _ _ _ _ _ _ _ _ _ _ _ _ _ _ _ _ _ _ _ _ _ _ _ _ _ _ _ _ _ _) ?_; clear tr
                        refine then_n ?_
                        exact ⟨_, _, ⟨j + 1, _, _, _, _, _, _, rfl, rfl, rfl, by omega, by exact boundj_step hbj (fun hh1 hh2 hh3 hh4 => by first | omega | (exact ⟨by omega, by omega⟩))⟩, by rfl, by omega⟩
                  · try simp only [decide_eq_true_eq, decide_eq_false_iff_not, Bool.not_eq_true', Bool.not_eq_false', beq_iff_eq, beq_eq_false_iff_ne, ne_eq] at h12
                    refine Rn ?_
                    refine Rn ?_
                    refine Rn ?_
                    refine Ru ?_
                    refine Ru ?_
                    refine Ru ?_
                    refine Ru ?_
                    refine Ru ?_
                    refine Ru ?_
                    refine Ru ?_
                    refine Ru ?_
                    refine Ru ?_
                    refine Ru ?_
                    refine Ru ?_
                    refine Ru ?_
                    refine Ru ?_
                    refine Rn ?_
                    refine Rq ?_
                    have tr : ∀ y0 y1 y2 y3 y4 y5 y6 y7 y8 y9 y10 y11 y12 y13 y14 y18 y28 y33 y39 y41 y42 y43 y44 y63 y66 y67 y68 y69 y78 y79 y80 y86 y115 y127 z0 z1 z2 z3 z4 z5 z6 z7 z8 z9 z10 z11 z12 z13 z14 z15 z16 z17 z18 z19 z20 : AV, trim [(115, z20), (114, z19), (113, z18), (112, z17), (111, z16), (110, z15), (109, z14), (108, z13), (107, z12), (106, z11), (105, z10), (104, z9), (103, z8), (102, z7), (101, z6), (100, z5), (99, z4), (98, z3), (97, z2), (96, z1), (95, z0), (0, y0), (1, y1), (2, y2), (3, y3), (4, y4), (5, y5), (6, y6), (7, y7), (8, y8), (9, y9), (10, y10), (11, y11), (12, y12), (13, y13), (14, y14), (18, y18), (28, y28), (33, y33), (39, y39), (41, y41), (42, y42), (43, y43), (44, y44), (63, y63), (66, y66), (67, y67), (68, y68), (69, y69), (78, y78), (79, y79), (80, y80), (86, y86), (115, y115), (127, y127)] [(0, y0), (1, y1), (2, y2), (3, y3), (4, y4), (5, y5), (6, y6), (7, y7), (8, y8), (9, y9), (10, y10), (11, y11), (12, y12), (13, y13), (14, y14), (18, y18), (28, y28), (33, y33), (39, y39), (41, y41), (42, y42), (43, y43), (44, y44), (63, y63), (66, y66), (67, y67), (68, y68), (69, y69), (78, y78), (79, y79), (80, y80), (86, y86), (115, y115), (127, y127)] = [(0, y0), (1, y1), (2, y2), (3, y3), (4, y4), (5, y5), (6, y6), (7, y7), (8, y8), (9, y9), (10, y10), (11, y11), (12, y12), (13, y13), (14, y14), (18, y18), (28, y28), (33, y33), (39, y39), (41, y41), (42, y42), (43, y43), (44, y44), (63, y63), (66, y66), (67, y67), (68, y68), (69, y69), (78, y78), (79, y79), (80, y80), (86, y86), (115, z20), (127, y127)] := fun y0 y1 y2 y3 y4 y5 y6 y7 y8 y9 y10 y11 y12 y13 y14 y18 y28 y33 y39 y41 y42 y43 y44 y63 y66 y67 y68 y69 y78 y79 y80 y86 y115 y127 z0 z1 z2 z3 z4 z5 z6 z7 z8 z9 z10 z11 z12 z13 z14 z15 z16 z17 z18 z19 z20 => rfl
                    refine R_nil (tr _ _ _ _ _ _ _ _ _ _ _ _ _ _ _ _ _ _ _ _ _ _ _ _ _ _ _ _ _ _ _ _ _ _ _ _ _ _ _ _ _ _ _ _ _ _ _ _ _ _ _ _ _ _ _) ?_; clear tr
                    refine then_n ?_
                    refine cdf ?_
                    refine at_skip rfl ?_
                    refine blk_n ?_
                    refine then_n ?_
                    refine rg rfl ?_
                    refine Rq ?_
                    refine Rq ?_
                    have tr : ∀ y0 y1 y2 y3 y4 y5 y6 y7 y8 y9 y10 y11 y12 y13 y14 y18 y28 y33 y39 y41 y42 y43 y44 y63 y66 y67 y68 y69 y78 y79 y80 y86 y115 y127 z0 z1 : AV, trim [(79, z1), (116, z0), (0, y0), (1, y1), (2, y2), (3, y3), (4, y4), (5, y5), (6, y6), (7, y7), (8, y8), (9, y9), (10, y10), (11, y11), (12, y12), (13, y13), (14, y14), (18, y18), (28, y28), (33, y33), (39, y39), (41, y41), (42, y42), (43, y43), (44, y44), (63, y63), (66, y66), (67, y67), (68, y68), (69, y69), (78, y78), (79, y79), (80, y80), (86, y86), (115, y115), (127, y127)] [(0, y0), (1, y1), (2, y2), (3, y3), (4, y4), (5, y5), (6, y6), (7, y7), (8, y8), (9, y9), (10, y10), (11, y11), (12, y12), (13, y13), (14, y14), (18, y18), (28, y28), (33, y33), (39, y39), (41, y41), (42, y42), (43, y43), (44, y44), (63, y63), (66, y66), (67, y67), (68, y68), (69, y69), (78, y78), (79, y79), (80, y80), (86, y86), (115, y115), (127, y127)] = [(0, y0), (1, y1), (2, y2), (3, y3), (4, y4), (5, y5), (6, y6), (7, y7), (8, y8), (9, y9), (10, y10), (11, y11), (12, y12), (13, y13), (14, y14), (18, y18), (28, y28), (33, y33), (39, y39), (41, y41), (42, y42), (43, y43), (44, y44), (63, y63), (66, y66), (67, y67), (68, y68), (69, y69), (78, y78), (79, z1), (80, y80), (86, y86), (115, y115), (127, y127)] := fun y0 y1 y2 y3 y4 y5 y6 y7 y8 y9 y10 y11 y12 y13 y14 y18 y28 y33 y39 y41 y42 y43 y44 y63 y66 y67 y68 y69 y78 y79 y80 y86 y115 y127 z0 z1 => rfl
                    refine R_nil (tr _ _ _ _ _ _ _ _ _ _ _ _ _ _ _ _ _ _ _ _ _ _ _ _ _ _ _ _ _ _ _ _ _ _ _ _) ?_; clear tr
                    refine then_n ?_
                    exact ⟨_, _, ⟨j + 1, _, _, _, _, _, _, rfl, rfl, rfl, by omega, by exact boundj_step hbj (fun hh1 hh2 hh3 hh4 => by first | omega | (exact ⟨by omega, by omega⟩))⟩, by rfl, by omega⟩
              · try simp only [decide_eq_true_eq, decide_eq_false_iff_not, Bool.not_eq_true', Bool.not_eq_false', beq_iff_eq, beq_eq_false_iff_ne, ne_eq] at h10
                refine at_exit rfl ?_
                refine then_x ?_
                refine then_x ?_
                refine blk_x ?_
                refine blk_n ?_
                refine then_n ?_
                refine rg rfl ?_
                refine Rq ?_
                refine Rq ?_
                have tr : ∀ y0 y1 y2 y3 y4 y5 y6 y7 y8 y9 y10 y11 y12 y13 y14 y18 y28 y33 y39 y41 y42 y43 y44 y63 y66 y67 y68 y69 y78 y79 y80 y86 y115 y127 z0 z1 : AV, trim [(68, z1), (117, z0), (0, y0), (1, y1), (2, y2), (3, y3), (4, y4), (5, y5), (6, y6), (7, y7), (8, y8), (9, y9), (10, y10), (11, y11), (12, y12), (13, y13), (14, y14), (18, y18), (28, y28), (33, y33), (39, y39), (41, y41), (42, y42), (43, y43), (44, y44), (63, y63), (66, y66), (67, y67), (68, y68), (69, y69), (78, y78), (79, y79), (80, y80), (86, y86), (115, y115), (127, y127)] [(0, y0), (1, y1), (2, y2), (3, y3), (4, y4), (5, y5), (6, y6), (7, y7), (8, y8), (9, y9), (10, y10), (11, y11), (12, y12), (13, y13), (14, y14), (18, y18), (28, y28), (33, y33), (39, y39), (41, y41), (42, y42), (43, y43), (44, y44), (63, y63), (66, y66), (67, y67), (68, y68), (69, y69), (78, y78), (79, y79), (80, y80), (86, y86), (115, y115), (127, y127)] = [(0, y0), (1, y1), (2, y2), (3, y3), (4, y4), (5, y5), (6, y6), (7, y7), (8, y8), (9, y9), (10, y10), (11, y11), (12, y12), (13, y13), (14, y14), (18, y18), (28, y28), (33, y33), (39, y39), (41, y41), (42, y42), (43, y43), (44, y44), (63, y63), (66, y66), (67, y67), (68, z1), (69, y69), (78, y78), (79, y79), (80, y80), (86, y86), (115, y115), (127, y127)] := fun y0 y1 y2 y3 y4 y5 y6 y7 y8 y9 y10 y11 y12 y13 y14 y18 y28 y33 y39 y41 y42 y43 y44 y63 y66 y67 y68 y69 y78 y79 y80 y86 y115 y127 z0 z1 => rfl
                refine R_nil (tr _ _ _ _ _ _ _ _ _ _ _ _ _ _ _ _ _ _ _ _ _ _ _ _ _ _ _ _ _ _ _ _ _ _ _ _) ?_; clear tr
                refine then_n ?_
                exact ⟨_, _, ⟨u + 1, _, _, _, _, _, _, _, _, _, _, _, _, rfl, rfl, by exact q0, by exact qp, by omega, by exact boundk_step hb (fun i hi => hbj i (by omega))⟩, by rfl, by omega⟩
            · try simp only [decide_eq_true_eq, decide_eq_false_iff_not, Bool.not_eq_true', Bool.not_eq_false', beq_iff_eq, beq_eq_false_iff_ne, ne_eq] at h9
              refine at_exit rfl ?_
              refine then_x ?_
              refine then_x ?_
              refine blk_x ?_
              refine then_n ?_
              refine at_seq rfl ?_
              refine at_seq rfl ?_
              refine rd rfl rfl ?_
              refine Qq ?_
              refine Q_q rfl (by simp (disch := first | omega | (simp only [List.length_map, List.length_append, List.length_set, List.length_cons, List.length_nil, List.length_take, List.length_drop]; omega)) only [go_sem, ↓reduceIte, Nat.reduceEqDiff, reduceCtorEq, hsy, en1, q0, qp, qs]; rfl) ?_
              refine Qq ?_
              refine Q_q rfl (by simp (disch := first | omega | (simp only [List.length_map, List.length_append, List.length_set, List.length_cons, List.length_nil, List.length_take, List.length_drop]; omega)) only [go_sem, ↓reduceIte, Nat.reduceEqDiff, reduceCtorEq, hsy, en1, q0, qp, qs]; rfl) ?_
              refine Qq ?_
              refine Q_q rfl (by simp (disch := first | omega | (simp only [List.length_map, List.length_append, List.length_set, List.length_cons, List.length_nil, List.length_take, List.length_drop]; omega)) only [go_sem, ↓reduceIte, Nat.reduceEqDiff, reduceCtorEq, hsy, en1, q0, qp, qs]; rfl) ?_
              refine Qq ?_
              refine Qq ?_
              refine Q_q rfl (by simp (disch := first | omega | (simp only [List.length_map, List.length_append, List.length_set, List.length_cons, List.length_nil, List.length_take, List.length_drop]; omega)) only [go_sem, ↓reduceIte, Nat.reduceEqDiff, reduceCtorEq, hsy, en1, q0, qp, qs]; rfl) ?_
              refine Qq ?_
              refine Q_nil ?_
              have tr : ∀ y0 y1 y2 y3 y4 y5 y6 y7 y8 y9 y10 y11 y12 y13 y14 y18 y28 y33 y39 y41 y42 y43 y44 y63 y66 y67 y68 y69 y78 y79 y80 y86 y115 y127 z0 z1 z2 z3 z4 z5 z6 z7 z8 z9 : AV, trim [(127, z9), (126, z8), (125, z7), (124, z6), (123, z5), (122, z4), (121, z3), (120, z2), (119, z1), (118, z0), (0, y0), (1, y1), (2, y2), (3, y3), (4, y4), (5, y5), (6, y6), (7, y7), (8, y8), (9, y9), (10, y10), (11, y11), (12, y12), (13, y13), (14, y14), (18, y18), (28, y28), (33, y33), (39, y39), (41, y41), (42, y42), (43, y43), (44, y44), (63, y63), (66, y66), (67, y67), (68, y68), (69, y69), (78, y78), (79, y79), (80, y80), (86, y86), (115, y115), (127, y127)] [(0, y0), (1, y1), (2, y2), (3, y3), (4, y4), (5, y5), (6, y6), (7, y7), (8, y8), (9, y9), (10, y10), (11, y11), (12, y12), (13, y13), (14, y14), (18, y18), (28, y28), (33, y33), (39, y39), (41, y41), (42, y42), (43, y43), (44, y44), (63, y63), (66, y66), (67, y67), (68, y68), (69, y69), (78, y78), (79, y79), (80, y80), (86, y86), (115, y115), (127, y127)] = [(0, y0), (1, y1), (2, y2), (3, y3), (4, y4), (5, y5), (6, y6), (7, y7), (8, y8), (9, y9), (10, y10), (11, y11), (12, y12), (13, y13), (14, y14), (18, y18), (28, y28), (33, y33), (39, y39), (41, y41), (42, y42), (43, y43), (44, y44), (63, y63), (66, y66), (67, y67), (68, y68), (69, y69), (78, y78), (79, y79), (80, y80), (86, y86), (115, y115), (127, z9)] := fun y0 y1 y2 y3 y4 y5 y6 y7 y8 y9 y10 y11 y12 y13 y14 y18 y28 y33 y39 y41 y42 y43 y44 y63 y66 y67 y68 y69 y78 y79 y80 y86 y115 y127 z0 z1 z2 z3 z4 z5 z6 z7 z8 z9 => rfl
              refine R_nil (tr _ _ _ _ _ _ _ _ _ _ _ _ _ _ _ _ _ _ _ _ _ _ _ _ _ _ _ _ _ _ _ _ _ _ _ _ _ _ _ _ _ _ _ _) ?_; clear tr
              refine then_n ?_
              refine cdd (fun h15 => ?_) (fun h15 => ?_)
              · try simp only [decide_eq_true_eq, decide_eq_false_iff_not, Bool.not_eq_true', Bool.not_eq_false', beq_iff_eq, beq_eq_false_iff_ne, ne_eq] at h15
                refine at_seq rfl ?_
                refine rg rfl ?_
                refine Rq ?_
                have tr : ∀ y0 y1 y2 y3 y4 y5 y6 y7 y8 y9 y10 y11 y12 y13 y14 y18 y28 y33 y39 y41 y42 y43 y44 y63 y66 y67 y68 y69 y78 y79 y80 y86 y115 y127 z0 : AV, trim [(4, z0), (0, y0), (1, y1), (2, y2), (3, y3), (4, y4), (5, y5), (6, y6), (7, y7), (8, y8), (9, y9), (10, y10), (11, y11), (12, y12), (13, y13), (14, y14), (18, y18), (28, y28), (33, y33), (39, y39), (41, y41), (42, y42), (43, y43), (44, y44), (63, y63), (66, y66), (67, y67), (68, y68), (69, y69), (78, y78), (79, y79), (80, y80), (86, y86), (115, y115), (127, y127)] [(0, y0), (1, y1), (2, y2), (3, y3), (4, y4), (5, y5), (6, y6), (7, y7), (8, y8), (9, y9), (10, y10), (11, y11), (12, y12), (13, y13), (14, y14), (18, y18), (28, y28), (33, y33), (39, y39), (41, y41), (42, y42), (43, y43), (44, y44), (63, y63), (66, y66), (67, y67), (68, y68), (69, y69), (78, y78), (79, y79), (80, y80), (86, y86), (115, y115), (127, y127)] = [(0, y0), (1, y1), (2, y2), (3, y3), (4, z0), (5, y5), (6, y6), (7, y7), (8, y8), (9, y9), (10, y10), (11, y11), (12, y12), (13, y13), (14, y14), (18, y18), (28, y28), (33, y33), (39, y39), (41, y41), (42, y42), (43, y43), (44, y44), (63, y63), (66, y66), (67, y67), (68, y68), (69, y69), (78, y78), (79, y79), (80, y80), (86, y86), (115, y115), (127, y127)] := fun y0 y1 y2 y3 y4 y5 y6 y7 y8 y9 y10 y11 y12 y13 y14 y18 y28 y33 y39 y41 y42 y43 y44 y63 y66 y67 y68 y69 y78 y79 y80 y86 y115 y127 z0 => rfl
                refine R_nil (tr _ _ _ _ _ _ _ _ _ _ _ _ _ _ _ _ _ _ _ _ _ _ _ _ _ _ _ _ _ _ _ _ _ _ _) ?_; clear tr
                refine then_n ?_
                refine at_ret rfl ?_
                refine then_r ?_
                refine fpure ?_
                refine ⟨rfl, ?_, rfl⟩
                first | (rw [acc_chk (by assumption)]; done) | (rw [acc_cost (by assumption)]; done) | (rw [acc_sum (by assumption) (by omega)]; done) | (rw [acc_form (by assumption) (by omega) (fun hh => by have := hh.1; omega)]; done) | (rw [acc_form (by assumption) (by omega) (fun hh => by have := hh.2 u (by omega); unfold FormK at this; omega)]; done) | (rw [acc_bound (by assumption) (by omega) hfa (by omega : u < P.length) (fun hh => by have hh2 := hh j (by omega) (by omega) (by omega) (by omega) (by omega); omega)]; done) | (rw [acc_last (by assumption) (by omega) hfa (fun k hk => hb k (by omega)), if_pos (by omega)]; done) | (rw [acc_last (by assumption) (by omega) hfa (fun k hk => hb k (by omega)), if_neg (by omega)]; done)
              · try simp only [decide_eq_true_eq, decide_eq_false_iff_not, Bool.not_eq_true', Bool.not_eq_false', beq_iff_eq, beq_eq_false_iff_ne, ne_eq] at h15
                refine at_skip rfl ?_
                refine then_n ?_
                refine at_seq rfl ?_
                refine rg rfl ?_
                refine Rq ?_
                have tr : ∀ y0 y1 y2 y3 y4 y5 y6 y7 y8 y9 y10 y11 y12 y13 y14 y18 y28 y33 y39 y41 y42 y43 y44 y63 y66 y67 y68 y69 y78 y79 y80 y86 y115 y127 z0 : AV, trim [(4, z0), (0, y0), (1, y1), (2, y2), (3, y3), (4, y4), (5, y5), (6, y6), (7, y7), (8, y8), (9, y9), (10, y10), (11, y11), (12, y12), (13, y13), (14, y14), (18, y18), (28, y28), (33, y33), (39, y39), (41, y41), (42, y42), (43, y43), (44, y44), (63, y63), (66, y66), (67, y67), (68, y68), (69, y69), (78, y78), (79, y79), (80, y80), (86, y86), (115, y115), (127, y127)] [(0, y0), (1, y1), (2, y2), (3, y3), (4, y4), (5, y5), (6, y6), (7, y7), (8, y8), (9, y9), (10, y10), (11, y11), (12, y12), (13, y13), (14, y14), (18, y18), (28, y28), (33, y33), (39, y39), (41, y41), (42, y42), (43, y43), (44, y44), (63, y63), (66, y66), (67, y67), (68, y68), (69, y69), (78, y78), (79, y79), (80, y80), (86, y86), (115, y115), (127, y127)] = [(0, y0), (1, y1), (2, y2), (3, y3), (4, z0), (5, y5), (6, y6), (7, y7), (8, y8), (9, y9), (10, y10), (11, y11), (12, y12), (13, y13), (14, y14), (18, y18), (28, y28), (33, y33), (39, y39), (41, y41), (42, y42), (43, y43), (44, y44), (63, y63), (66, y66), (67, y67), (68, y68), (69, y69), (78, y78), (79, y79), (80, y80), (86, y86), (115, y115), (127, y127)] := fun y0 y1 y2 y3 y4 y5 y6 y7 y8 y9 y10 y11 y12 y13 y14 y18 y28 y33 y39 y41 y42 y43 y44 y63 y66 y67 y68 y69 y78 y79 y80 y86 y115 y127 z0 => rfl
                refine R_nil (tr _ _ _ _ _ _ _ _ _ _ _ _ _ _ _ _ _ _ _ _ _ _ _ _ _ _ _ _ _ _ _ _ _ _ _) ?_; clear tr
                refine then_n ?_
                refine at_ret rfl ?_
                refine fpure ?_
                refine ⟨rfl, ?_, rfl⟩
                first | (rw [acc_chk (by assumption)]; done) | (rw [acc_cost (by assumption)]; done) | (rw [acc_sum (by assumption) (by omega)]; done) | (rw [acc_form (by assumption) (by omega) (fun hh => by have := hh.1; omega)]; done) | (rw [acc_form (by assumption) (by omega) (fun hh => by have := hh.2 u (by omega); unfold FormK at this; omega)]; done) | (rw [acc_bound (by assumption) (by omega) hfa (by omega : u < P.length) (fun hh => by have hh2 := hh j (by omega) (by omega) (by omega) (by omega) (by omega); omega)]; done) | (rw [acc_last (by assumption) (by omega) hfa (fun k hk => hb k (by omega)), if_pos (by omega)]; done) | (rw [acc_last (by assumption) (by omega) hfa (fun k hk => hb k (by omega)), if_neg (by omega)]; done)

end Go.Proofs.Ytmkalakojfpfgaa
