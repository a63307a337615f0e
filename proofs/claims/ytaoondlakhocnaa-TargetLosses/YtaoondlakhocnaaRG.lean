/-
  Walks of chapters 37, 39 and 40. The steps are written by program (walk.py).
-/
import Derived.Test.YtaoondlakhocnaaRE
set_option linter.unusedSimpArgs false
set_option linter.unusedVariables false
set_option maxHeartbeats 40000000
set_option maxRecDepth 4000
namespace Go.Proofs.Ytaoondlakhocnaa
open Go Go.Am

theorem rcheck_ok (lim : Nat) (H : Heap) (rows : Tb) :
    ACall sig lim 58 [.agg [rowsAV rows]] H fun r H' => r = AV.i (checkS rows) ∧ H' = H := by
  refine ACall_pure (fa := fa58) rfl rfl rfl rfl ?_
  have tr : ∀ a0 : AV, env0 fa58.keep [a0] = [(0, a0), (1, .any), (2, .any), (3, .any), (4, .any), (5, .any), (6, .any), (7, .any), (8, .any), (9, .any), (10, .any), (14, .any), (17, .any), (18, .any), (19, .any), (20, .any), (24, .any), (25, .any), (26, .any), (27, .any), (61, .any), (68, .any), (75, .any), (76, .any), (77, .any), (78, .any), (112, .any)] := fun a0 => rfl
  refine W_to (tr _) ?_; clear tr
  refine at_seq rfl ?_
  refine rg rfl ?_
  refine R_box rfl (by simp (disch := first | omega | (simp only [List.length_map, List.length_append, List.length_set, List.length_cons, List.length_nil, List.length_take, List.length_drop]; omega)) only [go_sem, ↓reduceIte, Nat.reduceEqDiff, reduceCtorEq]; rfl) rfl rfl ?_
  refine Rq ?_
  have tr : ∀ y0 y1 y2 y3 y4 y5 y6 y7 y8 y9 y10 y14 y17 y18 y19 y20 y24 y25 y26 y27 y61 y68 y75 y76 y77 y78 y112 z0 z1 : AV, trim [(2, z1), (1, z0), (0, y0), (1, y1), (2, y2), (3, y3), (4, y4), (5, y5), (6, y6), (7, y7), (8, y8), (9, y9), (10, y10), (14, y14), (17, y17), (18, y18), (19, y19), (20, y20), (24, y24), (25, y25), (26, y26), (27, y27), (61, y61), (68, y68), (75, y75), (76, y76), (77, y77), (78, y78), (112, y112)] [(0, y0), (1, y1), (2, y2), (3, y3), (4, y4), (5, y5), (6, y6), (7, y7), (8, y8), (9, y9), (10, y10), (14, y14), (17, y17), (18, y18), (19, y19), (20, y20), (24, y24), (25, y25), (26, y26), (27, y27), (61, y61), (68, y68), (75, y75), (76, y76), (77, y77), (78, y78), (112, y112)] = [(0, y0), (1, z0), (2, z1), (3, y3), (4, y4), (5, y5), (6, y6), (7, y7), (8, y8), (9, y9), (10, y10), (14, y14), (17, y17), (18, y18), (19, y19), (20, y20), (24, y24), (25, y25), (26, y26), (27, y27), (61, y61), (68, y68), (75, y75), (76, y76), (77, y77), (78, y78), (112, y112)] := fun y0 y1 y2 y3 y4 y5 y6 y7 y8 y9 y10 y14 y17 y18 y19 y20 y24 y25 y26 y27 y61 y68 y75 y76 y77 y78 y112 z0 z1 => rfl
  refine R_nil (tr _ _ _ _ _ _ _ _ _ _ _ _ _ _ _ _ _ _ _ _ _ _ _ _ _ _ _ _ _) ?_; clear tr
  refine then_n ?_
  refine at_seq rfl ?_
  refine at_seq rfl ?_
  refine rg rfl ?_
  refine Rq ?_
  refine Rcall ?_
  refine ACall_eq (rends_ok _ _ _) ?_
  refine Rq ?_
  have tr : ∀ y0 y1 y2 y3 y4 y5 y6 y7 y8 y9 y10 y14 y17 y18 y19 y20 y24 y25 y26 y27 y61 y68 y75 y76 y77 y78 y112 z0 z1 z2 : AV, trim [(3, z2), (12, z1), (11, z0), (0, y0), (1, y1), (2, y2), (3, y3), (4, y4), (5, y5), (6, y6), (7, y7), (8, y8), (9, y9), (10, y10), (14, y14), (17, y17), (18, y18), (19, y19), (20, y20), (24, y24), (25, y25), (26, y26), (27, y27), (61, y61), (68, y68), (75, y75), (76, y76), (77, y77), (78, y78), (112, y112)] [(0, y0), (1, y1), (2, y2), (3, y3), (4, y4), (5, y5), (6, y6), (7, y7), (8, y8), (9, y9), (10, y10), (14, y14), (17, y17), (18, y18), (19, y19), (20, y20), (24, y24), (25, y25), (26, y26), (27, y27), (61, y61), (68, y68), (75, y75), (76, y76), (77, y77), (78, y78), (112, y112)] = [(0, y0), (1, y1), (2, y2), (3, z2), (4, y4), (5, y5), (6, y6), (7, y7), (8, y8), (9, y9), (10, y10), (14, y14), (17, y17), (18, y18), (19, y19), (20, y20), (24, y24), (25, y25), (26, y26), (27, y27), (61, y61), (68, y68), (75, y75), (76, y76), (77, y77), (78, y78), (112, y112)] := fun y0 y1 y2 y3 y4 y5 y6 y7 y8 y9 y10 y14 y17 y18 y19 y20 y24 y25 y26 y27 y61 y68 y75 y76 y77 y78 y112 z0 z1 z2 => rfl
  refine R_nil (tr _ _ _ _ _ _ _ _ _ _ _ _ _ _ _ _ _ _ _ _ _ _ _ _ _ _ _ _ _ _) ?_; clear tr
  refine then_n ?_
  refine at_seq rfl ?_
  refine rg rfl ?_
  refine Rq ?_
  refine Rq ?_
  have tr : ∀ y0 y1 y2 y3 y4 y5 y6 y7 y8 y9 y10 y14 y17 y18 y19 y20 y24 y25 y26 y27 y61 y68 y75 y76 y77 y78 y112 z0 z1 : AV, trim [(14, z1), (13, z0), (0, y0), (1, y1), (2, y2), (3, y3), (4, y4), (5, y5), (6, y6), (7, y7), (8, y8), (9, y9), (10, y10), (14, y14), (17, y17), (18, y18), (19, y19), (20, y20), (24, y24), (25, y25), (26, y26), (27, y27), (61, y61), (68, y68), (75, y75), (76, y76), (77, y77), (78, y78), (112, y112)] [(0, y0), (1, y1), (2, y2), (3, y3), (4, y4), (5, y5), (6, y6), (7, y7), (8, y8), (9, y9), (10, y10), (14, y14), (17, y17), (18, y18), (19, y19), (20, y20), (24, y24), (25, y25), (26, y26), (27, y27), (61, y61), (68, y68), (75, y75), (76, y76), (77, y77), (78, y78), (112, y112)] = [(0, y0), (1, y1), (2, y2), (3, y3), (4, y4), (5, y5), (6, y6), (7, y7), (8, y8), (9, y9), (10, y10), (14, z1), (17, y17), (18, y18), (19, y19), (20, y20), (24, y24), (25, y25), (26, y26), (27, y27), (61, y61), (68, y68), (75, y75), (76, y76), (77, y77), (78, y78), (112, y112)] := fun y0 y1 y2 y3 y4 y5 y6 y7 y8 y9 y10 y14 y17 y18 y19 y20 y24 y25 y26 y27 y61 y68 y75 y76 y77 y78 y112 z0 z1 => rfl
  refine R_nil (tr _ _ _ _ _ _ _ _ _ _ _ _ _ _ _ _ _ _ _ _ _ _ _ _ _ _ _ _ _) ?_; clear tr
  refine then_n ?_
  refine cdd (fun h1 => ?_) (fun h1 => ?_)
  · try simp only [decide_eq_true_eq, decide_eq_false_iff_not, Bool.not_eq_true', Bool.not_eq_false', beq_iff_eq, beq_eq_false_iff_ne, ne_eq] at h1
    refine at_seq rfl ?_
    refine rg rfl ?_
    refine Rq ?_
    refine Rq ?_
    have tr : ∀ y0 y1 y2 y3 y4 y5 y6 y7 y8 y9 y10 y14 y17 y18 y19 y20 y24 y25 y26 y27 y61 y68 y75 y76 y77 y78 y112 z0 z1 : AV, trim [(2, z1), (15, z0), (0, y0), (1, y1), (2, y2), (3, y3), (4, y4), (5, y5), (6, y6), (7, y7), (8, y8), (9, y9), (10, y10), (14, y14), (17, y17), (18, y18), (19, y19), (20, y20), (24, y24), (25, y25), (26, y26), (27, y27), (61, y61), (68, y68), (75, y75), (76, y76), (77, y77), (78, y78), (112, y112)] [(0, y0), (1, y1), (2, y2), (3, y3), (4, y4), (5, y5), (6, y6), (7, y7), (8, y8), (9, y9), (10, y10), (14, y14), (17, y17), (18, y18), (19, y19), (20, y20), (24, y24), (25, y25), (26, y26), (27, y27), (61, y61), (68, y68), (75, y75), (76, y76), (77, y77), (78, y78), (112, y112)] = [(0, y0), (1, y1), (2, z1), (3, y3), (4, y4), (5, y5), (6, y6), (7, y7), (8, y8), (9, y9), (10, y10), (14, y14), (17, y17), (18, y18), (19, y19), (20, y20), (24, y24), (25, y25), (26, y26), (27, y27), (61, y61), (68, y68), (75, y75), (76, y76), (77, y77), (78, y78), (112, y112)] := fun y0 y1 y2 y3 y4 y5 y6 y7 y8 y9 y10 y14 y17 y18 y19 y20 y24 y25 y26 y27 y61 y68 y75 y76 y77 y78 y112 z0 z1 => rfl
    refine R_nil (tr _ _ _ _ _ _ _ _ _ _ _ _ _ _ _ _ _ _ _ _ _ _ _ _ _ _ _ _ _) ?_; clear tr
    refine then_n ?_
    refine at_ret rfl ?_
    refine then_r ?_
    refine fpure ?_
    refine ⟨?_, rfl⟩
    rw [raw_check h1]
  · try simp only [decide_eq_true_eq, decide_eq_false_iff_not, Bool.not_eq_true', Bool.not_eq_false', beq_iff_eq, beq_eq_false_iff_ne, ne_eq] at h1
    refine at_skip rfl ?_
    refine then_n ?_
    refine at_seq rfl ?_
    refine at_seq rfl ?_
    refine rg rfl ?_
    have hs0 := (raw_zero (by assumption)).1
    have he0 := (raw_zero (by assumption)).2
    obtain ⟨g2, g91, g1, g10, gl, gr⟩ := shaped_of hs0
    refine Rq ?_
    refine Rq ?_
    refine Rq ?_
    refine Rq ?_
    have tr : ∀ y0 y1 y2 y3 y4 y5 y6 y7 y8 y9 y10 y14 y17 y18 y19 y20 y24 y25 y26 y27 y61 y68 y75 y76 y77 y78 y112 z0 z1 z2 z3 : AV, trim [(19, z3), (18, z2), (17, z1), (16, z0), (0, y0), (1, y1), (2, y2), (3, y3), (4, y4), (5, y5), (6, y6), (7, y7), (8, y8), (9, y9), (10, y10), (14, y14), (17, y17), (18, y18), (19, y19), (20, y20), (24, y24), (25, y25), (26, y26), (27, y27), (61, y61), (68, y68), (75, y75), (76, y76), (77, y77), (78, y78), (112, y112)] [(0, y0), (1, y1), (2, y2), (3, y3), (4, y4), (5, y5), (6, y6), (7, y7), (8, y8), (9, y9), (10, y10), (14, y14), (17, y17), (18, y18), (19, y19), (20, y20), (24, y24), (25, y25), (26, y26), (27, y27), (61, y61), (68, y68), (75, y75), (76, y76), (77, y77), (78, y78), (112, y112)] = [(0, y0), (1, y1), (2, y2), (3, y3), (4, y4), (5, y5), (6, y6), (7, y7), (8, y8), (9, y9), (10, y10), (14, y14), (17, z1), (18, z2), (19, z3), (20, y20), (24, y24), (25, y25), (26, y26), (27, y27), (61, y61), (68, y68), (75, y75), (76, y76), (77, y77), (78, y78), (112, y112)] := fun y0 y1 y2 y3 y4 y5 y6 y7 y8 y9 y10 y14 y17 y18 y19 y20 y24 y25 y26 y27 y61 y68 y75 y76 y77 y78 y112 z0 z1 z2 z3 => rfl
    refine R_nil (tr _ _ _ _ _ _ _ _ _ _ _ _ _ _ _ _ _ _ _ _ _ _ _ _ _ _ _ _ _ _ _) ?_; clear tr
    refine then_n ?_
    refine at_block rfl ?_
    refine loop_n rfl (fun mm kv H' => ∃ u : Nat, ∃ x2 x4 x5 x6 x7 x20 x24 x25 x26 x27 x61 : AV, (kv = [(2, x2), (4, x4), (5, x5), (6, x6), (7, x7), (19, AV.i u), (20, x20), (24, x24), (25, x25), (26, x26), (27, x27), (61, x61)]) ∧ (mm = rows.length - u) ∧ (H' = H ++ [some [rowsAV rows]]) ∧ (u ≤ rows.length) ∧ (∀ i, i < u → ∀ w, w < (gt rows i).length → (0 < i → gt (gt rows (i - 1)) w ≤ gt (gt rows i) w) ∧ (w + 1 < (gt rows i).length → gt (gt rows i) (w + 1) ≤ gt (gt rows i) w))) ⟨0, _, _, _, _, _, _, _, _, _, _, _, rfl, rfl, rfl, by omega, by intro i hi; omega⟩ (by rfl) ?_
    rintro mm kv H' ⟨u, x2, x4, x5, x6, x7, x20, x24, x25, x26, x27, x61, rfl, rfl, rfl, hu, hq⟩
    have tr : ∀ y0 y1 y2 y3 y4 y5 y6 y7 y8 y9 y10 y14 y17 y18 y19 y20 y24 y25 y26 y27 y61 y68 y75 y76 y77 y78 y112 z2 z4 z5 z6 z7 z19 z20 z24 z25 z26 z27 z61 : AV, upd [(0, y0), (1, y1), (2, y2), (3, y3), (4, y4), (5, y5), (6, y6), (7, y7), (8, y8), (9, y9), (10, y10), (14, y14), (17, y17), (18, y18), (19, y19), (20, y20), (24, y24), (25, y25), (26, y26), (27, y27), (61, y61), (68, y68), (75, y75), (76, y76), (77, y77), (78, y78), (112, y112)] [(2, z2), (4, z4), (5, z5), (6, z6), (7, z7), (19, z19), (20, z20), (24, z24), (25, z25), (26, z26), (27, z27), (61, z61)] = [(0, y0), (1, y1), (2, z2), (3, y3), (4, z4), (5, z5), (6, z6), (7, z7), (8, y8), (9, y9), (10, y10), (14, y14), (17, y17), (18, y18), (19, z19), (20, z20), (24, z24), (25, z25), (26, z26), (27, z27), (61, z61), (68, y68), (75, y75), (76, y76), (77, y77), (78, y78), (112, y112)] := fun y0 y1 y2 y3 y4 y5 y6 y7 y8 y9 y10 y14 y17 y18 y19 y20 y24 y25 y26 y27 y61 y68 y75 y76 y77 y78 y112 z2 z4 z5 z6 z7 z19 z20 z24 z25 z26 z27 z61 => rfl
    refine W_to (tr _ _ _ _ _ _ _ _ _ _ _ _ _ _ _ _ _ _ _ _ _ _ _ _ _ _ _ _ _ _ _ _ _ _ _ _ _ _ _) ?_; clear tr
    refine at_seq rfl ?_
    refine rg rfl ?_
    refine Rq ?_
    have tr : ∀ y0 y1 y2 y3 y4 y5 y6 y7 y8 y9 y10 y14 y17 y18 y19 y20 y24 y25 y26 y27 y61 y68 y75 y76 y77 y78 y112 z0 : AV, trim [(20, z0), (0, y0), (1, y1), (2, y2), (3, y3), (4, y4), (5, y5), (6, y6), (7, y7), (8, y8), (9, y9), (10, y10), (14, y14), (17, y17), (18, y18), (19, y19), (20, y20), (24, y24), (25, y25), (26, y26), (27, y27), (61, y61), (68, y68), (75, y75), (76, y76), (77, y77), (78, y78), (112, y112)] [(0, y0), (1, y1), (2, y2), (3, y3), (4, y4), (5, y5), (6, y6), (7, y7), (8, y8), (9, y9), (10, y10), (14, y14), (17, y17), (18, y18), (19, y19), (20, y20), (24, y24), (25, y25), (26, y26), (27, y27), (61, y61), (68, y68), (75, y75), (76, y76), (77, y77), (78, y78), (112, y112)] = [(0, y0), (1, y1), (2, y2), (3, y3), (4, y4), (5, y5), (6, y6), (7, y7), (8, y8), (9, y9), (10, y10), (14, y14), (17, y17), (18, y18), (19, y19), (20, z0), (24, y24), (25, y25), (26, y26), (27, y27), (61, y61), (68, y68), (75, y75), (76, y76), (77, y77), (78, y78), (112, y112)] := fun y0 y1 y2 y3 y4 y5 y6 y7 y8 y9 y10 y14 y17 y18 y19 y20 y24 y25 y26 y27 y61 y68 y75 y76 y77 y78 y112 z0 => rfl
    refine R_nil (tr _ _ _ _ _ _ _ _ _ _ _ _ _ _ _ _ _ _ _ _ _ _ _ _ _ _ _ _) ?_; clear tr
    refine then_n ?_
    refine at_seq rfl ?_
    refine cdd (fun h2 => ?_) (fun h2 => ?_)
    · try simp only [decide_eq_true_eq, decide_eq_false_iff_not, Bool.not_eq_true', Bool.not_eq_false', beq_iff_eq, beq_eq_false_iff_ne, ne_eq] at h2
      refine at_skip rfl ?_
      refine then_n ?_
      refine at_seq rfl ?_
      refine at_block rfl ?_
      refine at_seq rfl ?_
      refine rg rfl ?_
      refine Rq ?_
      refine Rq ?_
      refine Rq ?_
      refine Rq ?_
      refine Rq ?_
      have tr : ∀ y0 y1 y2 y3 y4 y5 y6 y7 y8 y9 y10 y14 y17 y18 y19 y20 y24 y25 y26 y27 y61 y68 y75 y76 y77 y78 y112 z0 z1 z2 z3 z4 : AV, trim [(5, z4), (4, z3), (23, z2), (22, z1), (21, z0), (0, y0), (1, y1), (2, y2), (3, y3), (4, y4), (5, y5), (6, y6), (7, y7), (8, y8), (9, y9), (10, y10), (14, y14), (17, y17), (18, y18), (19, y19), (20, y20), (24, y24), (25, y25), (26, y26), (27, y27), (61, y61), (68, y68), (75, y75), (76, y76), (77, y77), (78, y78), (112, y112)] [(0, y0), (1, y1), (2, y2), (3, y3), (4, y4), (5, y5), (6, y6), (7, y7), (8, y8), (9, y9), (10, y10), (14, y14), (17, y17), (18, y18), (19, y19), (20, y20), (24, y24), (25, y25), (26, y26), (27, y27), (61, y61), (68, y68), (75, y75), (76, y76), (77, y77), (78, y78), (112, y112)] = [(0, y0), (1, y1), (2, y2), (3, y3), (4, z3), (5, z4), (6, y6), (7, y7), (8, y8), (9, y9), (10, y10), (14, y14), (17, y17), (18, y18), (19, y19), (20, y20), (24, y24), (25, y25), (26, y26), (27, y27), (61, y61), (68, y68), (75, y75), (76, y76), (77, y77), (78, y78), (112, y112)] := fun y0 y1 y2 y3 y4 y5 y6 y7 y8 y9 y10 y14 y17 y18 y19 y20 y24 y25 y26 y27 y61 y68 y75 y76 y77 y78 y112 z0 z1 z2 z3 z4 => rfl
      refine R_nil (tr _ _ _ _ _ _ _ _ _ _ _ _ _ _ _ _ _ _ _ _ _ _ _ _ _ _ _ _ _ _ _ _) ?_; clear tr
      refine then_n ?_
      refine at_seq rfl ?_
      refine rg rfl ?_
      have hlu := gl u (by omega)
      have hlu1 := gl (u - 1) (by omega)
      refine Rq ?_
      refine Rq ?_
      refine Rq ?_
      have tr : ∀ y0 y1 y2 y3 y4 y5 y6 y7 y8 y9 y10 y14 y17 y18 y19 y20 y24 y25 y26 y27 y61 y68 y75 y76 y77 y78 y112 z0 z1 z2 : AV, trim [(26, z2), (25, z1), (24, z0), (0, y0), (1, y1), (2, y2), (3, y3), (4, y4), (5, y5), (6, y6), (7, y7), (8, y8), (9, y9), (10, y10), (14, y14), (17, y17), (18, y18), (19, y19), (20, y20), (24, y24), (25, y25), (26, y26), (27, y27), (61, y61), (68, y68), (75, y75), (76, y76), (77, y77), (78, y78), (112, y112)] [(0, y0), (1, y1), (2, y2), (3, y3), (4, y4), (5, y5), (6, y6), (7, y7), (8, y8), (9, y9), (10, y10), (14, y14), (17, y17), (18, y18), (19, y19), (20, y20), (24, y24), (25, y25), (26, y26), (27, y27), (61, y61), (68, y68), (75, y75), (76, y76), (77, y77), (78, y78), (112, y112)] = [(0, y0), (1, y1), (2, y2), (3, y3), (4, y4), (5, y5), (6, y6), (7, y7), (8, y8), (9, y9), (10, y10), (14, y14), (17, y17), (18, y18), (19, y19), (20, y20), (24, z0), (25, z1), (26, z2), (27, y27), (61, y61), (68, y68), (75, y75), (76, y76), (77, y77), (78, y78), (112, y112)] := fun y0 y1 y2 y3 y4 y5 y6 y7 y8 y9 y10 y14 y17 y18 y19 y20 y24 y25 y26 y27 y61 y68 y75 y76 y77 y78 y112 z0 z1 z2 => rfl
      refine R_nil (tr _ _ _ _ _ _ _ _ _ _ _ _ _ _ _ _ _ _ _ _ _ _ _ _ _ _ _ _ _ _) ?_; clear tr
      refine then_n ?_
      refine at_block rfl ?_
      refine loop_n rfl (fun mm kv H' => ∃ w : Nat, ∃ x2 x6 x7 x27 x61 : AV, (kv = [(2, x2), (6, x6), (7, x7), (26, AV.i w), (27, x27), (61, x61)]) ∧ (mm = (gt rows u).length - w) ∧ (H' = H ++ [some [rowsAV rows]]) ∧ (w ≤ (gt rows u).length) ∧ (∀ j, j < w → (0 < u → gt (gt rows (u - 1)) j ≤ gt (gt rows u) j) ∧ (j + 1 < (gt rows u).length → gt (gt rows u) (j + 1) ≤ gt (gt rows u) j))) ⟨0, _, _, _, _, _, rfl, rfl, rfl, by omega, by intro i hi; omega⟩ (by rfl) ?_
      rintro mm kv H' ⟨w, x2, x6, x7, x27, x61, rfl, rfl, rfl, hw, hs⟩
      have tr : ∀ y0 y1 y2 y3 y4 y5 y6 y7 y8 y9 y10 y14 y17 y18 y19 y20 y24 y25 y26 y27 y61 y68 y75 y76 y77 y78 y112 z2 z6 z7 z26 z27 z61 : AV, upd [(0, y0), (1, y1), (2, y2), (3, y3), (4, y4), (5, y5), (6, y6), (7, y7), (8, y8), (9, y9), (10, y10), (14, y14), (17, y17), (18, y18), (19, y19), (20, y20), (24, y24), (25, y25), (26, y26), (27, y27), (61, y61), (68, y68), (75, y75), (76, y76), (77, y77), (78, y78), (112, y112)] [(2, z2), (6, z6), (7, z7), (26, z26), (27, z27), (61, z61)] = [(0, y0), (1, y1), (2, z2), (3, y3), (4, y4), (5, y5), (6, z6), (7, z7), (8, y8), (9, y9), (10, y10), (14, y14), (17, y17), (18, y18), (19, y19), (20, y20), (24, y24), (25, y25), (26, z26), (27, z27), (61, z61), (68, y68), (75, y75), (76, y76), (77, y77), (78, y78), (112, y112)] := fun y0 y1 y2 y3 y4 y5 y6 y7 y8 y9 y10 y14 y17 y18 y19 y20 y24 y25 y26 y27 y61 y68 y75 y76 y77 y78 y112 z2 z6 z7 z26 z27 z61 => rfl
      refine W_to (tr _ _ _ _ _ _ _ _ _ _ _ _ _ _ _ _ _ _ _ _ _ _ _ _ _ _ _ _ _ _ _ _ _) ?_; clear tr
      refine at_seq rfl ?_
      refine rg rfl ?_
      refine Rq ?_
      have tr : ∀ y0 y1 y2 y3 y4 y5 y6 y7 y8 y9 y10 y14 y17 y18 y19 y20 y24 y25 y26 y27 y61 y68 y75 y76 y77 y78 y112 z0 : AV, trim [(27, z0), (0, y0), (1, y1), (2, y2), (3, y3), (4, y4), (5, y5), (6, y6), (7, y7), (8, y8), (9, y9), (10, y10), (14, y14), (17, y17), (18, y18), (19, y19), (20, y20), (24, y24), (25, y25), (26, y26), (27, y27), (61, y61), (68, y68), (75, y75), (76, y76), (77, y77), (78, y78), (112, y112)] [(0, y0), (1, y1), (2, y2), (3, y3), (4, y4), (5, y5), (6, y6), (7, y7), (8, y8), (9, y9), (10, y10), (14, y14), (17, y17), (18, y18), (19, y19), (20, y20), (24, y24), (25, y25), (26, y26), (27, y27), (61, y61), (68, y68), (75, y75), (76, y76), (77, y77), (78, y78), (112, y112)] = [(0, y0), (1, y1), (2, y2), (3, y3), (4, y4), (5, y5), (6, y6), (7, y7), (8, y8), (9, y9), (10, y10), (14, y14), (17, y17), (18, y18), (19, y19), (20, y20), (24, y24), (25, y25), (26, y26), (27, z0), (61, y61), (68, y68), (75, y75), (76, y76), (77, y77), (78, y78), (112, y112)] := fun y0 y1 y2 y3 y4 y5 y6 y7 y8 y9 y10 y14 y17 y18 y19 y20 y24 y25 y26 y27 y61 y68 y75 y76 y77 y78 y112 z0 => rfl
      refine R_nil (tr _ _ _ _ _ _ _ _ _ _ _ _ _ _ _ _ _ _ _ _ _ _ _ _ _ _ _ _) ?_; clear tr
      refine then_n ?_
      refine at_seq rfl ?_
      refine cdd (fun h3 => ?_) (fun h3 => ?_)
      · try simp only [decide_eq_true_eq, decide_eq_false_iff_not, Bool.not_eq_true', Bool.not_eq_false', beq_iff_eq, beq_eq_false_iff_ne, ne_eq] at h3
        refine at_skip rfl ?_
        refine then_n ?_
        refine at_seq rfl ?_
        refine at_block rfl ?_
        refine at_seq rfl ?_
        refine rg rfl ?_
        refine Rq ?_
        refine Rq ?_
        refine Rq ?_
        refine Rq ?_
        refine Rq ?_
        have tr : ∀ y0 y1 y2 y3 y4 y5 y6 y7 y8 y9 y10 y14 y17 y18 y19 y20 y24 y25 y26 y27 y61 y68 y75 y76 y77 y78 y112 z0 z1 z2 z3 z4 : AV, trim [(7, z4), (6, z3), (30, z2), (29, z1), (28, z0), (0, y0), (1, y1), (2, y2), (3, y3), (4, y4), (5, y5), (6, y6), (7, y7), (8, y8), (9, y9), (10, y10), (14, y14), (17, y17), (18, y18), (19, y19), (20, y20), (24, y24), (25, y25), (26, y26), (27, y27), (61, y61), (68, y68), (75, y75), (76, y76), (77, y77), (78, y78), (112, y112)] [(0, y0), (1, y1), (2, y2), (3, y3), (4, y4), (5, y5), (6, y6), (7, y7), (8, y8), (9, y9), (10, y10), (14, y14), (17, y17), (18, y18), (19, y19), (20, y20), (24, y24), (25, y25), (26, y26), (27, y27), (61, y61), (68, y68), (75, y75), (76, y76), (77, y77), (78, y78), (112, y112)] = [(0, y0), (1, y1), (2, y2), (3, y3), (4, y4), (5, y5), (6, z3), (7, z4), (8, y8), (9, y9), (10, y10), (14, y14), (17, y17), (18, y18), (19, y19), (20, y20), (24, y24), (25, y25), (26, y26), (27, y27), (61, y61), (68, y68), (75, y75), (76, y76), (77, y77), (78, y78), (112, y112)] := fun y0 y1 y2 y3 y4 y5 y6 y7 y8 y9 y10 y14 y17 y18 y19 y20 y24 y25 y26 y27 y61 y68 y75 y76 y77 y78 y112 z0 z1 z2 z3 z4 => rfl
        refine R_nil (tr _ _ _ _ _ _ _ _ _ _ _ _ _ _ _ _ _ _ _ _ _ _ _ _ _ _ _ _ _ _ _ _) ?_; clear tr
        refine then_n ?_
        refine at_seq rfl ?_
        refine rg rfl ?_
        refine Rq ?_
        refine Rq ?_
        refine Rq ?_
        refine Rp_split (fun h4 => ?_) (fun h4 => ?_)
        · try simp only [decide_eq_true_eq, decide_eq_false_iff_not, Bool.not_eq_true', Bool.not_eq_false', beq_iff_eq, beq_eq_false_iff_ne, ne_eq] at h4
          refine Ry ?_
          refine Rq ?_
          refine Ry ?_
          refine Rq ?_
          refine Ry ?_
          refine Rq ?_
          refine Ry ?_
          refine Rq ?_
          refine Ry ?_
          refine Rq ?_
          refine Ry ?_
          refine Rq ?_
          refine Ry ?_
          refine Rq ?_
          refine Ry ?_
          refine Rq ?_
          refine Ry ?_
          refine Rq ?_
          refine Ry ?_
          refine Rq ?_
          refine Ry ?_
          refine Rq ?_
          refine Rq ?_
          refine Rq ?_
          refine Rp_split (fun h5 => ?_) (fun h5 => ?_)
          · try simp only [decide_eq_true_eq, decide_eq_false_iff_not, Bool.not_eq_true', Bool.not_eq_false', beq_iff_eq, beq_eq_false_iff_ne, ne_eq] at h5
            refine Rn ?_
            refine Rn ?_
            refine Rn ?_
            refine Rn ?_
            refine Rn ?_
            refine Rn ?_
            refine Ru ?_
            refine Ru ?_
            refine Ru ?_
            refine Ru ?_
            refine Ru ?_
            refine Ru ?_
            refine Ru ?_
            refine Rn ?_
            refine Rq ?_
            have tr : ∀ y0 y1 y2 y3 y4 y5 y6 y7 y8 y9 y10 y14 y17 y18 y19 y20 y24 y25 y26 y27 y61 y68 y75 y76 y77 y78 y112 z0 z1 z2 z3 z4 z5 z6 z7 z8 z9 z10 z11 z12 z13 z14 z15 z16 z17 z18 z19 z20 z21 z22 z23 z24 z25 z26 z27 z28 z29 z30 : AV, trim [(61, z30), (60, z29), (59, z28), (58, z27), (57, z26), (56, z25), (55, z24), (54, z23), (53, z22), (52, z21), (51, z20), (50, z19), (49, z18), (48, z17), (47, z16), (46, z15), (45, z14), (44, z13), (43, z12), (42, z11), (41, z10), (40, z9), (39, z8), (38, z7), (37, z6), (36, z5), (35, z4), (34, z3), (33, z2), (32, z1), (31, z0), (0, y0), (1, y1), (2, y2), (3, y3), (4, y4), (5, y5), (6, y6), (7, y7), (8, y8), (9, y9), (10, y10), (14, y14), (17, y17), (18, y18), (19, y19), (20, y20), (24, y24), (25, y25), (26, y26), (27, y27), (61, y61), (68, y68), (75, y75), (76, y76), (77, y77), (78, y78), (112, y112)] [(0, y0), (1, y1), (2, y2), (3, y3), (4, y4), (5, y5), (6, y6), (7, y7), (8, y8), (9, y9), (10, y10), (14, y14), (17, y17), (18, y18), (19, y19), (20, y20), (24, y24), (25, y25), (26, y26), (27, y27), (61, y61), (68, y68), (75, y75), (76, y76), (77, y77), (78, y78), (112, y112)] = [(0, y0), (1, y1), (2, y2), (3, y3), (4, y4), (5, y5), (6, y6), (7, y7), (8, y8), (9, y9), (10, y10), (14, y14), (17, y17), (18, y18), (19, y19), (20, y20), (24, y24), (25, y25), (26, y26), (27, y27), (61, z30), (68, y68), (75, y75), (76, y76), (77, y77), (78, y78), (112, y112)] := fun y0 y1 y2 y3 y4 y5 y6 y7 y8 y9 y10 y14 y17 y18 y19 y20 y24 y25 y26 y27 y61 y68 y75 y76 y77 y78 y112 z0 z1 z2 z3 z4 z5 z6 z7 z8 z9 z10 z11 z12 z13 z14 z15 z16 z17 z18 z19 z20 z21 z22 z23 z24 z25 z26 z27 z28 z29 z30 => rfl
            refine R_nil (tr _ _ _ _ _ _ _ _ _ _ _ _ _ _ _ _ _ _ _ _ _ _ _ _ _ _ _ _ _ _ _ _ _ _ _ _ _ _ _ _ _ _ _ _ _ _ _ _ _ _ _ _ _ _ _ _ _ _) ?_; clear tr
            refine then_n ?_
            refine cdt ?_
            refine at_seq rfl ?_
            refine rg rfl ?_
            refine Rq ?_
            have tr : ∀ y0 y1 y2 y3 y4 y5 y6 y7 y8 y9 y10 y14 y17 y18 y19 y20 y24 y25 y26 y27 y61 y68 y75 y76 y77 y78 y112 z0 : AV, trim [(2, z0), (0, y0), (1, y1), (2, y2), (3, y3), (4, y4), (5, y5), (6, y6), (7, y7), (8, y8), (9, y9), (10, y10), (14, y14), (17, y17), (18, y18), (19, y19), (20, y20), (24, y24), (25, y25), (26, y26), (27, y27), (61, y61), (68, y68), (75, y75), (76, y76), (77, y77), (78, y78), (112, y112)] [(0, y0), (1, y1), (2, y2), (3, y3), (4, y4), (5, y5), (6, y6), (7, y7), (8, y8), (9, y9), (10, y10), (14, y14), (17, y17), (18, y18), (19, y19), (20, y20), (24, y24), (25, y25), (26, y26), (27, y27), (61, y61), (68, y68), (75, y75), (76, y76), (77, y77), (78, y78), (112, y112)] = [(0, y0), (1, y1), (2, z0), (3, y3), (4, y4), (5, y5), (6, y6), (7, y7), (8, y8), (9, y9), (10, y10), (14, y14), (17, y17), (18, y18), (19, y19), (20, y20), (24, y24), (25, y25), (26, y26), (27, y27), (61, y61), (68, y68), (75, y75), (76, y76), (77, y77), (78, y78), (112, y112)] := fun y0 y1 y2 y3 y4 y5 y6 y7 y8 y9 y10 y14 y17 y18 y19 y20 y24 y25 y26 y27 y61 y68 y75 y76 y77 y78 y112 z0 => rfl
            refine R_nil (tr _ _ _ _ _ _ _ _ _ _ _ _ _ _ _ _ _ _ _ _ _ _ _ _ _ _ _ _) ?_; clear tr
            refine then_n ?_
            refine at_ret rfl ?_
            refine blk_r ?_
            refine then_r ?_
            refine then_r ?_
            refine blk_r ?_
            refine blk_r ?_
            refine then_r ?_
            refine then_r ?_
            refine blk_r ?_
            refine then_r ?_
            refine fpure ?_
            refine ⟨?_, rfl⟩
            rw [checkS, if_neg (fun hh => hh hs0), if_neg (fun hh => hh he0), if_pos (fun hh => absurd ((hh u (by omega) w (by omega)).1 (by omega)) (by omega))]
          · try simp only [decide_eq_true_eq, decide_eq_false_iff_not, Bool.not_eq_true', Bool.not_eq_false', beq_iff_eq, beq_eq_false_iff_ne, ne_eq] at h5
            refine Ry ?_
            refine Rq ?_
            refine Ry ?_
            refine Rq ?_
            refine Ry ?_
            refine Rq ?_
            refine Ry ?_
            refine Rq ?_
            refine Ry ?_
            refine Rq ?_
            refine Ry ?_
            refine Rq ?_
            refine Rp_split (fun h6 => ?_) (fun h6 => ?_)
            · try simp only [decide_eq_true_eq, decide_eq_false_iff_not, Bool.not_eq_true', Bool.not_eq_false', beq_iff_eq, beq_eq_false_iff_ne, ne_eq] at h6
              refine Ry ?_
              refine Rq ?_
              refine Ry ?_
              refine Rq ?_
              refine Ry ?_
              refine Rq ?_
              refine Ry ?_
              refine Rq ?_
              refine Ry ?_
              refine Rq ?_
              refine Ry ?_
              refine Rq ?_
              refine Ry ?_
              refine Rq ?_
              refine Ry ?_
              refine Rq ?_
              refine Rq ?_
              have tr : ∀ y0 y1 y2 y3 y4 y5 y6 y7 y8 y9 y10 y14 y17 y18 y19 y20 y24 y25 y26 y27 y61 y68 y75 y76 y77 y78 y112 z0 z1 z2 z3 z4 z5 z6 z7 z8 z9 z10 z11 z12 z13 z14 z15 z16 z17 z18 z19 z20 z21 z22 z23 z24 z25 z26 z27 z28 z29 z30 : AV, trim [(61, z30), (60, z29), (59, z28), (58, z27), (57, z26), (56, z25), (55, z24), (54, z23), (53, z22), (52, z21), (51, z20), (50, z19), (49, z18), (48, z17), (47, z16), (46, z15), (45, z14), (44, z13), (43, z12), (42, z11), (41, z10), (40, z9), (39, z8), (38, z7), (37, z6), (36, z5), (35, z4), (34, z3), (33, z2), (32, z1), (31, z0), (0, y0), (1, y1), (2, y2), (3, y3), (4, y4), (5, y5), (6, y6), (7, y7), (8, y8), (9, y9), (10, y10), (14, y14), (17, y17), (18, y18), (19, y19), (20, y20), (24, y24), (25, y25), (26, y26), (27, y27), (61, y61), (68, y68), (75, y75), (76, y76), (77, y77), (78, y78), (112, y112)] [(0, y0), (1, y1), (2, y2), (3, y3), (4, y4), (5, y5), (6, y6), (7, y7), (8, y8), (9, y9), (10, y10), (14, y14), (17, y17), (18, y18), (19, y19), (20, y20), (24, y24), (25, y25), (26, y26), (27, y27), (61, y61), (68, y68), (75, y75), (76, y76), (77, y77), (78, y78), (112, y112)] = [(0, y0), (1, y1), (2, y2), (3, y3), (4, y4), (5, y5), (6, y6), (7, y7), (8, y8), (9, y9), (10, y10), (14, y14), (17, y17), (18, y18), (19, y19), (20, y20), (24, y24), (25, y25), (26, y26), (27, y27), (61, z30), (68, y68), (75, y75), (76, y76), (77, y77), (78, y78), (112, y112)] := fun y0 y1 y2 y3 y4 y5 y6 y7 y8 y9 y10 y14 y17 y18 y19 y20 y24 y25 y26 y27 y61 y68 y75 y76 y77 y78 y112 z0 z1 z2 z3 z4 z5 z6 z7 z8 z9 z10 z11 z12 z13 z14 z15 z16 z17 z18 z19 z20 z21 z22 z23 z24 z25 z26 z27 z28 z29 z30 => rfl
              refine R_nil (tr _ _ _ _ _ _ _ _ _ _ _ _ _ _ _ _ _ _ _ _ _ _ _ _ _ _ _ _ _ _ _ _ _ _ _ _ _ _ _ _ _ _ _ _ _ _ _ _ _ _ _ _ _ _ _ _ _ _) ?_; clear tr
              refine then_n ?_
              refine cdd (fun h7 => ?_) (fun h7 => ?_)
              · try simp only [decide_eq_true_eq, decide_eq_false_iff_not, Bool.not_eq_true', Bool.not_eq_false', beq_iff_eq, beq_eq_false_iff_ne, ne_eq] at h7
                refine at_seq rfl ?_
                refine rg rfl ?_
                refine Rq ?_
                have tr : ∀ y0 y1 y2 y3 y4 y5 y6 y7 y8 y9 y10 y14 y17 y18 y19 y20 y24 y25 y26 y27 y61 y68 y75 y76 y77 y78 y112 z0 : AV, trim [(2, z0), (0, y0), (1, y1), (2, y2), (3, y3), (4, y4), (5, y5), (6, y6), (7, y7), (8, y8), (9, y9), (10, y10), (14, y14), (17, y17), (18, y18), (19, y19), (20, y20), (24, y24), (25, y25), (26, y26), (27, y27), (61, y61), (68, y68), (75, y75), (76, y76), (77, y77), (78, y78), (112, y112)] [(0, y0), (1, y1), (2, y2), (3, y3), (4, y4), (5, y5), (6, y6), (7, y7), (8, y8), (9, y9), (10, y10), (14, y14), (17, y17), (18, y18), (19, y19), (20, y20), (24, y24), (25, y25), (26, y26), (27, y27), (61, y61), (68, y68), (75, y75), (76, y76), (77, y77), (78, y78), (112, y112)] = [(0, y0), (1, y1), (2, z0), (3, y3), (4, y4), (5, y5), (6, y6), (7, y7), (8, y8), (9, y9), (10, y10), (14, y14), (17, y17), (18, y18), (19, y19), (20, y20), (24, y24), (25, y25), (26, y26), (27, y27), (61, y61), (68, y68), (75, y75), (76, y76), (77, y77), (78, y78), (112, y112)] := fun y0 y1 y2 y3 y4 y5 y6 y7 y8 y9 y10 y14 y17 y18 y19 y20 y24 y25 y26 y27 y61 y68 y75 y76 y77 y78 y112 z0 => rfl
                refine R_nil (tr _ _ _ _ _ _ _ _ _ _ _ _ _ _ _ _ _ _ _ _ _ _ _ _ _ _ _ _) ?_; clear tr
                refine then_n ?_
                refine at_ret rfl ?_
                refine blk_r ?_
                refine then_r ?_
                refine then_r ?_
                refine blk_r ?_
                refine blk_r ?_
                refine then_r ?_
                refine then_r ?_
                refine blk_r ?_
                refine then_r ?_
                refine fpure ?_
                refine ⟨?_, rfl⟩
                rw [checkS, if_neg (fun hh => hh hs0), if_neg (fun hh => hh he0), if_pos (fun hh => absurd ((hh u (by omega) w (by omega)).2 (by omega)) (by omega))]
              · try simp only [decide_eq_true_eq, decide_eq_false_iff_not, Bool.not_eq_true', Bool.not_eq_false', beq_iff_eq, beq_eq_false_iff_ne, ne_eq] at h7
                refine at_skip rfl ?_
                refine blk_n ?_
                refine then_n ?_
                refine rg rfl ?_
                refine Rq ?_
                refine Rq ?_
                have tr : ∀ y0 y1 y2 y3 y4 y5 y6 y7 y8 y9 y10 y14 y17 y18 y19 y20 y24 y25 y26 y27 y61 y68 y75 y76 y77 y78 y112 z0 z1 : AV, trim [(26, z1), (62, z0), (0, y0), (1, y1), (2, y2), (3, y3), (4, y4), (5, y5), (6, y6), (7, y7), (8, y8), (9, y9), (10, y10), (14, y14), (17, y17), (18, y18), (19, y19), (20, y20), (24, y24), (25, y25), (26, y26), (27, y27), (61, y61), (68, y68), (75, y75), (76, y76), (77, y77), (78, y78), (112, y112)] [(0, y0), (1, y1), (2, y2), (3, y3), (4, y4), (5, y5), (6, y6), (7, y7), (8, y8), (9, y9), (10, y10), (14, y14), (17, y17), (18, y18), (19, y19), (20, y20), (24, y24), (25, y25), (26, y26), (27, y27), (61, y61), (68, y68), (75, y75), (76, y76), (77, y77), (78, y78), (112, y112)] = [(0, y0), (1, y1), (2, y2), (3, y3), (4, y4), (5, y5), (6, y6), (7, y7), (8, y8), (9, y9), (10, y10), (14, y14), (17, y17), (18, y18), (19, y19), (20, y20), (24, y24), (25, y25), (26, z1), (27, y27), (61, y61), (68, y68), (75, y75), (76, y76), (77, y77), (78, y78), (112, y112)] := fun y0 y1 y2 y3 y4 y5 y6 y7 y8 y9 y10 y14 y17 y18 y19 y20 y24 y25 y26 y27 y61 y68 y75 y76 y77 y78 y112 z0 z1 => rfl
                refine R_nil (tr _ _ _ _ _ _ _ _ _ _ _ _ _ _ _ _ _ _ _ _ _ _ _ _ _ _ _ _ _) ?_; clear tr
                refine then_n ?_
                exact ⟨_, _, ⟨w + 1, _, _, _, _, _, rfl, rfl, rfl, by omega, by exact all_step hs ⟨fun _ => by omega, fun _ => by omega⟩⟩, by rfl, by omega⟩
            · try simp only [decide_eq_true_eq, decide_eq_false_iff_not, Bool.not_eq_true', Bool.not_eq_false', beq_iff_eq, beq_eq_false_iff_ne, ne_eq] at h6
              refine Rn ?_
              refine Rn ?_
              refine Rn ?_
              refine Rn ?_
              refine Rn ?_
              refine Rn ?_
              refine Rn ?_
              refine Ry ?_
              refine Rq ?_
              refine Rq ?_
              have tr : ∀ y0 y1 y2 y3 y4 y5 y6 y7 y8 y9 y10 y14 y17 y18 y19 y20 y24 y25 y26 y27 y61 y68 y75 y76 y77 y78 y112 z0 z1 z2 z3 z4 z5 z6 z7 z8 z9 z10 z11 z12 z13 z14 z15 z16 z17 z18 z19 z20 z21 z22 z23 z24 z25 z26 z27 z28 z29 z30 : AV, trim [(61, z30), (60, z29), (59, z28), (58, z27), (57, z26), (56, z25), (55, z24), (54, z23), (53, z22), (52, z21), (51, z20), (50, z19), (49, z18), (48, z17), (47, z16), (46, z15), (45, z14), (44, z13), (43, z12), (42, z11), (41, z10), (40, z9), (39, z8), (38, z7), (37, z6), (36, z5), (35, z4), (34, z3), (33, z2), (32, z1), (31, z0), (0, y0), (1, y1), (2, y2), (3, y3), (4, y4), (5, y5), (6, y6), (7, y7), (8, y8), (9, y9), (10, y10), (14, y14), (17, y17), (18, y18), (19, y19), (20, y20), (24, y24), (25, y25), (26, y26), (27, y27), (61, y61), (68, y68), (75, y75), (76, y76), (77, y77), (78, y78), (112, y112)] [(0, y0), (1, y1), (2, y2), (3, y3), (4, y4), (5, y5), (6, y6), (7, y7), (8, y8), (9, y9), (10, y10), (14, y14), (17, y17), (18, y18), (19, y19), (20, y20), (24, y24), (25, y25), (26, y26), (27, y27), (61, y61), (68, y68), (75, y75), (76, y76), (77, y77), (78, y78), (112, y112)] = [(0, y0), (1, y1), (2, y2), (3, y3), (4, y4), (5, y5), (6, y6), (7, y7), (8, y8), (9, y9), (10, y10), (14, y14), (17, y17), (18, y18), (19, y19), (20, y20), (24, y24), (25, y25), (26, y26), (27, y27), (61, z30), (68, y68), (75, y75), (76, y76), (77, y77), (78, y78), (112, y112)] := fun y0 y1 y2 y3 y4 y5 y6 y7 y8 y9 y10 y14 y17 y18 y19 y20 y24 y25 y26 y27 y61 y68 y75 y76 y77 y78 y112 z0 z1 z2 z3 z4 z5 z6 z7 z8 z9 z10 z11 z12 z13 z14 z15 z16 z17 z18 z19 z20 z21 z22 z23 z24 z25 z26 z27 z28 z29 z30 => rfl
              refine R_nil (tr _ _ _ _ _ _ _ _ _ _ _ _ _ _ _ _ _ _ _ _ _ _ _ _ _ _ _ _ _ _ _ _ _ _ _ _ _ _ _ _ _ _ _ _ _ _ _ _ _ _ _ _ _ _ _ _ _ _) ?_; clear tr
              refine then_n ?_
              refine cdf ?_
              refine at_skip rfl ?_
              refine blk_n ?_
              refine then_n ?_
              refine rg rfl ?_
              refine Rq ?_
              refine Rq ?_
              have tr : ∀ y0 y1 y2 y3 y4 y5 y6 y7 y8 y9 y10 y14 y17 y18 y19 y20 y24 y25 y26 y27 y61 y68 y75 y76 y77 y78 y112 z0 z1 : AV, trim [(26, z1), (62, z0), (0, y0), (1, y1), (2, y2), (3, y3), (4, y4), (5, y5), (6, y6), (7, y7), (8, y8), (9, y9), (10, y10), (14, y14), (17, y17), (18, y18), (19, y19), (20, y20), (24, y24), (25, y25), (26, y26), (27, y27), (61, y61), (68, y68), (75, y75), (76, y76), (77, y77), (78, y78), (112, y112)] [(0, y0), (1, y1), (2, y2), (3, y3), (4, y4), (5, y5), (6, y6), (7, y7), (8, y8), (9, y9), (10, y10), (14, y14), (17, y17), (18, y18), (19, y19), (20, y20), (24, y24), (25, y25), (26, y26), (27, y27), (61, y61), (68, y68), (75, y75), (76, y76), (77, y77), (78, y78), (112, y112)] = [(0, y0), (1, y1), (2, y2), (3, y3), (4, y4), (5, y5), (6, y6), (7, y7), (8, y8), (9, y9), (10, y10), (14, y14), (17, y17), (18, y18), (19, y19), (20, y20), (24, y24), (25, y25), (26, z1), (27, y27), (61, y61), (68, y68), (75, y75), (76, y76), (77, y77), (78, y78), (112, y112)] := fun y0 y1 y2 y3 y4 y5 y6 y7 y8 y9 y10 y14 y17 y18 y19 y20 y24 y25 y26 y27 y61 y68 y75 y76 y77 y78 y112 z0 z1 => rfl
              refine R_nil (tr _ _ _ _ _ _ _ _ _ _ _ _ _ _ _ _ _ _ _ _ _ _ _ _ _ _ _ _ _) ?_; clear tr
              refine then_n ?_
              exact ⟨_, _, ⟨w + 1, _, _, _, _, _, rfl, rfl, rfl, by omega, by exact all_step hs ⟨fun _ => by omega, fun _ => by omega⟩⟩, by rfl, by omega⟩
        · try simp only [decide_eq_true_eq, decide_eq_false_iff_not, Bool.not_eq_true', Bool.not_eq_false', beq_iff_eq, beq_eq_false_iff_ne, ne_eq] at h4
          refine Rn ?_
          refine Rn ?_
          refine Rn ?_
          refine Rn ?_
          refine Rn ?_
          refine Rn ?_
          refine Rn ?_
          refine Rn ?_
          refine Rn ?_
          refine Rn ?_
          refine Rn ?_
          refine Rq ?_
          refine Rq ?_
          refine Ry ?_
          refine Rq ?_
          refine Ry ?_
          refine Rq ?_
          refine Ry ?_
          refine Rq ?_
          refine Ry ?_
          refine Rq ?_
          refine Ry ?_
          refine Rq ?_
          refine Ry ?_
          refine Rq ?_
          refine Rp_split (fun h8 => ?_) (fun h8 => ?_)
          · try simp only [decide_eq_true_eq, decide_eq_false_iff_not, Bool.not_eq_true', Bool.not_eq_false', beq_iff_eq, beq_eq_false_iff_ne, ne_eq] at h8
            refine Ry ?_
            refine Rq ?_
            refine Ry ?_
            refine Rq ?_
            refine Ry ?_
            refine Rq ?_
            refine Ry ?_
            refine Rq ?_
            refine Ry ?_
            refine Rq ?_
            refine Ry ?_
            refine Rq ?_
            refine Ry ?_
            refine Rq ?_
            refine Ry ?_
            refine Rq ?_
            refine Rq ?_
            have tr : ∀ y0 y1 y2 y3 y4 y5 y6 y7 y8 y9 y10 y14 y17 y18 y19 y20 y24 y25 y26 y27 y61 y68 y75 y76 y77 y78 y112 z0 z1 z2 z3 z4 z5 z6 z7 z8 z9 z10 z11 z12 z13 z14 z15 z16 z17 z18 z19 z20 z21 z22 z23 z24 z25 z26 z27 z28 z29 z30 : AV, trim [(61, z30), (60, z29), (59, z28), (58, z27), (57, z26), (56, z25), (55, z24), (54, z23), (53, z22), (52, z21), (51, z20), (50, z19), (49, z18), (48, z17), (47, z16), (46, z15), (45, z14), (44, z13), (43, z12), (42, z11), (41, z10), (40, z9), (39, z8), (38, z7), (37, z6), (36, z5), (35, z4), (34, z3), (33, z2), (32, z1), (31, z0), (0, y0), (1, y1), (2, y2), (3, y3), (4, y4), (5, y5), (6, y6), (7, y7), (8, y8), (9, y9), (10, y10), (14, y14), (17, y17), (18, y18), (19, y19), (20, y20), (24, y24), (25, y25), (26, y26), (27, y27), (61, y61), (68, y68), (75, y75), (76, y76), (77, y77), (78, y78), (112, y112)] [(0, y0), (1, y1), (2, y2), (3, y3), (4, y4), (5, y5), (6, y6), (7, y7), (8, y8), (9, y9), (10, y10), (14, y14), (17, y17), (18, y18), (19, y19), (20, y20), (24, y24), (25, y25), (26, y26), (27, y27), (61, y61), (68, y68), (75, y75), (76, y76), (77, y77), (78, y78), (112, y112)] = [(0, y0), (1, y1), (2, y2), (3, y3), (4, y4), (5, y5), (6, y6), (7, y7), (8, y8), (9, y9), (10, y10), (14, y14), (17, y17), (18, y18), (19, y19), (20, y20), (24, y24), (25, y25), (26, y26), (27, y27), (61, z30), (68, y68), (75, y75), (76, y76), (77, y77), (78, y78), (112, y112)] := fun y0 y1 y2 y3 y4 y5 y6 y7 y8 y9 y10 y14 y17 y18 y19 y20 y24 y25 y26 y27 y61 y68 y75 y76 y77 y78 y112 z0 z1 z2 z3 z4 z5 z6 z7 z8 z9 z10 z11 z12 z13 z14 z15 z16 z17 z18 z19 z20 z21 z22 z23 z24 z25 z26 z27 z28 z29 z30 => rfl
            refine R_nil (tr _ _ _ _ _ _ _ _ _ _ _ _ _ _ _ _ _ _ _ _ _ _ _ _ _ _ _ _ _ _ _ _ _ _ _ _ _ _ _ _ _ _ _ _ _ _ _ _ _ _ _ _ _ _ _ _ _ _) ?_; clear tr
            refine then_n ?_
            refine cdd (fun h9 => ?_) (fun h9 => ?_)
            · try simp only [decide_eq_true_eq, decide_eq_false_iff_not, Bool.not_eq_true', Bool.not_eq_false', beq_iff_eq, beq_eq_false_iff_ne, ne_eq] at h9
              refine at_seq rfl ?_
              refine rg rfl ?_
              refine Rq ?_
              have tr : ∀ y0 y1 y2 y3 y4 y5 y6 y7 y8 y9 y10 y14 y17 y18 y19 y20 y24 y25 y26 y27 y61 y68 y75 y76 y77 y78 y112 z0 : AV, trim [(2, z0), (0, y0), (1, y1), (2, y2), (3, y3), (4, y4), (5, y5), (6, y6), (7, y7), (8, y8), (9, y9), (10, y10), (14, y14), (17, y17), (18, y18), (19, y19), (20, y20), (24, y24), (25, y25), (26, y26), (27, y27), (61, y61), (68, y68), (75, y75), (76, y76), (77, y77), (78, y78), (112, y112)] [(0, y0), (1, y1), (2, y2), (3, y3), (4, y4), (5, y5), (6, y6), (7, y7), (8, y8), (9, y9), (10, y10), (14, y14), (17, y17), (18, y18), (19, y19), (20, y20), (24, y24), (25, y25), (26, y26), (27, y27), (61, y61), (68, y68), (75, y75), (76, y76), (77, y77), (78, y78), (112, y112)] = [(0, y0), (1, y1), (2, z0), (3, y3), (4, y4), (5, y5), (6, y6), (7, y7), (8, y8), (9, y9), (10, y10), (14, y14), (17, y17), (18, y18), (19, y19), (20, y20), (24, y24), (25, y25), (26, y26), (27, y27), (61, y61), (68, y68), (75, y75), (76, y76), (77, y77), (78, y78), (112, y112)] := fun y0 y1 y2 y3 y4 y5 y6 y7 y8 y9 y10 y14 y17 y18 y19 y20 y24 y25 y26 y27 y61 y68 y75 y76 y77 y78 y112 z0 => rfl
              refine R_nil (tr _ _ _ _ _ _ _ _ _ _ _ _ _ _ _ _ _ _ _ _ _ _ _ _ _ _ _ _) ?_; clear tr
              refine then_n ?_
              refine at_ret rfl ?_
              refine blk_r ?_
              refine then_r ?_
              refine then_r ?_
              refine blk_r ?_
              refine blk_r ?_
              refine then_r ?_
              refine then_r ?_
              refine blk_r ?_
              refine then_r ?_
              refine fpure ?_
              refine ⟨?_, rfl⟩
              rw [checkS, if_neg (fun hh => hh hs0), if_neg (fun hh => hh he0), if_pos (fun hh => absurd ((hh u (by omega) w (by omega)).2 (by omega)) (by omega))]
            · try simp only [decide_eq_true_eq, decide_eq_false_iff_not, Bool.not_eq_true', Bool.not_eq_false', beq_iff_eq, beq_eq_false_iff_ne, ne_eq] at h9
              refine at_skip rfl ?_
              refine blk_n ?_
              refine then_n ?_
              refine rg rfl ?_
              refine Rq ?_
              refine Rq ?_
              have tr : ∀ y0 y1 y2 y3 y4 y5 y6 y7 y8 y9 y10 y14 y17 y18 y19 y20 y24 y25 y26 y27 y61 y68 y75 y76 y77 y78 y112 z0 z1 : AV, trim [(26, z1), (62, z0), (0, y0), (1, y1), (2, y2), (3, y3), (4, y4), (5, y5), (6, y6), (7, y7), (8, y8), (9, y9), (10, y10), (14, y14), (17, y17), (18, y18), (19, y19), (20, y20), (24, y24), (25, y25), (26, y26), (27, y27), (61, y61), (68, y68), (75, y75), (76, y76), (77, y77), (78, y78), (112, y112)] [(0, y0), (1, y1), (2, y2), (3, y3), (4, y4), (5, y5), (6, y6), (7, y7), (8, y8), (9, y9), (10, y10), (14, y14), (17, y17), (18, y18), (19, y19), (20, y20), (24, y24), (25, y25), (26, y26), (27, y27), (61, y61), (68, y68), (75, y75), (76, y76), (77, y77), (78, y78), (112, y112)] = [(0, y0), (1, y1), (2, y2), (3, y3), (4, y4), (5, y5), (6, y6), (7, y7), (8, y8), (9, y9), (10, y10), (14, y14), (17, y17), (18, y18), (19, y19), (20, y20), (24, y24), (25, y25), (26, z1), (27, y27), (61, y61), (68, y68), (75, y75), (76, y76), (77, y77), (78, y78), (112, y112)] := fun y0 y1 y2 y3 y4 y5 y6 y7 y8 y9 y10 y14 y17 y18 y19 y20 y24 y25 y26 y27 y61 y68 y75 y76 y77 y78 y112 z0 z1 => rfl
              refine R_nil (tr _ _ _ _ _ _ _ _ _ _ _ _ _ _ _ _ _ _ _ _ _ _ _ _ _ _ _ _ _) ?_; clear tr
              refine then_n ?_
              exact ⟨_, _, ⟨w + 1, _, _, _, _, _, rfl, rfl, rfl, by omega, by exact all_step hs ⟨fun _ => by omega, fun _ => by omega⟩⟩, by rfl, by omega⟩
          · try simp only [decide_eq_true_eq, decide_eq_false_iff_not, Bool.not_eq_true', Bool.not_eq_false', beq_iff_eq, beq_eq_false_iff_ne, ne_eq] at h8
            refine Rn ?_
            refine Rn ?_
            refine Rn ?_
            refine Rn ?_
            refine Rn ?_
            refine Rn ?_
            refine Rn ?_
            refine Ry ?_
            refine Rq ?_
            refine Rq ?_
            have tr : ∀ y0 y1 y2 y3 y4 y5 y6 y7 y8 y9 y10 y14 y17 y18 y19 y20 y24 y25 y26 y27 y61 y68 y75 y76 y77 y78 y112 z0 z1 z2 z3 z4 z5 z6 z7 z8 z9 z10 z11 z12 z13 z14 z15 z16 z17 z18 z19 z20 z21 z22 z23 z24 z25 z26 z27 z28 z29 z30 : AV, trim [(61, z30), (60, z29), (59, z28), (58, z27), (57, z26), (56, z25), (55, z24), (54, z23), (53, z22), (52, z21), (51, z20), (50, z19), (49, z18), (48, z17), (47, z16), (46, z15), (45, z14), (44, z13), (43, z12), (42, z11), (41, z10), (40, z9), (39, z8), (38, z7), (37, z6), (36, z5), (35, z4), (34, z3), (33, z2), (32, z1), (31, z0), (0, y0), (1, y1), (2, y2), (3, y3), (4, y4), (5, y5), (6, y6), (7, y7), (8, y8), (9, y9), (10, y10), (14, y14), (17, y17), (18, y18), (19, y19), (20, y20), (24, y24), (25, y25), (26, y26), (27, y27), (61, y61), (68, y68), (75, y75), (76, y76), (77, y77), (78, y78), (112, y112)] [(0, y0), (1, y1), (2, y2), (3, y3), (4, y4), (5, y5), (6, y6), (7, y7), (8, y8), (9, y9), (10, y10), (14, y14), (17, y17), (18, y18), (19, y19), (20, y20), (24, y24), (25, y25), (26, y26), (27, y27), (61, y61), (68, y68), (75, y75), (76, y76), (77, y77), (78, y78), (112, y112)] = [(0, y0), (1, y1), (2, y2), (3, y3), (4, y4), (5, y5), (6, y6), (7, y7), (8, y8), (9, y9), (10, y10), (14, y14), (17, y17), (18, y18), (19, y19), (20, y20), (24, y24), (25, y25), (26, y26), (27, y27), (61, z30), (68, y68), (75, y75), (76, y76), (77, y77), (78, y78), (112, y112)] := fun y0 y1 y2 y3 y4 y5 y6 y7 y8 y9 y10 y14 y17 y18 y19 y20 y24 y25 y26 y27 y61 y68 y75 y76 y77 y78 y112 z0 z1 z2 z3 z4 z5 z6 z7 z8 z9 z10 z11 z12 z13 z14 z15 z16 z17 z18 z19 z20 z21 z22 z23 z24 z25 z26 z27 z28 z29 z30 => rfl
            refine R_nil (tr _ _ _ _ _ _ _ _ _ _ _ _ _ _ _ _ _ _ _ _ _ _ _ _ _ _ _ _ _ _ _ _ _ _ _ _ _ _ _ _ _ _ _ _ _ _ _ _ _ _ _ _ _ _ _ _ _ _) ?_; clear tr
            refine then_n ?_
            refine cdf ?_
            refine at_skip rfl ?_
            refine blk_n ?_
            refine then_n ?_
            refine rg rfl ?_
            refine Rq ?_
            refine Rq ?_
            have tr : ∀ y0 y1 y2 y3 y4 y5 y6 y7 y8 y9 y10 y14 y17 y18 y19 y20 y24 y25 y26 y27 y61 y68 y75 y76 y77 y78 y112 z0 z1 : AV, trim [(26, z1), (62, z0), (0, y0), (1, y1), (2, y2), (3, y3), (4, y4), (5, y5), (6, y6), (7, y7), (8, y8), (9, y9), (10, y10), (14, y14), (17, y17), (18, y18), (19, y19), (20, y20), (24, y24), (25, y25), (26, y26), (27, y27), (61, y61), (68, y68), (75, y75), (76, y76), (77, y77), (78, y78), (112, y112)] [(0, y0), (1, y1), (2, y2), (3, y3), (4, y4), (5, y5), (6, y6), (7, y7), (8, y8), (9, y9), (10, y10), (14, y14), (17, y17), (18, y18), (19, y19), (20, y20), (24, y24), (25, y25), (26, y26), (27, y27), (61, y61), (68, y68), (75, y75), (76, y76), (77, y77), (78, y78), (112, y112)] = [(0, y0), (1, y1), (2, y2), (3, y3), (4, y4), (5, y5), (6, y6), (7, y7), (8, y8), (9, y9), (10, y10), (14, y14), (17, y17), (18, y18), (19, y19), (20, y20), (24, y24), (25, y25), (26, z1), (27, y27), (61, y61), (68, y68), (75, y75), (76, y76), (77, y77), (78, y78), (112, y112)] := fun y0 y1 y2 y3 y4 y5 y6 y7 y8 y9 y10 y14 y17 y18 y19 y20 y24 y25 y26 y27 y61 y68 y75 y76 y77 y78 y112 z0 z1 => rfl
            refine R_nil (tr _ _ _ _ _ _ _ _ _ _ _ _ _ _ _ _ _ _ _ _ _ _ _ _ _ _ _ _ _) ?_; clear tr
            refine then_n ?_
            exact ⟨_, _, ⟨w + 1, _, _, _, _, _, rfl, rfl, rfl, by omega, by exact all_step hs ⟨fun _ => by omega, fun _ => by omega⟩⟩, by rfl, by omega⟩
      · try simp only [decide_eq_true_eq, decide_eq_false_iff_not, Bool.not_eq_true', Bool.not_eq_false', beq_iff_eq, beq_eq_false_iff_ne, ne_eq] at h3
        refine at_exit rfl ?_
        refine then_x ?_
        refine then_x ?_
        refine blk_x ?_
        refine blk_n ?_
        refine then_n ?_
        refine rg rfl ?_
        refine Rq ?_
        refine Rq ?_
        have tr : ∀ y0 y1 y2 y3 y4 y5 y6 y7 y8 y9 y10 y14 y17 y18 y19 y20 y24 y25 y26 y27 y61 y68 y75 y76 y77 y78 y112 z0 z1 : AV, trim [(19, z1), (63, z0), (0, y0), (1, y1), (2, y2), (3, y3), (4, y4), (5, y5), (6, y6), (7, y7), (8, y8), (9, y9), (10, y10), (14, y14), (17, y17), (18, y18), (19, y19), (20, y20), (24, y24), (25, y25), (26, y26), (27, y27), (61, y61), (68, y68), (75, y75), (76, y76), (77, y77), (78, y78), (112, y112)] [(0, y0), (1, y1), (2, y2), (3, y3), (4, y4), (5, y5), (6, y6), (7, y7), (8, y8), (9, y9), (10, y10), (14, y14), (17, y17), (18, y18), (19, y19), (20, y20), (24, y24), (25, y25), (26, y26), (27, y27), (61, y61), (68, y68), (75, y75), (76, y76), (77, y77), (78, y78), (112, y112)] = [(0, y0), (1, y1), (2, y2), (3, y3), (4, y4), (5, y5), (6, y6), (7, y7), (8, y8), (9, y9), (10, y10), (14, y14), (17, y17), (18, y18), (19, z1), (20, y20), (24, y24), (25, y25), (26, y26), (27, y27), (61, y61), (68, y68), (75, y75), (76, y76), (77, y77), (78, y78), (112, y112)] := fun y0 y1 y2 y3 y4 y5 y6 y7 y8 y9 y10 y14 y17 y18 y19 y20 y24 y25 y26 y27 y61 y68 y75 y76 y77 y78 y112 z0 z1 => rfl
        refine R_nil (tr _ _ _ _ _ _ _ _ _ _ _ _ _ _ _ _ _ _ _ _ _ _ _ _ _ _ _ _ _) ?_; clear tr
        refine then_n ?_
        exact ⟨_, _, ⟨u + 1, _, _, _, _, _, _, _, _, _, _, _, rfl, rfl, rfl, by omega, by exact all_step hq fun w hw => hs w (by omega)⟩, by rfl, by omega⟩
    · try simp only [decide_eq_true_eq, decide_eq_false_iff_not, Bool.not_eq_true', Bool.not_eq_false', beq_iff_eq, beq_eq_false_iff_ne, ne_eq] at h2
      refine at_exit rfl ?_
      refine then_x ?_
      refine then_x ?_
      refine blk_x ?_
      refine then_n ?_
      refine at_seq rfl ?_
      refine at_seq rfl ?_
      refine rg rfl ?_
      have hdn : Down rows := fun i hi w hw => hq i (by omega) w hw
      refine Rq ?_
      have tr : ∀ y0 y1 y2 y3 y4 y5 y6 y7 y8 y9 y10 y14 y17 y18 y19 y20 y24 y25 y26 y27 y61 y68 y75 y76 y77 y78 y112 z0 : AV, trim [(8, z0), (0, y0), (1, y1), (2, y2), (3, y3), (4, y4), (5, y5), (6, y6), (7, y7), (8, y8), (9, y9), (10, y10), (14, y14), (17, y17), (18, y18), (19, y19), (20, y20), (24, y24), (25, y25), (26, y26), (27, y27), (61, y61), (68, y68), (75, y75), (76, y76), (77, y77), (78, y78), (112, y112)] [(0, y0), (1, y1), (2, y2), (3, y3), (4, y4), (5, y5), (6, y6), (7, y7), (8, y8), (9, y9), (10, y10), (14, y14), (17, y17), (18, y18), (19, y19), (20, y20), (24, y24), (25, y25), (26, y26), (27, y27), (61, y61), (68, y68), (75, y75), (76, y76), (77, y77), (78, y78), (112, y112)] = [(0, y0), (1, y1), (2, y2), (3, y3), (4, y4), (5, y5), (6, y6), (7, y7), (8, z0), (9, y9), (10, y10), (14, y14), (17, y17), (18, y18), (19, y19), (20, y20), (24, y24), (25, y25), (26, y26), (27, y27), (61, y61), (68, y68), (75, y75), (76, y76), (77, y77), (78, y78), (112, y112)] := fun y0 y1 y2 y3 y4 y5 y6 y7 y8 y9 y10 y14 y17 y18 y19 y20 y24 y25 y26 y27 y61 y68 y75 y76 y77 y78 y112 z0 => rfl
      refine R_nil (tr _ _ _ _ _ _ _ _ _ _ _ _ _ _ _ _ _ _ _ _ _ _ _ _ _ _ _ _) ?_; clear tr
      refine then_n ?_
      refine at_block rfl ?_
      refine loop_n rfl (fun mm kv H' => ∃ v : Nat, ∃ x2 x9 x10 x68 x75 x76 x77 x78 x112 : AV, (kv = [(2, x2), (8, AV.i v), (9, x9), (10, x10), (68, x68), (75, x75), (76, x76), (77, x77), (78, x78), (112, x112)]) ∧ (mm = rows.length - v) ∧ (H' = H ++ [some [rowsAV rows]]) ∧ (2 ≤ v) ∧ (v ≤ rows.length) ∧ (∀ i, i < v → 2 ≤ i → ∀ w, w < (gt rows i).length → gt (gt rows i) w - gt (gt rows (i - 1)) w ≤ gt (gt rows (i - 1)) w - gt (gt rows (i - 2)) w)) ⟨2, _, _, _, _, _, _, _, _, _, rfl, rfl, rfl, by omega, by omega, by intro i hi; omega⟩ (by rfl) ?_
      rintro mm kv H' ⟨v, x2, x9, x10, x68, x75, x76, x77, x78, x112, rfl, rfl, rfl, h2v, hv, hc⟩
      have tr : ∀ y0 y1 y2 y3 y4 y5 y6 y7 y8 y9 y10 y14 y17 y18 y19 y20 y24 y25 y26 y27 y61 y68 y75 y76 y77 y78 y112 z2 z8 z9 z10 z68 z75 z76 z77 z78 z112 : AV, upd [(0, y0), (1, y1), (2, y2), (3, y3), (4, y4), (5, y5), (6, y6), (7, y7), (8, y8), (9, y9), (10, y10), (14, y14), (17, y17), (18, y18), (19, y19), (20, y20), (24, y24), (25, y25), (26, y26), (27, y27), (61, y61), (68, y68), (75, y75), (76, y76), (77, y77), (78, y78), (112, y112)] [(2, z2), (8, z8), (9, z9), (10, z10), (68, z68), (75, z75), (76, z76), (77, z77), (78, z78), (112, z112)] = [(0, y0), (1, y1), (2, z2), (3, y3), (4, y4), (5, y5), (6, y6), (7, y7), (8, z8), (9, z9), (10, z10), (14, y14), (17, y17), (18, y18), (19, y19), (20, y20), (24, y24), (25, y25), (26, y26), (27, y27), (61, y61), (68, z68), (75, z75), (76, z76), (77, z77), (78, z78), (112, z112)] := fun y0 y1 y2 y3 y4 y5 y6 y7 y8 y9 y10 y14 y17 y18 y19 y20 y24 y25 y26 y27 y61 y68 y75 y76 y77 y78 y112 z2 z8 z9 z10 z68 z75 z76 z77 z78 z112 => rfl
      refine W_to (tr _ _ _ _ _ _ _ _ _ _ _ _ _ _ _ _ _ _ _ _ _ _ _ _ _ _ _ _ _ _ _ _ _ _ _ _ _) ?_; clear tr
      refine at_seq rfl ?_
      refine at_seq rfl ?_
      refine rg rfl ?_
      refine Rq ?_
      refine Rq ?_
      refine Rq ?_
      refine Rq ?_
      refine Rq ?_
      have tr : ∀ y0 y1 y2 y3 y4 y5 y6 y7 y8 y9 y10 y14 y17 y18 y19 y20 y24 y25 y26 y27 y61 y68 y75 y76 y77 y78 y112 z0 z1 z2 z3 z4 : AV, trim [(68, z4), (67, z3), (66, z2), (65, z1), (64, z0), (0, y0), (1, y1), (2, y2), (3, y3), (4, y4), (5, y5), (6, y6), (7, y7), (8, y8), (9, y9), (10, y10), (14, y14), (17, y17), (18, y18), (19, y19), (20, y20), (24, y24), (25, y25), (26, y26), (27, y27), (61, y61), (68, y68), (75, y75), (76, y76), (77, y77), (78, y78), (112, y112)] [(0, y0), (1, y1), (2, y2), (3, y3), (4, y4), (5, y5), (6, y6), (7, y7), (8, y8), (9, y9), (10, y10), (14, y14), (17, y17), (18, y18), (19, y19), (20, y20), (24, y24), (25, y25), (26, y26), (27, y27), (61, y61), (68, y68), (75, y75), (76, y76), (77, y77), (78, y78), (112, y112)] = [(0, y0), (1, y1), (2, y2), (3, y3), (4, y4), (5, y5), (6, y6), (7, y7), (8, y8), (9, y9), (10, y10), (14, y14), (17, y17), (18, y18), (19, y19), (20, y20), (24, y24), (25, y25), (26, y26), (27, y27), (61, y61), (68, z4), (75, y75), (76, y76), (77, y77), (78, y78), (112, y112)] := fun y0 y1 y2 y3 y4 y5 y6 y7 y8 y9 y10 y14 y17 y18 y19 y20 y24 y25 y26 y27 y61 y68 y75 y76 y77 y78 y112 z0 z1 z2 z3 z4 => rfl
      refine R_nil (tr _ _ _ _ _ _ _ _ _ _ _ _ _ _ _ _ _ _ _ _ _ _ _ _ _ _ _ _ _ _ _ _) ?_; clear tr
      refine then_n ?_
      refine cdd (fun h10 => ?_) (fun h10 => ?_)
      · try simp only [decide_eq_true_eq, decide_eq_false_iff_not, Bool.not_eq_true', Bool.not_eq_false', beq_iff_eq, beq_eq_false_iff_ne, ne_eq] at h10
        refine at_skip rfl ?_
        refine then_n ?_
        refine at_seq rfl ?_
        refine at_block rfl ?_
        refine at_seq rfl ?_
        refine rg rfl ?_
        have hlv := gl v (by omega)
        have hlv1 := gl (v - 1) (by omega)
        have hlv2 := gl (v - 2) (by omega)
        refine Rq ?_
        refine Rq ?_
        refine Rq ?_
        refine Rq ?_
        refine Rq ?_
        refine Rq ?_
        refine Rq ?_
        have tr : ∀ y0 y1 y2 y3 y4 y5 y6 y7 y8 y9 y10 y14 y17 y18 y19 y20 y24 y25 y26 y27 y61 y68 y75 y76 y77 y78 y112 z0 z1 z2 z3 z4 z5 z6 : AV, trim [(77, z6), (76, z5), (75, z4), (74, z3), (73, z2), (72, z1), (71, z0), (0, y0), (1, y1), (2, y2), (3, y3), (4, y4), (5, y5), (6, y6), (7, y7), (8, y8), (9, y9), (10, y10), (14, y14), (17, y17), (18, y18), (19, y19), (20, y20), (24, y24), (25, y25), (26, y26), (27, y27), (61, y61), (68, y68), (75, y75), (76, y76), (77, y77), (78, y78), (112, y112)] [(0, y0), (1, y1), (2, y2), (3, y3), (4, y4), (5, y5), (6, y6), (7, y7), (8, y8), (9, y9), (10, y10), (14, y14), (17, y17), (18, y18), (19, y19), (20, y20), (24, y24), (25, y25), (26, y26), (27, y27), (61, y61), (68, y68), (75, y75), (76, y76), (77, y77), (78, y78), (112, y112)] = [(0, y0), (1, y1), (2, y2), (3, y3), (4, y4), (5, y5), (6, y6), (7, y7), (8, y8), (9, y9), (10, y10), (14, y14), (17, y17), (18, y18), (19, y19), (20, y20), (24, y24), (25, y25), (26, y26), (27, y27), (61, y61), (68, y68), (75, z4), (76, z5), (77, z6), (78, y78), (112, y112)] := fun y0 y1 y2 y3 y4 y5 y6 y7 y8 y9 y10 y14 y17 y18 y19 y20 y24 y25 y26 y27 y61 y68 y75 y76 y77 y78 y112 z0 z1 z2 z3 z4 z5 z6 => rfl
        refine R_nil (tr _ _ _ _ _ _ _ _ _ _ _ _ _ _ _ _ _ _ _ _ _ _ _ _ _ _ _ _ _ _ _ _ _ _) ?_; clear tr
        refine then_n ?_
        refine at_block rfl ?_
        refine loop_n rfl (fun mm kv H' => ∃ w : Nat, ∃ x2 x9 x10 x78 x112 : AV, (kv = [(2, x2), (9, x9), (10, x10), (77, AV.i w), (78, x78), (112, x112)]) ∧ (mm = (gt rows v).length - w) ∧ (H' = H ++ [some [rowsAV rows]]) ∧ (w ≤ (gt rows v).length) ∧ (∀ j, j < w → gt (gt rows v) j - gt (gt rows (v - 1)) j ≤ gt (gt rows (v - 1)) j - gt (gt rows (v - 2)) j)) ⟨0, _, _, _, _, _, rfl, rfl, rfl, by omega, by intro i hi; omega⟩ (by rfl) ?_
        rintro mm kv H' ⟨w, x2, x9, x10, x78, x112, rfl, rfl, rfl, hw, hd⟩
        have tr : ∀ y0 y1 y2 y3 y4 y5 y6 y7 y8 y9 y10 y14 y17 y18 y19 y20 y24 y25 y26 y27 y61 y68 y75 y76 y77 y78 y112 z2 z9 z10 z77 z78 z112 : AV, upd [(0, y0), (1, y1), (2, y2), (3, y3), (4, y4), (5, y5), (6, y6), (7, y7), (8, y8), (9, y9), (10, y10), (14, y14), (17, y17), (18, y18), (19, y19), (20, y20), (24, y24), (25, y25), (26, y26), (27, y27), (61, y61), (68, y68), (75, y75), (76, y76), (77, y77), (78, y78), (112, y112)] [(2, z2), (9, z9), (10, z10), (77, z77), (78, z78), (112, z112)] = [(0, y0), (1, y1), (2, z2), (3, y3), (4, y4), (5, y5), (6, y6), (7, y7), (8, y8), (9, z9), (10, z10), (14, y14), (17, y17), (18, y18), (19, y19), (20, y20), (24, y24), (25, y25), (26, y26), (27, y27), (61, y61), (68, y68), (75, y75), (76, y76), (77, z77), (78, z78), (112, z112)] := fun y0 y1 y2 y3 y4 y5 y6 y7 y8 y9 y10 y14 y17 y18 y19 y20 y24 y25 y26 y27 y61 y68 y75 y76 y77 y78 y112 z2 z9 z10 z77 z78 z112 => rfl
        refine W_to (tr _ _ _ _ _ _ _ _ _ _ _ _ _ _ _ _ _ _ _ _ _ _ _ _ _ _ _ _ _ _ _ _ _) ?_; clear tr
        refine at_seq rfl ?_
        refine rg rfl ?_
        refine Rq ?_
        have tr : ∀ y0 y1 y2 y3 y4 y5 y6 y7 y8 y9 y10 y14 y17 y18 y19 y20 y24 y25 y26 y27 y61 y68 y75 y76 y77 y78 y112 z0 : AV, trim [(78, z0), (0, y0), (1, y1), (2, y2), (3, y3), (4, y4), (5, y5), (6, y6), (7, y7), (8, y8), (9, y9), (10, y10), (14, y14), (17, y17), (18, y18), (19, y19), (20, y20), (24, y24), (25, y25), (26, y26), (27, y27), (61, y61), (68, y68), (75, y75), (76, y76), (77, y77), (78, y78), (112, y112)] [(0, y0), (1, y1), (2, y2), (3, y3), (4, y4), (5, y5), (6, y6), (7, y7), (8, y8), (9, y9), (10, y10), (14, y14), (17, y17), (18, y18), (19, y19), (20, y20), (24, y24), (25, y25), (26, y26), (27, y27), (61, y61), (68, y68), (75, y75), (76, y76), (77, y77), (78, y78), (112, y112)] = [(0, y0), (1, y1), (2, y2), (3, y3), (4, y4), (5, y5), (6, y6), (7, y7), (8, y8), (9, y9), (10, y10), (14, y14), (17, y17), (18, y18), (19, y19), (20, y20), (24, y24), (25, y25), (26, y26), (27, y27), (61, y61), (68, y68), (75, y75), (76, y76), (77, y77), (78, z0), (112, y112)] := fun y0 y1 y2 y3 y4 y5 y6 y7 y8 y9 y10 y14 y17 y18 y19 y20 y24 y25 y26 y27 y61 y68 y75 y76 y77 y78 y112 z0 => rfl
        refine R_nil (tr _ _ _ _ _ _ _ _ _ _ _ _ _ _ _ _ _ _ _ _ _ _ _ _ _ _ _ _) ?_; clear tr
        refine then_n ?_
        refine at_seq rfl ?_
        refine cdd (fun h11 => ?_) (fun h11 => ?_)
        · try simp only [decide_eq_true_eq, decide_eq_false_iff_not, Bool.not_eq_true', Bool.not_eq_false', beq_iff_eq, beq_eq_false_iff_ne, ne_eq] at h11
          refine at_skip rfl ?_
          refine then_n ?_
          refine at_seq rfl ?_
          refine at_block rfl ?_
          refine at_seq rfl ?_
          refine rg rfl ?_
          refine Rq ?_
          refine Rq ?_
          refine Rq ?_
          refine Rq ?_
          refine Rq ?_
          have tr : ∀ y0 y1 y2 y3 y4 y5 y6 y7 y8 y9 y10 y14 y17 y18 y19 y20 y24 y25 y26 y27 y61 y68 y75 y76 y77 y78 y112 z0 z1 z2 z3 z4 : AV, trim [(10, z4), (9, z3), (81, z2), (80, z1), (79, z0), (0, y0), (1, y1), (2, y2), (3, y3), (4, y4), (5, y5), (6, y6), (7, y7), (8, y8), (9, y9), (10, y10), (14, y14), (17, y17), (18, y18), (19, y19), (20, y20), (24, y24), (25, y25), (26, y26), (27, y27), (61, y61), (68, y68), (75, y75), (76, y76), (77, y77), (78, y78), (112, y112)] [(0, y0), (1, y1), (2, y2), (3, y3), (4, y4), (5, y5), (6, y6), (7, y7), (8, y8), (9, y9), (10, y10), (14, y14), (17, y17), (18, y18), (19, y19), (20, y20), (24, y24), (25, y25), (26, y26), (27, y27), (61, y61), (68, y68), (75, y75), (76, y76), (77, y77), (78, y78), (112, y112)] = [(0, y0), (1, y1), (2, y2), (3, y3), (4, y4), (5, y5), (6, y6), (7, y7), (8, y8), (9, z3), (10, z4), (14, y14), (17, y17), (18, y18), (19, y19), (20, y20), (24, y24), (25, y25), (26, y26), (27, y27), (61, y61), (68, y68), (75, y75), (76, y76), (77, y77), (78, y78), (112, y112)] := fun y0 y1 y2 y3 y4 y5 y6 y7 y8 y9 y10 y14 y17 y18 y19 y20 y24 y25 y26 y27 y61 y68 y75 y76 y77 y78 y112 z0 z1 z2 z3 z4 => rfl
          refine R_nil (tr _ _ _ _ _ _ _ _ _ _ _ _ _ _ _ _ _ _ _ _ _ _ _ _ _ _ _ _ _ _ _ _) ?_; clear tr
          refine then_n ?_
          refine at_seq rfl ?_
          refine rd rfl rfl ?_
          have r0 : 0 ≤ gt (gt rows v) w ∧ gt (gt rows v) w ≤ 10000 := gr v (by omega) w (by omega)
          have r1 : 0 ≤ gt (gt rows (v - 1)) w ∧ gt (gt rows (v - 1)) w ≤ 10000 := gr (v - 1) (by omega) w (by omega)
          have r2 : 0 ≤ gt (gt rows (v - 2)) w ∧ gt (gt rows (v - 2)) w ≤ 10000 := gr (v - 2) (by omega) w (by omega)
          refine Qq ?_
          refine Qq ?_
          refine Qq ?_
          refine Qq ?_
          refine Qq ?_
          refine Qq ?_
          refine Qq ?_
          refine Qq ?_
          refine Qq ?_
          refine Qq ?_
          refine Qq ?_
          refine Qq ?_
          refine Qq ?_
          refine Qq ?_
          refine Qq ?_
          refine Qq ?_
          refine Qq ?_
          refine Qq ?_
          refine Qq ?_
          refine Qq ?_
          refine Qq ?_
          refine Qq ?_
          refine Qq ?_
          refine Qq ?_
          refine Qq ?_
          refine Qq ?_
          refine Qq ?_
          refine Qq ?_
          refine Qq ?_
          refine Qq ?_
          refine Qq ?_
          refine Q_nil ?_
          have tr : ∀ y0 y1 y2 y3 y4 y5 y6 y7 y8 y9 y10 y14 y17 y18 y19 y20 y24 y25 y26 y27 y61 y68 y75 y76 y77 y78 y112 z0 z1 z2 z3 z4 z5 z6 z7 z8 z9 z10 z11 z12 z13 z14 z15 z16 z17 z18 z19 z20 z21 z22 z23 z24 z25 z26 z27 z28 z29 z30 : AV, trim [(112, z30), (111, z29), (110, z28), (109, z27), (108, z26), (107, z25), (106, z24), (105, z23), (104, z22), (103, z21), (102, z20), (101, z19), (100, z18), (99, z17), (98, z16), (97, z15), (96, z14), (95, z13), (94, z12), (93, z11), (92, z10), (91, z9), (90, z8), (89, z7), (88, z6), (87, z5), (86, z4), (85, z3), (84, z2), (83, z1), (82, z0), (0, y0), (1, y1), (2, y2), (3, y3), (4, y4), (5, y5), (6, y6), (7, y7), (8, y8), (9, y9), (10, y10), (14, y14), (17, y17), (18, y18), (19, y19), (20, y20), (24, y24), (25, y25), (26, y26), (27, y27), (61, y61), (68, y68), (75, y75), (76, y76), (77, y77), (78, y78), (112, y112)] [(0, y0), (1, y1), (2, y2), (3, y3), (4, y4), (5, y5), (6, y6), (7, y7), (8, y8), (9, y9), (10, y10), (14, y14), (17, y17), (18, y18), (19, y19), (20, y20), (24, y24), (25, y25), (26, y26), (27, y27), (61, y61), (68, y68), (75, y75), (76, y76), (77, y77), (78, y78), (112, y112)] = [(0, y0), (1, y1), (2, y2), (3, y3), (4, y4), (5, y5), (6, y6), (7, y7), (8, y8), (9, y9), (10, y10), (14, y14), (17, y17), (18, y18), (19, y19), (20, y20), (24, y24), (25, y25), (26, y26), (27, y27), (61, y61), (68, y68), (75, y75), (76, y76), (77, y77), (78, y78), (112, z30)] := fun y0 y1 y2 y3 y4 y5 y6 y7 y8 y9 y10 y14 y17 y18 y19 y20 y24 y25 y26 y27 y61 y68 y75 y76 y77 y78 y112 z0 z1 z2 z3 z4 z5 z6 z7 z8 z9 z10 z11 z12 z13 z14 z15 z16 z17 z18 z19 z20 z21 z22 z23 z24 z25 z26 z27 z28 z29 z30 => rfl
          refine R_nil (tr _ _ _ _ _ _ _ _ _ _ _ _ _ _ _ _ _ _ _ _ _ _ _ _ _ _ _ _ _ _ _ _ _ _ _ _ _ _ _ _ _ _ _ _ _ _ _ _ _ _ _ _ _ _ _ _ _ _) ?_; clear tr
          refine then_n ?_
          refine cdd (fun h12 => ?_) (fun h12 => ?_)
          · try simp only [decide_eq_true_eq, decide_eq_false_iff_not, Bool.not_eq_true', Bool.not_eq_false', beq_iff_eq, beq_eq_false_iff_ne, ne_eq] at h12
            refine at_seq rfl ?_
            refine rg rfl ?_
            refine Rq ?_
            have tr : ∀ y0 y1 y2 y3 y4 y5 y6 y7 y8 y9 y10 y14 y17 y18 y19 y20 y24 y25 y26 y27 y61 y68 y75 y76 y77 y78 y112 z0 : AV, trim [(2, z0), (0, y0), (1, y1), (2, y2), (3, y3), (4, y4), (5, y5), (6, y6), (7, y7), (8, y8), (9, y9), (10, y10), (14, y14), (17, y17), (18, y18), (19, y19), (20, y20), (24, y24), (25, y25), (26, y26), (27, y27), (61, y61), (68, y68), (75, y75), (76, y76), (77, y77), (78, y78), (112, y112)] [(0, y0), (1, y1), (2, y2), (3, y3), (4, y4), (5, y5), (6, y6), (7, y7), (8, y8), (9, y9), (10, y10), (14, y14), (17, y17), (18, y18), (19, y19), (20, y20), (24, y24), (25, y25), (26, y26), (27, y27), (61, y61), (68, y68), (75, y75), (76, y76), (77, y77), (78, y78), (112, y112)] = [(0, y0), (1, y1), (2, z0), (3, y3), (4, y4), (5, y5), (6, y6), (7, y7), (8, y8), (9, y9), (10, y10), (14, y14), (17, y17), (18, y18), (19, y19), (20, y20), (24, y24), (25, y25), (26, y26), (27, y27), (61, y61), (68, y68), (75, y75), (76, y76), (77, y77), (78, y78), (112, y112)] := fun y0 y1 y2 y3 y4 y5 y6 y7 y8 y9 y10 y14 y17 y18 y19 y20 y24 y25 y26 y27 y61 y68 y75 y76 y77 y78 y112 z0 => rfl
            refine R_nil (tr _ _ _ _ _ _ _ _ _ _ _ _ _ _ _ _ _ _ _ _ _ _ _ _ _ _ _ _) ?_; clear tr
            refine then_n ?_
            refine at_ret rfl ?_
            refine blk_r ?_
            refine then_r ?_
            refine then_r ?_
            refine blk_r ?_
            refine blk_r ?_
            refine then_r ?_
            refine then_r ?_
            refine blk_r ?_
            refine then_r ?_
            refine fpure ?_
            refine ⟨?_, rfl⟩
            rw [checkS, if_neg (fun hh => hh hs0), if_neg (fun hh => hh he0), if_neg (fun hh => hh hdn), if_pos (fun hh => absurd (hh v (by omega) h2v w (by omega)) (by omega))]
          · try simp only [decide_eq_true_eq, decide_eq_false_iff_not, Bool.not_eq_true', Bool.not_eq_false', beq_iff_eq, beq_eq_false_iff_ne, ne_eq] at h12
            refine at_skip rfl ?_
            refine blk_n ?_
            refine then_n ?_
            refine rg rfl ?_
            refine Rq ?_
            refine Rq ?_
            have tr : ∀ y0 y1 y2 y3 y4 y5 y6 y7 y8 y9 y10 y14 y17 y18 y19 y20 y24 y25 y26 y27 y61 y68 y75 y76 y77 y78 y112 z0 z1 : AV, trim [(77, z1), (113, z0), (0, y0), (1, y1), (2, y2), (3, y3), (4, y4), (5, y5), (6, y6), (7, y7), (8, y8), (9, y9), (10, y10), (14, y14), (17, y17), (18, y18), (19, y19), (20, y20), (24, y24), (25, y25), (26, y26), (27, y27), (61, y61), (68, y68), (75, y75), (76, y76), (77, y77), (78, y78), (112, y112)] [(0, y0), (1, y1), (2, y2), (3, y3), (4, y4), (5, y5), (6, y6), (7, y7), (8, y8), (9, y9), (10, y10), (14, y14), (17, y17), (18, y18), (19, y19), (20, y20), (24, y24), (25, y25), (26, y26), (27, y27), (61, y61), (68, y68), (75, y75), (76, y76), (77, y77), (78, y78), (112, y112)] = [(0, y0), (1, y1), (2, y2), (3, y3), (4, y4), (5, y5), (6, y6), (7, y7), (8, y8), (9, y9), (10, y10), (14, y14), (17, y17), (18, y18), (19, y19), (20, y20), (24, y24), (25, y25), (26, y26), (27, y27), (61, y61), (68, y68), (75, y75), (76, y76), (77, z1), (78, y78), (112, y112)] := fun y0 y1 y2 y3 y4 y5 y6 y7 y8 y9 y10 y14 y17 y18 y19 y20 y24 y25 y26 y27 y61 y68 y75 y76 y77 y78 y112 z0 z1 => rfl
            refine R_nil (tr _ _ _ _ _ _ _ _ _ _ _ _ _ _ _ _ _ _ _ _ _ _ _ _ _ _ _ _ _) ?_; clear tr
            refine then_n ?_
            exact ⟨_, _, ⟨w + 1, _, _, _, _, _, rfl, rfl, rfl, by omega, by exact all_step hd (by omega)⟩, by rfl, by omega⟩
        · try simp only [decide_eq_true_eq, decide_eq_false_iff_not, Bool.not_eq_true', Bool.not_eq_false', beq_iff_eq, beq_eq_false_iff_ne, ne_eq] at h11
          refine at_exit rfl ?_
          refine then_x ?_
          refine then_x ?_
          refine blk_x ?_
          refine blk_n ?_
          refine then_n ?_
          refine rg rfl ?_
          refine Rq ?_
          refine Rq ?_
          refine Rq ?_
          have tr : ∀ y0 y1 y2 y3 y4 y5 y6 y7 y8 y9 y10 y14 y17 y18 y19 y20 y24 y25 y26 y27 y61 y68 y75 y76 y77 y78 y112 z0 z1 z2 : AV, trim [(8, z2), (70, z1), (69, z0), (0, y0), (1, y1), (2, y2), (3, y3), (4, y4), (5, y5), (6, y6), (7, y7), (8, y8), (9, y9), (10, y10), (14, y14), (17, y17), (18, y18), (19, y19), (20, y20), (24, y24), (25, y25), (26, y26), (27, y27), (61, y61), (68, y68), (75, y75), (76, y76), (77, y77), (78, y78), (112, y112)] [(0, y0), (1, y1), (2, y2), (3, y3), (4, y4), (5, y5), (6, y6), (7, y7), (8, y8), (9, y9), (10, y10), (14, y14), (17, y17), (18, y18), (19, y19), (20, y20), (24, y24), (25, y25), (26, y26), (27, y27), (61, y61), (68, y68), (75, y75), (76, y76), (77, y77), (78, y78), (112, y112)] = [(0, y0), (1, y1), (2, y2), (3, y3), (4, y4), (5, y5), (6, y6), (7, y7), (8, z2), (9, y9), (10, y10), (14, y14), (17, y17), (18, y18), (19, y19), (20, y20), (24, y24), (25, y25), (26, y26), (27, y27), (61, y61), (68, y68), (75, y75), (76, y76), (77, y77), (78, y78), (112, y112)] := fun y0 y1 y2 y3 y4 y5 y6 y7 y8 y9 y10 y14 y17 y18 y19 y20 y24 y25 y26 y27 y61 y68 y75 y76 y77 y78 y112 z0 z1 z2 => rfl
          refine R_nil (tr _ _ _ _ _ _ _ _ _ _ _ _ _ _ _ _ _ _ _ _ _ _ _ _ _ _ _ _ _ _) ?_; clear tr
          refine then_n ?_
          exact ⟨_, _, ⟨v + 1, _, _, _, _, _, _, _, _, _, rfl, rfl, rfl, by omega, by omega, by exact all_step hc fun _ w hw => hd w (by omega)⟩, by rfl, by omega⟩
      · try simp only [decide_eq_true_eq, decide_eq_false_iff_not, Bool.not_eq_true', Bool.not_eq_false', beq_iff_eq, beq_eq_false_iff_ne, ne_eq] at h10
        refine at_exit rfl ?_
        refine then_x ?_
        refine then_x ?_
        refine blk_x ?_
        refine then_n ?_
        refine at_seq rfl ?_
        refine rg rfl ?_
        refine Rq ?_
        have tr : ∀ y0 y1 y2 y3 y4 y5 y6 y7 y8 y9 y10 y14 y17 y18 y19 y20 y24 y25 y26 y27 y61 y68 y75 y76 y77 y78 y112 z0 : AV, trim [(2, z0), (0, y0), (1, y1), (2, y2), (3, y3), (4, y4), (5, y5), (6, y6), (7, y7), (8, y8), (9, y9), (10, y10), (14, y14), (17, y17), (18, y18), (19, y19), (20, y20), (24, y24), (25, y25), (26, y26), (27, y27), (61, y61), (68, y68), (75, y75), (76, y76), (77, y77), (78, y78), (112, y112)] [(0, y0), (1, y1), (2, y2), (3, y3), (4, y4), (5, y5), (6, y6), (7, y7), (8, y8), (9, y9), (10, y10), (14, y14), (17, y17), (18, y18), (19, y19), (20, y20), (24, y24), (25, y25), (26, y26), (27, y27), (61, y61), (68, y68), (75, y75), (76, y76), (77, y77), (78, y78), (112, y112)] = [(0, y0), (1, y1), (2, z0), (3, y3), (4, y4), (5, y5), (6, y6), (7, y7), (8, y8), (9, y9), (10, y10), (14, y14), (17, y17), (18, y18), (19, y19), (20, y20), (24, y24), (25, y25), (26, y26), (27, y27), (61, y61), (68, y68), (75, y75), (76, y76), (77, y77), (78, y78), (112, y112)] := fun y0 y1 y2 y3 y4 y5 y6 y7 y8 y9 y10 y14 y17 y18 y19 y20 y24 y25 y26 y27 y61 y68 y75 y76 y77 y78 y112 z0 => rfl
        refine R_nil (tr _ _ _ _ _ _ _ _ _ _ _ _ _ _ _ _ _ _ _ _ _ _ _ _ _ _ _ _) ?_; clear tr
        refine then_n ?_
        refine at_ret rfl ?_
        refine fpure ?_
        refine ⟨?_, rfl⟩
        rw [checkS, if_neg (fun hh => hh hs0), if_neg (fun hh => hh he0), if_neg (fun hh => hh hdn), if_neg (fun hh => hh fun i hi h2 w hw => hc i (by omega) h2 w hw)]

end Go.Proofs.Ytaoondlakhocnaa
