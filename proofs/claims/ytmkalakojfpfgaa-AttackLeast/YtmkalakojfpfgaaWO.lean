/-
  Walks of chapter 46. The steps are written by program (walk.py).
-/
import Derived.Test.YtmkalakojfpfgaaWN
import Derived.Test.YtmkalakojfpfgaaWI
import Derived.Test.YtmkalakojfpfgaaWJ
import Derived.Test.YtmkalakojfpfgaaSA
import Derived.Test.YtmkalakojfpfgaaQ8
set_option linter.unusedSimpArgs false
set_option linter.unusedVariables false
set_option maxHeartbeats 40000000
set_option maxRecDepth 4000
namespace Go.Proofs.Ytmkalakojfpfgaa
open Go Go.Am

theorem aleast_ok (rows : Tb) (q la : Int) (l : List Int) (hL : rows.length ≤ 9223372036854775807) : ACall sig 0 5 [.agg [rowsAV rows, AV.i q, AV.i la], intsAV l] [] fun r _ => r = .v (.bool true) := by
  have hsx : True := trivial
  have hsy : True := trivial
  refine ACall_pure (fa := fa5) rfl rfl rfl rfl ?_
  have tr : ∀ a0 a1 : AV, env0 fa5.keep [a0, a1] = [(0, a0), (1, a1), (2, .any), (4, .any), (5, .any), (6, .any), (7, .any), (8, .any), (9, .any), (10, .any), (12, .any), (20, .any), (33, .any)] := fun a0 a1 => rfl
  refine W_to (tr _ _) ?_; clear tr
  refine at_seq rfl ?_
  refine rg rfl ?_
  refine R_box rfl (by simp (disch := first | omega | (simp only [List.length_map, List.length_append, List.length_set, List.length_cons, List.length_nil, List.length_take, List.length_drop]; omega)) only [go_sem, ↓reduceIte, Nat.reduceEqDiff, reduceCtorEq, hsx, hsy]; rfl) rfl rfl ?_
  refine Rq ?_
  have tr : ∀ y0 y1 y2 y4 y5 y6 y7 y8 y9 y10 y12 y20 y33 z0 z1 : AV, trim [(4, z1), (2, z0), (0, y0), (1, y1), (2, y2), (4, y4), (5, y5), (6, y6), (7, y7), (8, y8), (9, y9), (10, y10), (12, y12), (20, y20), (33, y33)] [(0, y0), (1, y1), (2, y2), (4, y4), (5, y5), (6, y6), (7, y7), (8, y8), (9, y9), (10, y10), (12, y12), (20, y20), (33, y33)] = [(0, y0), (1, y1), (2, z0), (4, z1), (5, y5), (6, y6), (7, y7), (8, y8), (9, y9), (10, y10), (12, y12), (20, y20), (33, y33)] := fun y0 y1 y2 y4 y5 y6 y7 y8 y9 y10 y12 y20 y33 z0 z1 => rfl
  refine R_nil (tr _ _ _ _ _ _ _ _ _ _ _ _ _ _ _) ?_; clear tr
  refine then_n ?_
  refine at_seq rfl ?_
  refine at_seq rfl ?_
  refine rg rfl ?_
  refine Rcall ?_
  refine ACall_eval 200 (awake_ok _ _) ?_
  refine Rq ?_
  have tr : ∀ y0 y1 y2 y4 y5 y6 y7 y8 y9 y10 y12 y20 y33 z0 z1 : AV, trim [(12, z1), (11, z0), (0, y0), (1, y1), (2, y2), (4, y4), (5, y5), (6, y6), (7, y7), (8, y8), (9, y9), (10, y10), (12, y12), (20, y20), (33, y33)] [(0, y0), (1, y1), (2, y2), (4, y4), (5, y5), (6, y6), (7, y7), (8, y8), (9, y9), (10, y10), (12, y12), (20, y20), (33, y33)] = [(0, y0), (1, y1), (2, y2), (4, y4), (5, y5), (6, y6), (7, y7), (8, y8), (9, y9), (10, y10), (12, z1), (20, y20), (33, y33)] := fun y0 y1 y2 y4 y5 y6 y7 y8 y9 y10 y12 y20 y33 z0 z1 => rfl
  refine R_nil (tr _ _ _ _ _ _ _ _ _ _ _ _ _ _ _) ?_; clear tr
  refine then_n ?_
  refine cdf ?_
  refine at_skip rfl ?_
  refine then_n ?_
  refine at_seq rfl ?_
  refine at_seq rfl ?_
  refine rg rfl ?_
  refine R_q rfl (by simp (disch := first | omega | (simp only [List.length_map, List.length_append, List.length_set, List.length_cons, List.length_nil, List.length_take, List.length_drop]; omega)) only [go_sem, ↓reduceIte, Nat.reduceEqDiff, reduceCtorEq, hsx, hsy]; rfl) ?_
  refine Rcall ?_
  refine ACall_mono (small_ok _ _ rows q la hL) ?_
  rintro r HX ⟨⟨b, rfl⟩, hHX⟩
  obtain rfl := hHX.symm
  refine Rq ?_
  refine Rq ?_
  refine Rp_split (fun h1 => ?_) (fun h1 => ?_)
  · try simp only [decide_eq_true_eq, decide_eq_false_iff_not, Bool.not_eq_true', Bool.not_eq_false', beq_iff_eq, beq_eq_false_iff_ne, ne_eq] at h1
    refine Rn ?_
    refine Rn ?_
    refine Rn ?_
    refine Rq ?_
    have tr : ∀ y0 y1 y2 y4 y5 y6 y7 y8 y9 y10 y12 y20 y33 z0 z1 z2 z3 z4 z5 z6 z7 : AV, trim [(20, z7), (19, z6), (18, z5), (17, z4), (16, z3), (15, z2), (14, z1), (13, z0), (0, y0), (1, y1), (2, y2), (4, y4), (5, y5), (6, y6), (7, y7), (8, y8), (9, y9), (10, y10), (12, y12), (20, y20), (33, y33)] [(0, y0), (1, y1), (2, y2), (4, y4), (5, y5), (6, y6), (7, y7), (8, y8), (9, y9), (10, y10), (12, y12), (20, y20), (33, y33)] = [(0, y0), (1, y1), (2, y2), (4, y4), (5, y5), (6, y6), (7, y7), (8, y8), (9, y9), (10, y10), (12, y12), (20, z7), (33, y33)] := fun y0 y1 y2 y4 y5 y6 y7 y8 y9 y10 y12 y20 y33 z0 z1 z2 z3 z4 z5 z6 z7 => rfl
    refine R_nil (tr _ _ _ _ _ _ _ _ _ _ _ _ _ _ _ _ _ _ _ _ _) ?_; clear tr
    refine then_n ?_
    refine cdt ?_
    refine at_seq rfl ?_
    refine rg rfl ?_
    refine Rq ?_
    have tr : ∀ y0 y1 y2 y4 y5 y6 y7 y8 y9 y10 y12 y20 y33 z0 : AV, trim [(4, z0), (0, y0), (1, y1), (2, y2), (4, y4), (5, y5), (6, y6), (7, y7), (8, y8), (9, y9), (10, y10), (12, y12), (20, y20), (33, y33)] [(0, y0), (1, y1), (2, y2), (4, y4), (5, y5), (6, y6), (7, y7), (8, y8), (9, y9), (10, y10), (12, y12), (20, y20), (33, y33)] = [(0, y0), (1, y1), (2, y2), (4, z0), (5, y5), (6, y6), (7, y7), (8, y8), (9, y9), (10, y10), (12, y12), (20, y20), (33, y33)] := fun y0 y1 y2 y4 y5 y6 y7 y8 y9 y10 y12 y20 y33 z0 => rfl
    refine R_nil (tr _ _ _ _ _ _ _ _ _ _ _ _ _ _) ?_; clear tr
    refine then_n ?_
    refine at_ret rfl ?_
    refine then_r ?_
    refine fpure ?_
    first | rfl | (exfalso; simp_all; done) | (have hle := plan_le hc hK (by assumption : (costS rows q la l).2 = 0); simp [hle]; done) | simp
  · try simp only [decide_eq_true_eq, decide_eq_false_iff_not, Bool.not_eq_true', Bool.not_eq_false', beq_iff_eq, beq_eq_false_iff_ne, ne_eq] at h1
    refine Ry ?_
    refine Rq ?_
    refine Ry ?_
    refine Rq ?_
    refine Ry ?_
    refine Rq ?_
    refine Rq ?_
    have tr : ∀ y0 y1 y2 y4 y5 y6 y7 y8 y9 y10 y12 y20 y33 z0 z1 z2 z3 z4 z5 z6 z7 : AV, trim [(20, z7), (19, z6), (18, z5), (17, z4), (16, z3), (15, z2), (14, z1), (13, z0), (0, y0), (1, y1), (2, y2), (4, y4), (5, y5), (6, y6), (7, y7), (8, y8), (9, y9), (10, y10), (12, y12), (20, y20), (33, y33)] [(0, y0), (1, y1), (2, y2), (4, y4), (5, y5), (6, y6), (7, y7), (8, y8), (9, y9), (10, y10), (12, y12), (20, y20), (33, y33)] = [(0, y0), (1, y1), (2, y2), (4, y4), (5, y5), (6, y6), (7, y7), (8, y8), (9, y9), (10, y10), (12, y12), (20, z7), (33, y33)] := fun y0 y1 y2 y4 y5 y6 y7 y8 y9 y10 y12 y20 y33 z0 z1 z2 z3 z4 z5 z6 z7 => rfl
    refine R_nil (tr _ _ _ _ _ _ _ _ _ _ _ _ _ _ _ _ _ _ _ _ _) ?_; clear tr
    refine then_n ?_
    refine cdd (fun h2 => ?_) (fun h2 => ?_)
    · try simp only [decide_eq_true_eq, decide_eq_false_iff_not, Bool.not_eq_true', Bool.not_eq_false', beq_iff_eq, beq_eq_false_iff_ne, ne_eq] at h2
      refine at_seq rfl ?_
      refine rg rfl ?_
      refine Rq ?_
      have tr : ∀ y0 y1 y2 y4 y5 y6 y7 y8 y9 y10 y12 y20 y33 z0 : AV, trim [(4, z0), (0, y0), (1, y1), (2, y2), (4, y4), (5, y5), (6, y6), (7, y7), (8, y8), (9, y9), (10, y10), (12, y12), (20, y20), (33, y33)] [(0, y0), (1, y1), (2, y2), (4, y4), (5, y5), (6, y6), (7, y7), (8, y8), (9, y9), (10, y10), (12, y12), (20, y20), (33, y33)] = [(0, y0), (1, y1), (2, y2), (4, z0), (5, y5), (6, y6), (7, y7), (8, y8), (9, y9), (10, y10), (12, y12), (20, y20), (33, y33)] := fun y0 y1 y2 y4 y5 y6 y7 y8 y9 y10 y12 y20 y33 z0 => rfl
      refine R_nil (tr _ _ _ _ _ _ _ _ _ _ _ _ _ _) ?_; clear tr
      refine then_n ?_
      refine at_ret rfl ?_
      refine then_r ?_
      refine fpure ?_
      first | rfl | (exfalso; simp_all; done) | (have hle := plan_le hc hK (by assumption : (costS rows q la l).2 = 0); simp [hle]; done) | simp
    · try simp only [decide_eq_true_eq, decide_eq_false_iff_not, Bool.not_eq_true', Bool.not_eq_false', beq_iff_eq, beq_eq_false_iff_ne, ne_eq] at h2
      refine at_skip rfl ?_
      refine then_n ?_
      refine at_seq rfl ?_
      refine rg rfl ?_
      refine R_q rfl (by simp (disch := first | omega | (simp only [List.length_map, List.length_append, List.length_set, List.length_cons, List.length_nil, List.length_take, List.length_drop]; omega)) only [go_sem, ↓reduceIte, Nat.reduceEqDiff, reduceCtorEq, hsx, hsy]; rfl) ?_
      refine Rcall ?_
      refine ACall_mono (pbest_ok _ _ rows q la) ?_
      rintro r HX ⟨hp, hHX⟩
      obtain rfl := hHX.symm
      obtain ⟨x, v, y, e, hr, hsx, hsy, he1, he0⟩ := plan_parts hp
      subst hr
      refine Rq ?_
      refine Rq ?_
      refine Rq ?_
      refine R_alloc (by simp (disch := first | omega | (simp only [List.length_map, List.length_append, List.length_set, List.length_cons, List.length_nil, List.length_take, List.length_drop]; omega)) only [go_sem, ↓reduceIte, Nat.reduceEqDiff, reduceCtorEq, hsx, hsy]; rfl) rfl (by simp only [List.map_cons, List.map_nil]; rfl) ?_
      refine R_store ty37 (by simp (disch := first | omega | (simp only [List.length_map, List.length_append, List.length_set, List.length_cons, List.length_nil, List.length_take, List.length_drop]; omega)) only [go_sem, ↓reduceIte, Nat.reduceEqDiff, reduceCtorEq, hsx, hsy]; rfl) (by simp (disch := first | omega | (simp only [List.length_map, List.length_append, List.length_set, List.length_cons, List.length_nil, List.length_take, List.length_drop]; omega)) only [go_sem, ↓reduceIte, Nat.reduceEqDiff, reduceCtorEq, hsx, hsy]; rfl) (by simp (disch := first | omega | (simp only [List.length_map, List.length_append, List.length_set, List.length_cons, List.length_nil, List.length_take, List.length_drop]; omega)) only [go_sem, ↓reduceIte, Nat.reduceEqDiff, reduceCtorEq, hsx, hsy]; rfl) (by simp) (by rfl) (by simp (disch := first | omega | (simp only [List.length_map, List.length_append, List.length_set, List.length_cons, List.length_nil, List.length_take, List.length_drop]; omega)) only [go_sem, ↓reduceIte, Nat.reduceEqDiff, reduceCtorEq, hsx, hsy]; rfl) ?_
      refine Rq ?_
      have tr : ∀ y0 y1 y2 y4 y5 y6 y7 y8 y9 y10 y12 y20 y33 z0 z1 z2 z3 z4 z5 z6 : AV, trim [(6, z6), (5, z5), (25, z4), (24, z3), (21, z2), (23, z1), (22, z0), (0, y0), (1, y1), (2, y2), (4, y4), (5, y5), (6, y6), (7, y7), (8, y8), (9, y9), (10, y10), (12, y12), (20, y20), (33, y33)] [(0, y0), (1, y1), (2, y2), (4, y4), (5, y5), (6, y6), (7, y7), (8, y8), (9, y9), (10, y10), (12, y12), (20, y20), (33, y33)] = [(0, y0), (1, y1), (2, y2), (4, y4), (5, z5), (6, z6), (7, y7), (8, y8), (9, y9), (10, y10), (12, y12), (20, y20), (33, y33)] := fun y0 y1 y2 y4 y5 y6 y7 y8 y9 y10 y12 y20 y33 z0 z1 z2 z3 z4 z5 z6 => rfl
      refine R_nil (tr _ _ _ _ _ _ _ _ _ _ _ _ _ _ _ _ _ _ _ _) ?_; clear tr
      refine then_n ?_
      refine at_seq rfl ?_
      refine rg rfl ?_
      refine R_q rfl (by simp (disch := first | omega | (simp only [List.length_map, List.length_append, List.length_set, List.length_cons, List.length_nil, List.length_take, List.length_drop]; omega)) only [go_sem, ↓reduceIte, Nat.reduceEqDiff, reduceCtorEq, hsx, hsy]; rfl) ?_
      refine Rq ?_
      refine Rcall ?_
      refine ACall_eq (cost_ok _ _ rows q la l) ?_
      refine Rq ?_
      refine Rq ?_
      refine Rq ?_
      refine Rq ?_
      refine Rq ?_
      have tr : ∀ y0 y1 y2 y4 y5 y6 y7 y8 y9 y10 y12 y20 y33 z0 z1 z2 z3 z4 z5 z6 z7 : AV, trim [(8, z7), (7, z6), (31, z5), (30, z4), (26, z3), (29, z2), (28, z1), (27, z0), (0, y0), (1, y1), (2, y2), (4, y4), (5, y5), (6, y6), (7, y7), (8, y8), (9, y9), (10, y10), (12, y12), (20, y20), (33, y33)] [(0, y0), (1, y1), (2, y2), (4, y4), (5, y5), (6, y6), (7, y7), (8, y8), (9, y9), (10, y10), (12, y12), (20, y20), (33, y33)] = [(0, y0), (1, y1), (2, y2), (4, y4), (5, y5), (6, y6), (7, z6), (8, z7), (9, y9), (10, y10), (12, y12), (20, y20), (33, y33)] := fun y0 y1 y2 y4 y5 y6 y7 y8 y9 y10 y12 y20 y33 z0 z1 z2 z3 z4 z5 z6 z7 => rfl
      refine R_nil (tr _ _ _ _ _ _ _ _ _ _ _ _ _ _ _ _ _ _ _ _ _) ?_; clear tr
      refine then_n ?_
      refine at_seq rfl ?_
      refine at_seq rfl ?_
      refine rg rfl ?_
      refine Rq ?_
      refine Rq ?_
      have tr : ∀ y0 y1 y2 y4 y5 y6 y7 y8 y9 y10 y12 y20 y33 z0 z1 : AV, trim [(33, z1), (32, z0), (0, y0), (1, y1), (2, y2), (4, y4), (5, y5), (6, y6), (7, y7), (8, y8), (9, y9), (10, y10), (12, y12), (20, y20), (33, y33)] [(0, y0), (1, y1), (2, y2), (4, y4), (5, y5), (6, y6), (7, y7), (8, y8), (9, y9), (10, y10), (12, y12), (20, y20), (33, y33)] = [(0, y0), (1, y1), (2, y2), (4, y4), (5, y5), (6, y6), (7, y7), (8, y8), (9, y9), (10, y10), (12, y12), (20, y20), (33, z1)] := fun y0 y1 y2 y4 y5 y6 y7 y8 y9 y10 y12 y20 y33 z0 z1 => rfl
      refine R_nil (tr _ _ _ _ _ _ _ _ _ _ _ _ _ _ _) ?_; clear tr
      refine then_n ?_
      refine cdd (fun h3 => ?_) (fun h3 => ?_)
      · try simp only [decide_eq_true_eq, decide_eq_false_iff_not, Bool.not_eq_true', Bool.not_eq_false', beq_iff_eq, beq_eq_false_iff_ne, ne_eq] at h3
        refine at_seq rfl ?_
        refine rg rfl ?_
        obtain ⟨rfl, rfl, hno⟩ := he1 (by assumption)
        have hne := hno l
        refine Rq ?_
        refine Rq ?_
        refine Rq ?_
        refine Rp_split (fun h4 => ?_) (fun h4 => ?_)
        · try simp only [decide_eq_true_eq, decide_eq_false_iff_not, Bool.not_eq_true', Bool.not_eq_false', beq_iff_eq, beq_eq_false_iff_ne, ne_eq] at h4
          refine Ry ?_
          refine Rq ?_
          refine Ry ?_
          refine R_q rfl (by simp (disch := first | omega | (simp only [List.length_map, List.length_append, List.length_set, List.length_cons, List.length_nil, List.length_take, List.length_drop]; omega)) only [go_sem, ↓reduceIte, Nat.reduceEqDiff, reduceCtorEq, hsx, hsy]; rfl) ?_
          refine Ry ?_
          refine Rq ?_
          refine Ry ?_
          refine Rq ?_
          refine Rq ?_
          refine Rq ?_
          have tr : ∀ y0 y1 y2 y4 y5 y6 y7 y8 y9 y10 y12 y20 y33 z0 z1 z2 z3 z4 z5 z6 z7 z8 : AV, trim [(4, z8), (41, z7), (40, z6), (39, z5), (38, z4), (37, z3), (36, z2), (35, z1), (34, z0), (0, y0), (1, y1), (2, y2), (4, y4), (5, y5), (6, y6), (7, y7), (8, y8), (9, y9), (10, y10), (12, y12), (20, y20), (33, y33)] [(0, y0), (1, y1), (2, y2), (4, y4), (5, y5), (6, y6), (7, y7), (8, y8), (9, y9), (10, y10), (12, y12), (20, y20), (33, y33)] = [(0, y0), (1, y1), (2, y2), (4, z8), (5, y5), (6, y6), (7, y7), (8, y8), (9, y9), (10, y10), (12, y12), (20, y20), (33, y33)] := fun y0 y1 y2 y4 y5 y6 y7 y8 y9 y10 y12 y20 y33 z0 z1 z2 z3 z4 z5 z6 z7 z8 => rfl
          refine R_nil (tr _ _ _ _ _ _ _ _ _ _ _ _ _ _ _ _ _ _ _ _ _ _) ?_; clear tr
          refine then_n ?_
          refine at_ret rfl ?_
          refine then_r ?_
          refine fpure ?_
          first | rfl | (exfalso; simp_all; done) | (have hle := plan_le hc hK (by assumption : (costS rows q la l).2 = 0); simp [hle]; done) | simp
        · try simp only [decide_eq_true_eq, decide_eq_false_iff_not, Bool.not_eq_true', Bool.not_eq_false', beq_iff_eq, beq_eq_false_iff_ne, ne_eq] at h4
          exact absurd (by assumption) hne
      · try simp only [decide_eq_true_eq, decide_eq_false_iff_not, Bool.not_eq_true', Bool.not_eq_false', beq_iff_eq, beq_eq_false_iff_ne, ne_eq] at h3
        refine at_skip rfl ?_
        refine then_n ?_
        refine at_seq rfl ?_
        refine rg rfl ?_
        obtain ⟨w, K, c, la2, rfl, rfl, rfl, hK, hR, hwl, hc, hpz⟩ := he0 (by omega)
        have ha := accept_plan hc hpz hK hR hwl
        have hm := full_max (good_of hc) hK
        refine R_q rfl (by simp (disch := first | omega | (simp only [List.length_map, List.length_append, List.length_set, List.length_cons, List.length_nil, List.length_take, List.length_drop]; omega)) only [go_sem, ↓reduceIte, Nat.reduceEqDiff, reduceCtorEq, hsx, hsy]; rfl) ?_
        refine Rq ?_
        refine R_q rfl (by simp (disch := first | omega | (simp only [List.length_map, List.length_append, List.length_set, List.length_cons, List.length_nil, List.length_take, List.length_drop]; omega)) only [go_sem, ↓reduceIte, Nat.reduceEqDiff, reduceCtorEq, hsx, hsy]; rfl) ?_
        refine Rcall ?_
        refine ACall_eq (cost_ok _ _ rows q la w) ?_
        rewrite [ha.1]
        refine Rq ?_
        refine Rq ?_
        refine Rq ?_
        refine Rq ?_
        refine Rq ?_
        have tr : ∀ y0 y1 y2 y4 y5 y6 y7 y8 y9 y10 y12 y20 y33 z0 z1 z2 z3 z4 z5 z6 z7 z8 : AV, trim [(10, z8), (9, z7), (48, z6), (47, z5), (42, z4), (46, z3), (45, z2), (44, z1), (43, z0), (0, y0), (1, y1), (2, y2), (4, y4), (5, y5), (6, y6), (7, y7), (8, y8), (9, y9), (10, y10), (12, y12), (20, y20), (33, y33)] [(0, y0), (1, y1), (2, y2), (4, y4), (5, y5), (6, y6), (7, y7), (8, y8), (9, y9), (10, y10), (12, y12), (20, y20), (33, y33)] = [(0, y0), (1, y1), (2, y2), (4, y4), (5, y5), (6, y6), (7, y7), (8, y8), (9, z7), (10, z8), (12, y12), (20, y20), (33, y33)] := fun y0 y1 y2 y4 y5 y6 y7 y8 y9 y10 y12 y20 y33 z0 z1 z2 z3 z4 z5 z6 z7 z8 => rfl
        refine R_nil (tr _ _ _ _ _ _ _ _ _ _ _ _ _ _ _ _ _ _ _ _ _ _) ?_; clear tr
        refine then_n ?_
        refine at_seq rfl ?_
        refine rg rfl ?_
        refine R_q rfl (by simp (disch := first | omega | (simp only [List.length_map, List.length_append, List.length_set, List.length_cons, List.length_nil, List.length_take, List.length_drop]; omega)) only [go_sem, ↓reduceIte, Nat.reduceEqDiff, reduceCtorEq, hsx, hsy]; rfl) ?_
        refine R_q rfl (by simp (disch := first | omega | (simp only [List.length_map, List.length_append, List.length_set, List.length_cons, List.length_nil, List.length_take, List.length_drop]; omega)) only [go_sem, ↓reduceIte, Nat.reduceEqDiff, reduceCtorEq, hsx, hsy]; rfl) ?_
        refine Rcall ?_
        refine ACall_eq (accept_ok _ _ rows q la w _ K _ _ _ (frz_int _ _ _ _) (frz_int _ _ _ _) rfl (fun _ => rfl) hm.1 hm.2) ?_
        rewrite [ha.2]
        refine Rq ?_
        refine Rq ?_
        refine Rp_split (fun h5 => ?_) (fun h5 => ?_)
        · try simp only [decide_eq_true_eq, decide_eq_false_iff_not, Bool.not_eq_true', Bool.not_eq_false', beq_iff_eq, beq_eq_false_iff_ne, ne_eq] at h5
          refine Ry ?_
          refine Rq ?_
          refine Ry ?_
          refine Rq ?_
          refine Rq ?_
          refine Rq ?_
          refine Rp_split (fun h6 => ?_) (fun h6 => ?_)
          · try simp only [decide_eq_true_eq, decide_eq_false_iff_not, Bool.not_eq_true', Bool.not_eq_false', beq_iff_eq, beq_eq_false_iff_ne, ne_eq] at h6
            refine Ry ?_
            refine Rq ?_
            refine Ry ?_
            refine Rq ?_
            refine Ry ?_
            refine R_q rfl (by simp (disch := first | omega | (simp only [List.length_map, List.length_append, List.length_set, List.length_cons, List.length_nil, List.length_take, List.length_drop]; omega)) only [go_sem, ↓reduceIte, Nat.reduceEqDiff, reduceCtorEq, hsx, hsy]; rfl) ?_
            refine Ry ?_
            refine Rq ?_
            refine Rq ?_
            refine Rq ?_
            refine Rp_split (fun h7 => ?_) (fun h7 => ?_)
            · try simp only [decide_eq_true_eq, decide_eq_false_iff_not, Bool.not_eq_true', Bool.not_eq_false', beq_iff_eq, beq_eq_false_iff_ne, ne_eq] at h7
              refine Ry ?_
              refine Rq ?_
              refine Ry ?_
              refine Rq ?_
              refine Ry ?_
              refine Rq ?_
              refine Rp_split (fun h8 => ?_) (fun h8 => ?_)
              · try simp only [decide_eq_true_eq, decide_eq_false_iff_not, Bool.not_eq_true', Bool.not_eq_false', beq_iff_eq, beq_eq_false_iff_ne, ne_eq] at h8
                refine Rn ?_
                refine Rn ?_
                refine Rn ?_
                refine Rn ?_
                refine Ry ?_
                refine Rq ?_
                refine Rq ?_
                refine Rq ?_
                have tr : ∀ y0 y1 y2 y4 y5 y6 y7 y8 y9 y10 y12 y20 y33 z0 z1 z2 z3 z4 z5 z6 z7 z8 z9 z10 z11 z12 z13 z14 z15 z16 z17 z18 z19 z20 z21 z22 z23 z24 : AV, trim [(4, z24), (72, z23), (71, z22), (70, z21), (69, z20), (68, z19), (67, z18), (66, z17), (65, z16), (64, z15), (63, z14), (62, z13), (61, z12), (60, z11), (59, z10), (58, z9), (57, z8), (56, z7), (55, z6), (54, z5), (53, z4), (52, z3), (51, z2), (50, z1), (49, z0), (0, y0), (1, y1), (2, y2), (4, y4), (5, y5), (6, y6), (7, y7), (8, y8), (9, y9), (10, y10), (12, y12), (20, y20), (33, y33)] [(0, y0), (1, y1), (2, y2), (4, y4), (5, y5), (6, y6), (7, y7), (8, y8), (9, y9), (10, y10), (12, y12), (20, y20), (33, y33)] = [(0, y0), (1, y1), (2, y2), (4, z24), (5, y5), (6, y6), (7, y7), (8, y8), (9, y9), (10, y10), (12, y12), (20, y20), (33, y33)] := fun y0 y1 y2 y4 y5 y6 y7 y8 y9 y10 y12 y20 y33 z0 z1 z2 z3 z4 z5 z6 z7 z8 z9 z10 z11 z12 z13 z14 z15 z16 z17 z18 z19 z20 z21 z22 z23 z24 => rfl
                refine R_nil (tr _ _ _ _ _ _ _ _ _ _ _ _ _ _ _ _ _ _ _ _ _ _ _ _ _ _ _ _ _ _ _ _ _ _ _ _ _ _) ?_; clear tr
                refine then_n ?_
                refine at_ret rfl ?_
                refine fpure ?_
                first | rfl | (exfalso; simp_all; done) | (have hle := plan_le hc hK (by assumption : (costS rows q la l).2 = 0); simp [hle]; done) | simp
              · try simp only [decide_eq_true_eq, decide_eq_false_iff_not, Bool.not_eq_true', Bool.not_eq_false', beq_iff_eq, beq_eq_false_iff_ne, ne_eq] at h8
                refine Ry ?_
                refine Rq ?_
                refine Ry ?_
                refine R_q rfl (by simp (disch := first | omega | (simp only [List.length_map, List.length_append, List.length_set, List.length_cons, List.length_nil, List.length_take, List.length_drop]; omega)) only [go_sem, ↓reduceIte, Nat.reduceEqDiff, reduceCtorEq, hsx, hsy]; rfl) ?_
                refine Ry ?_
                refine Rq ?_
                refine Ry ?_
                refine Rq ?_
                refine Ry ?_
                refine Rq ?_
                refine Rq ?_
                refine Rq ?_
                have tr : ∀ y0 y1 y2 y4 y5 y6 y7 y8 y9 y10 y12 y20 y33 z0 z1 z2 z3 z4 z5 z6 z7 z8 z9 z10 z11 z12 z13 z14 z15 z16 z17 z18 z19 z20 z21 z22 z23 z24 : AV, trim [(4, z24), (72, z23), (71, z22), (70, z21), (69, z20), (68, z19), (67, z18), (66, z17), (65, z16), (64, z15), (63, z14), (62, z13), (61, z12), (60, z11), (59, z10), (58, z9), (57, z8), (56, z7), (55, z6), (54, z5), (53, z4), (52, z3), (51, z2), (50, z1), (49, z0), (0, y0), (1, y1), (2, y2), (4, y4), (5, y5), (6, y6), (7, y7), (8, y8), (9, y9), (10, y10), (12, y12), (20, y20), (33, y33)] [(0, y0), (1, y1), (2, y2), (4, y4), (5, y5), (6, y6), (7, y7), (8, y8), (9, y9), (10, y10), (12, y12), (20, y20), (33, y33)] = [(0, y0), (1, y1), (2, y2), (4, z24), (5, y5), (6, y6), (7, y7), (8, y8), (9, y9), (10, y10), (12, y12), (20, y20), (33, y33)] := fun y0 y1 y2 y4 y5 y6 y7 y8 y9 y10 y12 y20 y33 z0 z1 z2 z3 z4 z5 z6 z7 z8 z9 z10 z11 z12 z13 z14 z15 z16 z17 z18 z19 z20 z21 z22 z23 z24 => rfl
                refine R_nil (tr _ _ _ _ _ _ _ _ _ _ _ _ _ _ _ _ _ _ _ _ _ _ _ _ _ _ _ _ _ _ _ _ _ _ _ _ _ _) ?_; clear tr
                refine then_n ?_
                refine at_ret rfl ?_
                refine fpure ?_
                first | rfl | (exfalso; simp_all; done) | (have hle := plan_le hc hK (by assumption : (costS rows q la l).2 = 0); simp [hle]; done) | simp
            · try simp only [decide_eq_true_eq, decide_eq_false_iff_not, Bool.not_eq_true', Bool.not_eq_false', beq_iff_eq, beq_eq_false_iff_ne, ne_eq] at h7
              first | omega | (exfalso; exact absurd rfl (by assumption)) | (exfalso; exact absurd trivial (by assumption)) | (exfalso; simp_all; done)
          · try simp only [decide_eq_true_eq, decide_eq_false_iff_not, Bool.not_eq_true', Bool.not_eq_false', beq_iff_eq, beq_eq_false_iff_ne, ne_eq] at h6
            first | omega | (exfalso; exact absurd rfl (by assumption)) | (exfalso; exact absurd trivial (by assumption)) | (exfalso; simp_all; done)
        · try simp only [decide_eq_true_eq, decide_eq_false_iff_not, Bool.not_eq_true', Bool.not_eq_false', beq_iff_eq, beq_eq_false_iff_ne, ne_eq] at h5
          first | omega | (exfalso; exact absurd rfl (by assumption)) | (exfalso; exact absurd trivial (by assumption)) | (exfalso; simp_all; done)

end Go.Proofs.Ytmkalakojfpfgaa
