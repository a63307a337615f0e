/-
  Walks of chapter 46. The steps are written by program (walk.py).
-/
import Derived.Test.YtmkalakojfpfgaaXH
import Derived.Test.YtmkalakojfpfgaaXA
import Derived.Test.YtmkalakojfpfgaaWN
import Derived.Test.YtmkalakojfpfgaaWJ
import Derived.Test.YtmkalakojfpfgaaSA
set_option linter.unusedSimpArgs false
set_option linter.unusedVariables false
set_option maxHeartbeats 40000000
set_option maxRecDepth 4000
namespace Go.Proofs.Ytmkalakojfpfgaa
open Go Go.Am

theorem aaccepts_ok (rows : Tb) (q la : Int) (l : List Int) (x0 x1 x2 : Int) (hL : rows.length ≤ 9223372036854775807) (hx0 : -9223372036854775808 ≤ x0 ∧ x0 ≤ 9223372036854775807) (hx1 : -9223372036854775808 ≤ x1 ∧ x1 ≤ 9223372036854775807) (hx2 : -9223372036854775808 ≤ x2 ∧ x2 ≤ 9223372036854775807) :
    ACall sig 0 6 [.agg [rowsAV rows, AV.i q, AV.i la], intsAV l, .agg [AV.i x0, AV.i x1, AV.i x2]] [] fun r _ => r = .v (.bool true) := by
  have hn0 : ([] : Heap).length = 0 := rfl
  have hsx : True := trivial
  have hsy : True := trivial
  have hsx2 : True := trivial
  have hsy2 : True := trivial
  have q0 : True := trivial
  have qx : True := trivial
  have qp : True := trivial
  have qw : True := trivial
  have qk : True := trivial
  refine ACall_pure (fa := fa6) rfl rfl rfl rfl ?_
  have tr : ∀ a0 a1 a2 : AV, env0 fa6.keep [a0, a1, a2] = [(0, a0), (1, a1), (2, a2), (3, .any), (5, .any), (6, .any), (7, .any), (8, .any), (9, .any), (10, .any), (11, .any), (13, .any), (21, .any), (28, .any), (43, .any), (58, .any), (70, .any)] := fun a0 a1 a2 => rfl
  refine W_to (tr _ _ _) ?_; clear tr
  refine at_seq rfl ?_
  refine rg rfl ?_
  refine A_box rfl (by simp (disch := first | omega | (simp only [List.length_map, List.length_append, List.length_set, List.length_cons, List.length_nil, List.length_take, List.length_drop]; omega)) only [go_sem, ↓reduceIte, Nat.reduceEqDiff, reduceCtorEq]; rfl) ?_
  intro H1 n1
  have en1 := n1.len
  have q0 := n1.new
  rw [List.length_nil] at en1 q0
  refine A_box rfl (by simp (disch := first | omega | (simp only [List.length_map, List.length_append, List.length_set, List.length_cons, List.length_nil, List.length_take, List.length_drop]; omega)) only [go_sem, ↓reduceIte, Nat.reduceEqDiff, reduceCtorEq]; rfl) ?_
  intro H2 n2
  have en2 := n2.len
  have q0 := (n2.old _ (hget_lt q0)).trans q0
  have qx := n2.new
  refine Rq ?_
  have tr : ∀ y0 y1 y2 y3 y5 y6 y7 y8 y9 y10 y11 y13 y21 y28 y43 y58 y70 z0 z1 z2 : AV, trim [(6, z2), (5, z1), (3, z0), (0, y0), (1, y1), (2, y2), (3, y3), (5, y5), (6, y6), (7, y7), (8, y8), (9, y9), (10, y10), (11, y11), (13, y13), (21, y21), (28, y28), (43, y43), (58, y58), (70, y70)] [(0, y0), (1, y1), (2, y2), (3, y3), (5, y5), (6, y6), (7, y7), (8, y8), (9, y9), (10, y10), (11, y11), (13, y13), (21, y21), (28, y28), (43, y43), (58, y58), (70, y70)] = [(0, y0), (1, y1), (2, y2), (3, z0), (5, z1), (6, z2), (7, y7), (8, y8), (9, y9), (10, y10), (11, y11), (13, y13), (21, y21), (28, y28), (43, y43), (58, y58), (70, y70)] := fun y0 y1 y2 y3 y5 y6 y7 y8 y9 y10 y11 y13 y21 y28 y43 y58 y70 z0 z1 z2 => rfl
  refine R_nil (tr _ _ _ _ _ _ _ _ _ _ _ _ _ _ _ _ _ _ _ _) ?_; clear tr
  refine then_n ?_
  refine at_seq rfl ?_
  refine at_seq rfl ?_
  refine rg rfl ?_
  refine Rcall ?_
  refine ACall_eval 200 (awake_ok _ _) ?_
  refine Rq ?_
  have tr : ∀ y0 y1 y2 y3 y5 y6 y7 y8 y9 y10 y11 y13 y21 y28 y43 y58 y70 z0 z1 : AV, trim [(13, z1), (12, z0), (0, y0), (1, y1), (2, y2), (3, y3), (5, y5), (6, y6), (7, y7), (8, y8), (9, y9), (10, y10), (11, y11), (13, y13), (21, y21), (28, y28), (43, y43), (58, y58), (70, y70)] [(0, y0), (1, y1), (2, y2), (3, y3), (5, y5), (6, y6), (7, y7), (8, y8), (9, y9), (10, y10), (11, y11), (13, y13), (21, y21), (28, y28), (43, y43), (58, y58), (70, y70)] = [(0, y0), (1, y1), (2, y2), (3, y3), (5, y5), (6, y6), (7, y7), (8, y8), (9, y9), (10, y10), (11, y11), (13, z1), (21, y21), (28, y28), (43, y43), (58, y58), (70, y70)] := fun y0 y1 y2 y3 y5 y6 y7 y8 y9 y10 y11 y13 y21 y28 y43 y58 y70 z0 z1 => rfl
  refine R_nil (tr _ _ _ _ _ _ _ _ _ _ _ _ _ _ _ _ _ _ _) ?_; clear tr
  refine then_n ?_
  refine cdf ?_
  refine at_skip rfl ?_
  refine then_n ?_
  refine at_seq rfl ?_
  refine at_seq rfl ?_
  refine rg rfl ?_
  refine R_q rfl (by simp (disch := first | omega | (simp only [List.length_map, List.length_append, List.length_set, List.length_cons, List.length_nil, List.length_take, List.length_drop]; omega)) only [go_sem, ↓reduceIte, Nat.reduceEqDiff, reduceCtorEq, hsx, hsy, hsx2, hsy2, q0, qx, qp, qw, qk]; rfl) ?_
  refine Rcall ?_
  refine ACall_mono (small_ok _ _ rows q la hL) ?_
  rintro r HX ⟨⟨b, rfl⟩, hHX⟩
  obtain rfl := hHX.symm
  refine Rq ?_
  refine Rq ?_
  refine Rp_split (fun h1 => ?_) (fun h1 => ?_)
  · try simp only [decide_eq_true_eq, decide_eq_false_iff_not, Bool.not_eq_true', Bool.not_eq_false', beq_iff_eq, beq_eq_false_iff_ne, ne_eq] at h1
    refine Rn ?_
    refine Rn ?_
    refine Rn ?_
    refine Rq ?_
    have tr : ∀ y0 y1 y2 y3 y5 y6 y7 y8 y9 y10 y11 y13 y21 y28 y43 y58 y70 z0 z1 z2 z3 z4 z5 z6 z7 : AV, trim [(21, z7), (20, z6), (19, z5), (18, z4), (17, z3), (16, z2), (15, z1), (14, z0), (0, y0), (1, y1), (2, y2), (3, y3), (5, y5), (6, y6), (7, y7), (8, y8), (9, y9), (10, y10), (11, y11), (13, y13), (21, y21), (28, y28), (43, y43), (58, y58), (70, y70)] [(0, y0), (1, y1), (2, y2), (3, y3), (5, y5), (6, y6), (7, y7), (8, y8), (9, y9), (10, y10), (11, y11), (13, y13), (21, y21), (28, y28), (43, y43), (58, y58), (70, y70)] = [(0, y0), (1, y1), (2, y2), (3, y3), (5, y5), (6, y6), (7, y7), (8, y8), (9, y9), (10, y10), (11, y11), (13, y13), (21, z7), (28, y28), (43, y43), (58, y58), (70, y70)] := fun y0 y1 y2 y3 y5 y6 y7 y8 y9 y10 y11 y13 y21 y28 y43 y58 y70 z0 z1 z2 z3 z4 z5 z6 z7 => rfl
    refine R_nil (tr _ _ _ _ _ _ _ _ _ _ _ _ _ _ _ _ _ _ _ _ _ _ _ _ _) ?_; clear tr
    refine then_n ?_
    refine cdt ?_
    refine at_seq rfl ?_
    refine rg rfl ?_
    refine Rq ?_
    have tr : ∀ y0 y1 y2 y3 y5 y6 y7 y8 y9 y10 y11 y13 y21 y28 y43 y58 y70 z0 : AV, trim [(6, z0), (0, y0), (1, y1), (2, y2), (3, y3), (5, y5), (6, y6), (7, y7), (8, y8), (9, y9), (10, y10), (11, y11), (13, y13), (21, y21), (28, y28), (43, y43), (58, y58), (70, y70)] [(0, y0), (1, y1), (2, y2), (3, y3), (5, y5), (6, y6), (7, y7), (8, y8), (9, y9), (10, y10), (11, y11), (13, y13), (21, y21), (28, y28), (43, y43), (58, y58), (70, y70)] = [(0, y0), (1, y1), (2, y2), (3, y3), (5, y5), (6, z0), (7, y7), (8, y8), (9, y9), (10, y10), (11, y11), (13, y13), (21, y21), (28, y28), (43, y43), (58, y58), (70, y70)] := fun y0 y1 y2 y3 y5 y6 y7 y8 y9 y10 y11 y13 y21 y28 y43 y58 y70 z0 => rfl
    refine R_nil (tr _ _ _ _ _ _ _ _ _ _ _ _ _ _ _ _ _ _) ?_; clear tr
    refine then_n ?_
    refine at_ret rfl ?_
    refine then_r ?_
    refine fpure ?_
    first | rfl | (have hal := accept_least hpz hK hR hwl (by assumption); simp [hal]; done) | (exfalso; simp_all; done) | simp
  · try simp only [decide_eq_true_eq, decide_eq_false_iff_not, Bool.not_eq_true', Bool.not_eq_false', beq_iff_eq, beq_eq_false_iff_ne, ne_eq] at h1
    refine Ry ?_
    refine Rq ?_
    refine Ry ?_
    refine Rq ?_
    refine Ry ?_
    refine Rq ?_
    refine Rq ?_
    have tr : ∀ y0 y1 y2 y3 y5 y6 y7 y8 y9 y10 y11 y13 y21 y28 y43 y58 y70 z0 z1 z2 z3 z4 z5 z6 z7 : AV, trim [(21, z7), (20, z6), (19, z5), (18, z4), (17, z3), (16, z2), (15, z1), (14, z0), (0, y0), (1, y1), (2, y2), (3, y3), (5, y5), (6, y6), (7, y7), (8, y8), (9, y9), (10, y10), (11, y11), (13, y13), (21, y21), (28, y28), (43, y43), (58, y58), (70, y70)] [(0, y0), (1, y1), (2, y2), (3, y3), (5, y5), (6, y6), (7, y7), (8, y8), (9, y9), (10, y10), (11, y11), (13, y13), (21, y21), (28, y28), (43, y43), (58, y58), (70, y70)] = [(0, y0), (1, y1), (2, y2), (3, y3), (5, y5), (6, y6), (7, y7), (8, y8), (9, y9), (10, y10), (11, y11), (13, y13), (21, z7), (28, y28), (43, y43), (58, y58), (70, y70)] := fun y0 y1 y2 y3 y5 y6 y7 y8 y9 y10 y11 y13 y21 y28 y43 y58 y70 z0 z1 z2 z3 z4 z5 z6 z7 => rfl
    refine R_nil (tr _ _ _ _ _ _ _ _ _ _ _ _ _ _ _ _ _ _ _ _ _ _ _ _ _) ?_; clear tr
    refine then_n ?_
    refine cdd (fun h2 => ?_) (fun h2 => ?_)
    · try simp only [decide_eq_true_eq, decide_eq_false_iff_not, Bool.not_eq_true', Bool.not_eq_false', beq_iff_eq, beq_eq_false_iff_ne, ne_eq] at h2
      refine at_seq rfl ?_
      refine rg rfl ?_
      refine Rq ?_
      have tr : ∀ y0 y1 y2 y3 y5 y6 y7 y8 y9 y10 y11 y13 y21 y28 y43 y58 y70 z0 : AV, trim [(6, z0), (0, y0), (1, y1), (2, y2), (3, y3), (5, y5), (6, y6), (7, y7), (8, y8), (9, y9), (10, y10), (11, y11), (13, y13), (21, y21), (28, y28), (43, y43), (58, y58), (70, y70)] [(0, y0), (1, y1), (2, y2), (3, y3), (5, y5), (6, y6), (7, y7), (8, y8), (9, y9), (10, y10), (11, y11), (13, y13), (21, y21), (28, y28), (43, y43), (58, y58), (70, y70)] = [(0, y0), (1, y1), (2, y2), (3, y3), (5, y5), (6, z0), (7, y7), (8, y8), (9, y9), (10, y10), (11, y11), (13, y13), (21, y21), (28, y28), (43, y43), (58, y58), (70, y70)] := fun y0 y1 y2 y3 y5 y6 y7 y8 y9 y10 y11 y13 y21 y28 y43 y58 y70 z0 => rfl
      refine R_nil (tr _ _ _ _ _ _ _ _ _ _ _ _ _ _ _ _ _ _) ?_; clear tr
      refine then_n ?_
      refine at_ret rfl ?_
      refine then_r ?_
      refine fpure ?_
      first | rfl | (have hal := accept_least hpz hK hR hwl (by assumption); simp [hal]; done) | (exfalso; simp_all; done) | simp
    · try simp only [decide_eq_true_eq, decide_eq_false_iff_not, Bool.not_eq_true', Bool.not_eq_false', beq_iff_eq, beq_eq_false_iff_ne, ne_eq] at h2
      refine at_skip rfl ?_
      refine then_n ?_
      refine at_seq rfl ?_
      refine rg rfl ?_
      refine R_q rfl (by simp (disch := first | omega | (simp only [List.length_map, List.length_append, List.length_set, List.length_cons, List.length_nil, List.length_take, List.length_drop]; omega)) only [go_sem, ↓reduceIte, Nat.reduceEqDiff, reduceCtorEq, hsx, hsy, hsx2, hsy2, q0, qx, qp, qw, qk]; rfl) ?_
      refine Rcall ?_
      refine ACall_mono (rbestO_ok _ _ (Nat.zero_le _) rows q la) ?_
      rintro r H3 hp
      obtain ⟨x, v, y, e, hr, hsx, hsy, od, he1, he0⟩ := planO_parts hp
      subst hr
      have eod := od.len
      have q0 := (od.old _ (hget_lt q0)).trans q0
      have qx := (od.old _ (hget_lt qx)).trans qx
      refine Rq ?_
      refine Rq ?_
      refine Rq ?_
      refine A_alloc rfl ?_
      intro H4 n4
      have en4 := n4.len
      have q0 := (n4.old _ (hget_lt q0)).trans q0
      have qx := (n4.old _ (hget_lt qx)).trans qx
      have qp := n4.new
      have lq0 := hget_lt q0
      have lqx := hget_lt qx
      have lqp := hget_lt qp
      refine A_store ty37 (by simp (disch := first | omega | (simp only [List.length_map, List.length_append, List.length_set, List.length_cons, List.length_nil, List.length_take, List.length_drop]; omega)) only [go_sem, ↓reduceIte, Nat.reduceEqDiff, reduceCtorEq, q0, qx, qp, hsx, hsy]; rfl) (by simp (disch := first | omega | (simp only [List.length_map, List.length_append, List.length_set, List.length_cons, List.length_nil, List.length_take, List.length_drop]; omega)) only [go_sem, ↓reduceIte, Nat.reduceEqDiff, reduceCtorEq, q0, qx, qp, hsx, hsy]; rfl) qp ⟨by omega, rfl, by first | exact Nat.le_refl _ | simp⟩ (show _ = [x, AV.i v, y] from rfl) ?_
      intro H5 w5
      have ew5 := w5.len
      have q0 := (w5.old _ (by omega)).trans q0
      have qx := (w5.old _ (by omega)).trans qx
      have qp := w5.new
      refine Rq ?_
      have tr : ∀ y0 y1 y2 y3 y5 y6 y7 y8 y9 y10 y11 y13 y21 y28 y43 y58 y70 z0 z1 z2 z3 z4 z5 z6 : AV, trim [(8, z6), (7, z5), (26, z4), (25, z3), (22, z2), (24, z1), (23, z0), (0, y0), (1, y1), (2, y2), (3, y3), (5, y5), (6, y6), (7, y7), (8, y8), (9, y9), (10, y10), (11, y11), (13, y13), (21, y21), (28, y28), (43, y43), (58, y58), (70, y70)] [(0, y0), (1, y1), (2, y2), (3, y3), (5, y5), (6, y6), (7, y7), (8, y8), (9, y9), (10, y10), (11, y11), (13, y13), (21, y21), (28, y28), (43, y43), (58, y58), (70, y70)] = [(0, y0), (1, y1), (2, y2), (3, y3), (5, y5), (6, y6), (7, z5), (8, z6), (9, y9), (10, y10), (11, y11), (13, y13), (21, y21), (28, y28), (43, y43), (58, y58), (70, y70)] := fun y0 y1 y2 y3 y5 y6 y7 y8 y9 y10 y11 y13 y21 y28 y43 y58 y70 z0 z1 z2 z3 z4 z5 z6 => rfl
      refine R_nil (tr _ _ _ _ _ _ _ _ _ _ _ _ _ _ _ _ _ _ _ _ _ _ _ _) ?_; clear tr
      refine then_n ?_
      refine at_seq rfl ?_
      refine at_seq rfl ?_
      refine rg rfl ?_
      refine Rq ?_
      refine Rq ?_
      have tr : ∀ y0 y1 y2 y3 y5 y6 y7 y8 y9 y10 y11 y13 y21 y28 y43 y58 y70 z0 z1 : AV, trim [(28, z1), (27, z0), (0, y0), (1, y1), (2, y2), (3, y3), (5, y5), (6, y6), (7, y7), (8, y8), (9, y9), (10, y10), (11, y11), (13, y13), (21, y21), (28, y28), (43, y43), (58, y58), (70, y70)] [(0, y0), (1, y1), (2, y2), (3, y3), (5, y5), (6, y6), (7, y7), (8, y8), (9, y9), (10, y10), (11, y11), (13, y13), (21, y21), (28, y28), (43, y43), (58, y58), (70, y70)] = [(0, y0), (1, y1), (2, y2), (3, y3), (5, y5), (6, y6), (7, y7), (8, y8), (9, y9), (10, y10), (11, y11), (13, y13), (21, y21), (28, z1), (43, y43), (58, y58), (70, y70)] := fun y0 y1 y2 y3 y5 y6 y7 y8 y9 y10 y11 y13 y21 y28 y43 y58 y70 z0 z1 => rfl
      refine R_nil (tr _ _ _ _ _ _ _ _ _ _ _ _ _ _ _ _ _ _ _) ?_; clear tr
      refine then_n ?_
      refine cdd (fun h3 => ?_) (fun h3 => ?_)
      · try simp only [decide_eq_true_eq, decide_eq_false_iff_not, Bool.not_eq_true', Bool.not_eq_false', beq_iff_eq, beq_eq_false_iff_ne, ne_eq] at h3
        refine at_seq rfl ?_
        refine rd rfl rfl ?_
        obtain ⟨rfl, rfl, hno⟩ := he1 (by assumption)
        have hne := hno l
        refine Q_q rfl (by simp (disch := first | omega | (simp only [List.length_map, List.length_append, List.length_set, List.length_cons, List.length_nil, List.length_take, List.length_drop]; omega)) only [go_sem, ↓reduceIte, Nat.reduceEqDiff, reduceCtorEq, hsx, hsy, hsx2, hsy2, q0, qx, qp, qw, qk]; rfl) ?_
        refine Qq ?_
        refine Qq ?_
        refine Qcall ?_
        refine ACall_eq (accept_ok _ _ rows q la l 0 [] _ _ _ (frz_int _ _ _ _) rfl rfl (fun h => absurd h hne) (by decide) (fun i => by rw [gt_out _ _ (by simp)]; decide)) ?_
        refine ⟨rfl, ?_⟩
        refine Q_q rfl (by simp (disch := first | omega | (simp only [List.length_map, List.length_append, List.length_set, List.length_cons, List.length_nil, List.length_take, List.length_drop]; omega)) only [go_sem, ↓reduceIte, Nat.reduceEqDiff, reduceCtorEq, hsx, hsy, hsx2, hsy2, q0, qx, qp, qw, qk]; rfl) ?_
        refine Qq ?_
        refine Qq ?_
        refine Qcall ?_
        refine ACall_eq (raccept_ok _ _ rows q la l 0 [] _ _ _ (frz_int _ _ _ _) rfl rfl (fun h => absurd h hne) (by decide) (fun i => by rw [gt_out _ _ (by simp)]; decide)) ?_
        refine ⟨rfl, ?_⟩
        refine Qq ?_
        refine Qq ?_
        refine Q_nil ?_
        have tr : ∀ y0 y1 y2 y3 y5 y6 y7 y8 y9 y10 y11 y13 y21 y28 y43 y58 y70 z0 z1 z2 z3 z4 z5 z6 z7 z8 z9 : AV, trim [(6, z9), (37, z8), (36, z7), (35, z6), (34, z5), (33, z4), (32, z3), (31, z2), (30, z1), (29, z0), (0, y0), (1, y1), (2, y2), (3, y3), (5, y5), (6, y6), (7, y7), (8, y8), (9, y9), (10, y10), (11, y11), (13, y13), (21, y21), (28, y28), (43, y43), (58, y58), (70, y70)] [(0, y0), (1, y1), (2, y2), (3, y3), (5, y5), (6, y6), (7, y7), (8, y8), (9, y9), (10, y10), (11, y11), (13, y13), (21, y21), (28, y28), (43, y43), (58, y58), (70, y70)] = [(0, y0), (1, y1), (2, y2), (3, y3), (5, y5), (6, z9), (7, y7), (8, y8), (9, y9), (10, y10), (11, y11), (13, y13), (21, y21), (28, y28), (43, y43), (58, y58), (70, y70)] := fun y0 y1 y2 y3 y5 y6 y7 y8 y9 y10 y11 y13 y21 y28 y43 y58 y70 z0 z1 z2 z3 z4 z5 z6 z7 z8 z9 => rfl
        refine R_nil (tr _ _ _ _ _ _ _ _ _ _ _ _ _ _ _ _ _ _ _ _ _ _ _ _ _ _ _) ?_; clear tr
        refine then_n ?_
        refine at_ret rfl ?_
        refine then_r ?_
        refine fpure ?_
        first | rfl | (have hal := accept_least hpz hK hR hwl (by assumption); simp [hal]; done) | (exfalso; simp_all; done) | simp
      · try simp only [decide_eq_true_eq, decide_eq_false_iff_not, Bool.not_eq_true', Bool.not_eq_false', beq_iff_eq, beq_eq_false_iff_ne, ne_eq] at h3
        refine at_skip rfl ?_
        refine then_n ?_
        refine at_seq rfl ?_
        refine rg rfl ?_
        obtain ⟨w, K, c, la2, bw, bk, rfl, rfl, rfl, hK, hR, hwl, hc, hpz, hbw, hbk, hbne, qw, qk⟩ := he0 (by omega)
        have hm := full_max (good_of hc) hK
        have hnk := num_eq (good_of hc)
        have hnp : 0 < stN rows q := stV_pos (by have := (good_of hc).q1; omega) _ _ (by omega)
        have hKl := hK.1
        have lqw := hget_lt qw
        have lqk := hget_lt qk
        have qw := (w5.old _ (by omega)).trans ((n4.old _ lqw).trans qw)
        have qk := (w5.old _ (by omega)).trans ((n4.old _ lqk).trans qk)
        refine Rq ?_
        refine R_q rfl (by simp (disch := first | omega | (simp only [List.length_map, List.length_append, List.length_set, List.length_cons, List.length_nil, List.length_take, List.length_drop]; omega)) only [go_sem, ↓reduceIte, Nat.reduceEqDiff, reduceCtorEq, hsx, hsy, hsx2, hsy2, q0, qx, qp, qw, qk]; rfl) ?_
        refine Rq ?_
        have tr : ∀ y0 y1 y2 y3 y5 y6 y7 y8 y9 y10 y11 y13 y21 y28 y43 y58 y70 z0 z1 z2 : AV, trim [(9, z2), (39, z1), (38, z0), (0, y0), (1, y1), (2, y2), (3, y3), (5, y5), (6, y6), (7, y7), (8, y8), (9, y9), (10, y10), (11, y11), (13, y13), (21, y21), (28, y28), (43, y43), (58, y58), (70, y70)] [(0, y0), (1, y1), (2, y2), (3, y3), (5, y5), (6, y6), (7, y7), (8, y8), (9, y9), (10, y10), (11, y11), (13, y13), (21, y21), (28, y28), (43, y43), (58, y58), (70, y70)] = [(0, y0), (1, y1), (2, y2), (3, y3), (5, y5), (6, y6), (7, y7), (8, y8), (9, z2), (10, y10), (11, y11), (13, y13), (21, y21), (28, y28), (43, y43), (58, y58), (70, y70)] := fun y0 y1 y2 y3 y5 y6 y7 y8 y9 y10 y11 y13 y21 y28 y43 y58 y70 z0 z1 z2 => rfl
        refine R_nil (tr _ _ _ _ _ _ _ _ _ _ _ _ _ _ _ _ _ _ _ _) ?_; clear tr
        refine then_n ?_
        refine at_seq rfl ?_
        refine at_seq rfl ?_
        refine rg rfl ?_
        refine Rq ?_
        refine R_q rfl (by simp (disch := first | omega | (simp only [List.length_map, List.length_append, List.length_set, List.length_cons, List.length_nil, List.length_take, List.length_drop]; omega)) only [go_sem, ↓reduceIte, Nat.reduceEqDiff, reduceCtorEq, hsx, hsy, hsx2, hsy2, q0, qx, qp, qw, qk]; rfl) ?_
        refine Rq ?_
        refine Rq ?_
        have tr : ∀ y0 y1 y2 y3 y5 y6 y7 y8 y9 y10 y11 y13 y21 y28 y43 y58 y70 z0 z1 z2 z3 : AV, trim [(43, z3), (42, z2), (41, z1), (40, z0), (0, y0), (1, y1), (2, y2), (3, y3), (5, y5), (6, y6), (7, y7), (8, y8), (9, y9), (10, y10), (11, y11), (13, y13), (21, y21), (28, y28), (43, y43), (58, y58), (70, y70)] [(0, y0), (1, y1), (2, y2), (3, y3), (5, y5), (6, y6), (7, y7), (8, y8), (9, y9), (10, y10), (11, y11), (13, y13), (21, y21), (28, y28), (43, y43), (58, y58), (70, y70)] = [(0, y0), (1, y1), (2, y2), (3, y3), (5, y5), (6, y6), (7, y7), (8, y8), (9, y9), (10, y10), (11, y11), (13, y13), (21, y21), (28, y28), (43, z3), (58, y58), (70, y70)] := fun y0 y1 y2 y3 y5 y6 y7 y8 y9 y10 y11 y13 y21 y28 y43 y58 y70 z0 z1 z2 z3 => rfl
        refine R_nil (tr _ _ _ _ _ _ _ _ _ _ _ _ _ _ _ _ _ _ _ _ _) ?_; clear tr
        refine then_n ?_
        refine cdd (fun h4 => ?_) (fun h4 => ?_)
        · try simp only [decide_eq_true_eq, decide_eq_false_iff_not, Bool.not_eq_true', Bool.not_eq_false', beq_iff_eq, beq_eq_false_iff_ne, ne_eq] at h4
          refine at_seq rfl ?_
          refine rg rfl ?_
          refine Rq ?_
          refine Rq ?_
          have lq0 := hget_lt q0
          have lqx := hget_lt qx
          have lqp := hget_lt qp
          have lqw := hget_lt qw
          have lqk := hget_lt qk
          refine A_store ty25 (by simp (disch := first | omega | (simp only [List.length_map, List.length_append, List.length_set, List.length_cons, List.length_nil, List.length_take, List.length_drop]; omega)) only [go_sem, ↓reduceIte, Nat.reduceEqDiff, reduceCtorEq, q0, qx, qp, qw, qk]; rfl) (by simp (disch := first | omega | (simp only [List.length_map, List.length_append, List.length_set, List.length_cons, List.length_nil, List.length_take, List.length_drop]; omega)) only [go_sem, ↓reduceIte, Nat.reduceEqDiff, reduceCtorEq, q0, qx, qp, qw, qk]; rfl) qp ⟨by omega, rfl, by first | exact Nat.le_refl _ | (show _ ≤ 3; decide)⟩ (k' := [intsAV l, AV.i (potB rows q (zeroC rows) la), .own 1 bk 0 K.length]) rfl ?_
          intro H6 w6
          have ew6 := w6.len
          have q0 := (w6.old _ (by omega)).trans q0
          have qx := (w6.old _ (by omega)).trans qx
          have qw := (w6.old _ (by omega)).trans qw
          have qk := (w6.old _ (by omega)).trans qk
          have qp := w6.new
          have tr : ∀ y0 y1 y2 y3 y5 y6 y7 y8 y9 y10 y11 y13 y21 y28 y43 y58 y70 z0 z1 : AV, trim [(45, z1), (44, z0), (0, y0), (1, y1), (2, y2), (3, y3), (5, y5), (6, y6), (7, y7), (8, y8), (9, y9), (10, y10), (11, y11), (13, y13), (21, y21), (28, y28), (43, y43), (58, y58), (70, y70)] [(0, y0), (1, y1), (2, y2), (3, y3), (5, y5), (6, y6), (7, y7), (8, y8), (9, y9), (10, y10), (11, y11), (13, y13), (21, y21), (28, y28), (43, y43), (58, y58), (70, y70)] = [(0, y0), (1, y1), (2, y2), (3, y3), (5, y5), (6, y6), (7, y7), (8, y8), (9, y9), (10, y10), (11, y11), (13, y13), (21, y21), (28, y28), (43, y43), (58, y58), (70, y70)] := fun y0 y1 y2 y3 y5 y6 y7 y8 y9 y10 y11 y13 y21 y28 y43 y58 y70 z0 z1 => rfl
          refine R_nil (tr _ _ _ _ _ _ _ _ _ _ _ _ _ _ _ _ _ _ _) ?_; clear tr
          refine then_n ?_
          refine rg rfl ?_
          refine R_q rfl (by simp (disch := first | omega | (simp only [List.length_map, List.length_append, List.length_set, List.length_cons, List.length_nil, List.length_take, List.length_drop]; omega)) only [go_sem, ↓reduceIte, Nat.reduceEqDiff, reduceCtorEq, hsx, hsy, hsx2, hsy2, q0, qx, qp, qw, qk]; rfl) ?_
          refine Rq ?_
          refine Rcall ?_
          refine ACall_eq (rcostf_ok _ _ rows q la l) ?_
          refine Rq ?_
          refine Rq ?_
          refine Rq ?_
          refine Rq ?_
          have lq0 := hget_lt q0
          have lqx := hget_lt qx
          have lqp := hget_lt qp
          have lqw := hget_lt qw
          have lqk := hget_lt qk
          refine A_store ty2 (by simp (disch := first | omega | (simp only [List.length_map, List.length_append, List.length_set, List.length_cons, List.length_nil, List.length_take, List.length_drop]; omega)) only [go_sem, ↓reduceIte, Nat.reduceEqDiff, reduceCtorEq, q0, qx, qp, qw, qk]; rfl) (by simp (disch := first | omega | (simp only [List.length_map, List.length_append, List.length_set, List.length_cons, List.length_nil, List.length_take, List.length_drop]; omega)) only [go_sem, ↓reduceIte, Nat.reduceEqDiff, reduceCtorEq, q0, qx, qp, qw, qk]; rfl) qp ⟨by omega, rfl, by first | exact Nat.le_refl _ | (show _ ≤ 3; decide)⟩ (k' := [intsAV l, AV.i (costS rows q la l).1, .own 1 bk 0 K.length]) rfl ?_
          intro H7 w7
          have ew7 := w7.len
          have q0 := (w7.old _ (by omega)).trans q0
          have qx := (w7.old _ (by omega)).trans qx
          have qw := (w7.old _ (by omega)).trans qw
          have qk := (w7.old _ (by omega)).trans qk
          have qp := w7.new
          have tr : ∀ y0 y1 y2 y3 y5 y6 y7 y8 y9 y10 y11 y13 y21 y28 y43 y58 y70 z0 z1 z2 z3 z4 z5 z6 : AV, trim [(52, z6), (51, z5), (50, z4), (46, z3), (49, z2), (48, z1), (47, z0), (0, y0), (1, y1), (2, y2), (3, y3), (5, y5), (6, y6), (7, y7), (8, y8), (9, y9), (10, y10), (11, y11), (13, y13), (21, y21), (28, y28), (43, y43), (58, y58), (70, y70)] [(0, y0), (1, y1), (2, y2), (3, y3), (5, y5), (6, y6), (7, y7), (8, y8), (9, y9), (10, y10), (11, y11), (13, y13), (21, y21), (28, y28), (43, y43), (58, y58), (70, y70)] = [(0, y0), (1, y1), (2, y2), (3, y3), (5, y5), (6, y6), (7, y7), (8, y8), (9, y9), (10, y10), (11, y11), (13, y13), (21, y21), (28, y28), (43, y43), (58, y58), (70, y70)] := fun y0 y1 y2 y3 y5 y6 y7 y8 y9 y10 y11 y13 y21 y28 y43 y58 y70 z0 z1 z2 z3 z4 z5 z6 => rfl
          refine R_nil (tr _ _ _ _ _ _ _ _ _ _ _ _ _ _ _ _ _ _ _ _ _ _ _ _) ?_; clear tr
          refine then_n ?_
          refine at_seq rfl ?_
          refine at_seq rfl ?_
          refine rg rfl ?_
          refine Rq ?_
          refine R_q rfl (by simp (disch := first | omega | (simp only [List.length_map, List.length_append, List.length_set, List.length_cons, List.length_nil, List.length_take, List.length_drop]; omega)) only [go_sem, ↓reduceIte, Nat.reduceEqDiff, reduceCtorEq, hsx, hsy, hsx2, hsy2, q0, qx, qp, qw, qk]; rfl) ?_
          refine Rq ?_
          refine Rq ?_
          have tr : ∀ y0 y1 y2 y3 y5 y6 y7 y8 y9 y10 y11 y13 y21 y28 y43 y58 y70 z0 z1 z2 z3 : AV, trim [(10, z3), (55, z2), (54, z1), (53, z0), (0, y0), (1, y1), (2, y2), (3, y3), (5, y5), (6, y6), (7, y7), (8, y8), (9, y9), (10, y10), (11, y11), (13, y13), (21, y21), (28, y28), (43, y43), (58, y58), (70, y70)] [(0, y0), (1, y1), (2, y2), (3, y3), (5, y5), (6, y6), (7, y7), (8, y8), (9, y9), (10, y10), (11, y11), (13, y13), (21, y21), (28, y28), (43, y43), (58, y58), (70, y70)] = [(0, y0), (1, y1), (2, y2), (3, y3), (5, y5), (6, y6), (7, y7), (8, y8), (9, y9), (10, z3), (11, y11), (13, y13), (21, y21), (28, y28), (43, y43), (58, y58), (70, y70)] := fun y0 y1 y2 y3 y5 y6 y7 y8 y9 y10 y11 y13 y21 y28 y43 y58 y70 z0 z1 z2 z3 => rfl
          refine R_nil (tr _ _ _ _ _ _ _ _ _ _ _ _ _ _ _ _ _ _ _ _ _) ?_; clear tr
          refine then_n ?_
          refine at_seq rfl ?_
          refine rg rfl ?_
          refine Rq ?_
          refine R_q rfl (by simp (disch := first | omega | (simp only [List.length_map, List.length_append, List.length_set, List.length_cons, List.length_nil, List.length_take, List.length_drop]; omega)) only [go_sem, ↓reduceIte, Nat.reduceEqDiff, reduceCtorEq, hsx, hsy, hsx2, hsy2, q0, qx, qp, qw, qk]; rfl) ?_
          refine Rq ?_
          have tr : ∀ y0 y1 y2 y3 y5 y6 y7 y8 y9 y10 y11 y13 y21 y28 y43 y58 y70 z0 z1 z2 : AV, trim [(58, z2), (57, z1), (56, z0), (0, y0), (1, y1), (2, y2), (3, y3), (5, y5), (6, y6), (7, y7), (8, y8), (9, y9), (10, y10), (11, y11), (13, y13), (21, y21), (28, y28), (43, y43), (58, y58), (70, y70)] [(0, y0), (1, y1), (2, y2), (3, y3), (5, y5), (6, y6), (7, y7), (8, y8), (9, y9), (10, y10), (11, y11), (13, y13), (21, y21), (28, y28), (43, y43), (58, y58), (70, y70)] = [(0, y0), (1, y1), (2, y2), (3, y3), (5, y5), (6, y6), (7, y7), (8, y8), (9, y9), (10, y10), (11, y11), (13, y13), (21, y21), (28, y28), (43, y43), (58, z2), (70, y70)] := fun y0 y1 y2 y3 y5 y6 y7 y8 y9 y10 y11 y13 y21 y28 y43 y58 y70 z0 z1 z2 => rfl
          refine R_nil (tr _ _ _ _ _ _ _ _ _ _ _ _ _ _ _ _ _ _ _ _) ?_; clear tr
          refine then_n ?_
          refine cdd (fun h5 => ?_) (fun h5 => ?_)
          · try simp only [decide_eq_true_eq, decide_eq_false_iff_not, Bool.not_eq_true', Bool.not_eq_false', beq_iff_eq, beq_eq_false_iff_ne, ne_eq] at h5
            refine rd rfl rfl ?_
            have hx2r := Int.emod_nonneg x0 (show (K.length : Int) ≠ 0 by omega)
            have hx2s := Int.emod_lt_of_pos x0 (show 0 < (K.length : Int) by omega)
            refine Qq ?_
            refine Q_q rfl (by simp (disch := first | omega | (simp only [List.length_map, List.length_append, List.length_set, List.length_cons, List.length_nil, List.length_take, List.length_drop]; omega)) only [go_sem, ↓reduceIte, Nat.reduceEqDiff, reduceCtorEq, hsx, hsy, hsx2, hsy2, q0, qx, qp, qw, qk]; rfl) ?_
            refine Qq ?_
            refine Q_q rfl (by simp (disch := first | omega | (simp only [List.length_map, List.length_append, List.length_set, List.length_cons, List.length_nil, List.length_take, List.length_drop]; omega)) only [go_sem, ↓reduceIte, Nat.reduceEqDiff, reduceCtorEq, hsx, hsy, hsx2, hsy2, q0, qx, qp, qw, qk]; rfl) ?_
            refine Qq ?_
            refine Qq ?_
            refine Qq ?_
            refine Q_q rfl (by simp (disch := first | omega | (simp only [List.length_map, List.length_append, List.length_set, List.length_cons, List.length_nil, List.length_take, List.length_drop]; omega)) only [go_sem, ↓reduceIte, Nat.reduceEqDiff, reduceCtorEq, hsx, hsy, hsx2, hsy2, q0, qx, qp, qw, qk]; rfl) ?_
            refine Qq ?_
            refine Q_nil ?_
            have lq0 := hget_lt q0
            have lqx := hget_lt qx
            have lqp := hget_lt qp
            have lqw := hget_lt qw
            have lqk := hget_lt qk
            refine A_store ty2 (by simp (disch := first | omega | (simp only [List.length_map, List.length_append, List.length_set, List.length_cons, List.length_nil, List.length_take, List.length_drop]; omega)) only [go_sem, ↓reduceIte, Nat.reduceEqDiff, reduceCtorEq, q0, qx, qp, qw, qk] <;> rfl) (by simp (disch := first | omega | (simp only [List.length_map, List.length_append, List.length_set, List.length_cons, List.length_nil, List.length_take, List.length_drop]; omega)) only [go_sem, ↓reduceIte, Nat.reduceEqDiff, reduceCtorEq, q0, qx, qp, qw, qk] <;> rfl) qk ⟨by omega, rfl, by simp only [List.length_map]; omega⟩ (k' := ((K.set (x0 % K.length).toNat x1).map AV.i)) (setL_map _ _ _) ?_
            intro H8 w8
            have ew8 := w8.len
            have q0 := (w8.old _ (by omega)).trans q0
            have qx := (w8.old _ (by omega)).trans qx
            have qp := (w8.old _ (by omega)).trans qp
            have qw := (w8.old _ (by omega)).trans qw
            have qk := w8.new
            have tr : ∀ y0 y1 y2 y3 y5 y6 y7 y8 y9 y10 y11 y13 y21 y28 y43 y58 y70 z0 z1 z2 z3 z4 z5 z6 z7 z8 : AV, trim [(67, z8), (66, z7), (65, z6), (64, z5), (63, z4), (62, z3), (61, z2), (60, z1), (59, z0), (0, y0), (1, y1), (2, y2), (3, y3), (5, y5), (6, y6), (7, y7), (8, y8), (9, y9), (10, y10), (11, y11), (13, y13), (21, y21), (28, y28), (43, y43), (58, y58), (70, y70)] [(0, y0), (1, y1), (2, y2), (3, y3), (5, y5), (6, y6), (7, y7), (8, y8), (9, y9), (10, y10), (11, y11), (13, y13), (21, y21), (28, y28), (43, y43), (58, y58), (70, y70)] = [(0, y0), (1, y1), (2, y2), (3, y3), (5, y5), (6, y6), (7, y7), (8, y8), (9, y9), (10, y10), (11, y11), (13, y13), (21, y21), (28, y28), (43, y43), (58, y58), (70, y70)] := fun y0 y1 y2 y3 y5 y6 y7 y8 y9 y10 y11 y13 y21 y28 y43 y58 y70 z0 z1 z2 z3 z4 z5 z6 z7 z8 => rfl
            refine R_nil (tr _ _ _ _ _ _ _ _ _ _ _ _ _ _ _ _ _ _ _ _ _ _ _ _ _ _) ?_; clear tr
            refine then_n ?_
            refine at_seq rfl ?_
            refine rg rfl ?_
            obtain ⟨W, V, P, xx, yy, qp, hfx, hfy, hPL, hPb, hsx2, hsy2⟩ : ∃ W V P xx yy, hget H8 H3.length = some [xx, AV.i V, yy] ∧ frz H8 0 7 xx = intsAV W ∧ frz H8 0 7 yy = intsAV P ∧ P.length ≤ 9223372036854775807 ∧ (∀ i, gt P i ≤ 9223372036854775807) ∧ storable xx = true ∧ storable yy = true := ⟨_, _, (K.set (x0 % K.length).toNat x1), _, _, qp, by first | exact frz_int _ _ _ _ | exact frz_ownI (by omega) qw rfl, frz_ownI (by omega) qk (by simp), by simp; omega, set_max hm.2 (by omega), rfl, rfl⟩
            refine R_q rfl (by simp (disch := first | omega | (simp only [List.length_map, List.length_append, List.length_set, List.length_cons, List.length_nil, List.length_take, List.length_drop]; omega)) only [go_sem, ↓reduceIte, Nat.reduceEqDiff, reduceCtorEq, hsx, hsy, hsx2, hsy2, q0, qx, qp, qw, qk]; rfl) ?_
            refine R_q rfl (by simp (disch := first | omega | (simp only [List.length_map, List.length_append, List.length_set, List.length_cons, List.length_nil, List.length_take, List.length_drop]; omega)) only [go_sem, ↓reduceIte, Nat.reduceEqDiff, reduceCtorEq, hsx, hsy, hsx2, hsy2, q0, qx, qp, qw, qk]; rfl) ?_
            refine Rcall ?_
            refine ACall_eq (accept_ok _ _ rows q la W V P _ _ _ hfx hfy rfl (fun _ => rfl) hPL hPb) ?_
            refine Rq ?_
            have tr : ∀ y0 y1 y2 y3 y5 y6 y7 y8 y9 y10 y11 y13 y21 y28 y43 y58 y70 z0 z1 z2 z3 : AV, trim [(11, z3), (77, z2), (76, z1), (75, z0), (0, y0), (1, y1), (2, y2), (3, y3), (5, y5), (6, y6), (7, y7), (8, y8), (9, y9), (10, y10), (11, y11), (13, y13), (21, y21), (28, y28), (43, y43), (58, y58), (70, y70)] [(0, y0), (1, y1), (2, y2), (3, y3), (5, y5), (6, y6), (7, y7), (8, y8), (9, y9), (10, y10), (11, y11), (13, y13), (21, y21), (28, y28), (43, y43), (58, y58), (70, y70)] = [(0, y0), (1, y1), (2, y2), (3, y3), (5, y5), (6, y6), (7, y7), (8, y8), (9, y9), (10, y10), (11, z3), (13, y13), (21, y21), (28, y28), (43, y43), (58, y58), (70, y70)] := fun y0 y1 y2 y3 y5 y6 y7 y8 y9 y10 y11 y13 y21 y28 y43 y58 y70 z0 z1 z2 z3 => rfl
            refine R_nil (tr _ _ _ _ _ _ _ _ _ _ _ _ _ _ _ _ _ _ _ _ _) ?_; clear tr
            refine then_n ?_
            refine at_seq rfl ?_
            refine rg rfl ?_
            refine Rq ?_
            refine R_q rfl (by simp (disch := first | omega | (simp only [List.length_map, List.length_append, List.length_set, List.length_cons, List.length_nil, List.length_take, List.length_drop]; omega)) only [go_sem, ↓reduceIte, Nat.reduceEqDiff, reduceCtorEq, hsx, hsy, hsx2, hsy2, q0, qx, qp, qw, qk]; rfl) ?_
            refine R_q rfl (by simp (disch := first | omega | (simp only [List.length_map, List.length_append, List.length_set, List.length_cons, List.length_nil, List.length_take, List.length_drop]; omega)) only [go_sem, ↓reduceIte, Nat.reduceEqDiff, reduceCtorEq, hsx, hsy, hsx2, hsy2, q0, qx, qp, qw, qk]; rfl) ?_
            refine Rcall ?_
            refine ACall_eq (raccept_ok _ _ rows q la W V P _ _ _ hfx hfy rfl (fun _ => rfl) hPL hPb) ?_
            refine Rq ?_
            refine Rq ?_
            refine Rp_split (fun h6 => ?_) (fun h6 => ?_)
            · try simp only [decide_eq_true_eq, decide_eq_false_iff_not, Bool.not_eq_true', Bool.not_eq_false', beq_iff_eq, beq_eq_false_iff_ne, ne_eq] at h6
              refine Ry ?_
              refine Rq ?_
              refine Ry ?_
              refine Rq ?_
              refine Ry ?_
              refine Rq ?_
              refine Rp_split (fun h7 => ?_) (fun h7 => ?_)
              · try simp only [decide_eq_true_eq, decide_eq_false_iff_not, Bool.not_eq_true', Bool.not_eq_false', beq_iff_eq, beq_eq_false_iff_ne, ne_eq] at h7
                refine Rn ?_
                refine Rn ?_
                refine Rn ?_
                refine Rn ?_
                refine Ry ?_
                refine Rq ?_
                refine Rq ?_
                refine Rq ?_
                have tr : ∀ y0 y1 y2 y3 y5 y6 y7 y8 y9 y10 y11 y13 y21 y28 y43 y58 y70 z0 z1 z2 z3 z4 z5 z6 z7 z8 z9 z10 z11 z12 z13 z14 z15 : AV, trim [(6, z15), (92, z14), (91, z13), (90, z12), (89, z11), (88, z10), (87, z9), (86, z8), (85, z7), (84, z6), (83, z5), (82, z4), (81, z3), (80, z2), (79, z1), (78, z0), (0, y0), (1, y1), (2, y2), (3, y3), (5, y5), (6, y6), (7, y7), (8, y8), (9, y9), (10, y10), (11, y11), (13, y13), (21, y21), (28, y28), (43, y43), (58, y58), (70, y70)] [(0, y0), (1, y1), (2, y2), (3, y3), (5, y5), (6, y6), (7, y7), (8, y8), (9, y9), (10, y10), (11, y11), (13, y13), (21, y21), (28, y28), (43, y43), (58, y58), (70, y70)] = [(0, y0), (1, y1), (2, y2), (3, y3), (5, y5), (6, z15), (7, y7), (8, y8), (9, y9), (10, y10), (11, y11), (13, y13), (21, y21), (28, y28), (43, y43), (58, y58), (70, y70)] := fun y0 y1 y2 y3 y5 y6 y7 y8 y9 y10 y11 y13 y21 y28 y43 y58 y70 z0 z1 z2 z3 z4 z5 z6 z7 z8 z9 z10 z11 z12 z13 z14 z15 => rfl
                refine R_nil (tr _ _ _ _ _ _ _ _ _ _ _ _ _ _ _ _ _ _ _ _ _ _ _ _ _ _ _ _ _ _ _ _ _) ?_; clear tr
                refine then_n ?_
                refine at_ret rfl ?_
                refine fpure ?_
                first | rfl | (have hal := accept_least hpz hK hR hwl (by assumption); simp [hal]; done) | (exfalso; simp_all; done) | simp
              · try simp only [decide_eq_true_eq, decide_eq_false_iff_not, Bool.not_eq_true', Bool.not_eq_false', beq_iff_eq, beq_eq_false_iff_ne, ne_eq] at h7
                refine Ry ?_
                refine Rq ?_
                refine Ry ?_
                refine R_q rfl (by simp (disch := first | omega | (simp only [List.length_map, List.length_append, List.length_set, List.length_cons, List.length_nil, List.length_take, List.length_drop]; omega)) only [go_sem, ↓reduceIte, Nat.reduceEqDiff, reduceCtorEq, hsx, hsy, hsx2, hsy2, q0, qx, qp, qw, qk]; rfl) ?_
                refine Ry ?_
                refine Rq ?_
                refine Ry ?_
                refine Rq ?_
                refine Ry ?_
                refine Rq ?_
                refine Rq ?_
                refine Rq ?_
                have tr : ∀ y0 y1 y2 y3 y5 y6 y7 y8 y9 y10 y11 y13 y21 y28 y43 y58 y70 z0 z1 z2 z3 z4 z5 z6 z7 z8 z9 z10 z11 z12 z13 z14 z15 : AV, trim [(6, z15), (92, z14), (91, z13), (90, z12), (89, z11), (88, z10), (87, z9), (86, z8), (85, z7), (84, z6), (83, z5), (82, z4), (81, z3), (80, z2), (79, z1), (78, z0), (0, y0), (1, y1), (2, y2), (3, y3), (5, y5), (6, y6), (7, y7), (8, y8), (9, y9), (10, y10), (11, y11), (13, y13), (21, y21), (28, y28), (43, y43), (58, y58), (70, y70)] [(0, y0), (1, y1), (2, y2), (3, y3), (5, y5), (6, y6), (7, y7), (8, y8), (9, y9), (10, y10), (11, y11), (13, y13), (21, y21), (28, y28), (43, y43), (58, y58), (70, y70)] = [(0, y0), (1, y1), (2, y2), (3, y3), (5, y5), (6, z15), (7, y7), (8, y8), (9, y9), (10, y10), (11, y11), (13, y13), (21, y21), (28, y28), (43, y43), (58, y58), (70, y70)] := fun y0 y1 y2 y3 y5 y6 y7 y8 y9 y10 y11 y13 y21 y28 y43 y58 y70 z0 z1 z2 z3 z4 z5 z6 z7 z8 z9 z10 z11 z12 z13 z14 z15 => rfl
                refine R_nil (tr _ _ _ _ _ _ _ _ _ _ _ _ _ _ _ _ _ _ _ _ _ _ _ _ _ _ _ _ _ _ _ _ _) ?_; clear tr
                refine then_n ?_
                refine at_ret rfl ?_
                refine fpure ?_
                first | rfl | (have hal := accept_least hpz hK hR hwl (by assumption); simp [hal]; done) | (exfalso; simp_all; done) | simp
            · try simp only [decide_eq_true_eq, decide_eq_false_iff_not, Bool.not_eq_true', Bool.not_eq_false', beq_iff_eq, beq_eq_false_iff_ne, ne_eq] at h6
              refine Rn ?_
              refine Rn ?_
              refine Rn ?_
              refine Ru ?_
              refine Ru ?_
              refine Ru ?_
              refine Ru ?_
              refine Rn ?_
              refine Rq ?_
              refine Rq ?_
              have tr : ∀ y0 y1 y2 y3 y5 y6 y7 y8 y9 y10 y11 y13 y21 y28 y43 y58 y70 z0 z1 z2 z3 z4 z5 z6 z7 z8 z9 z10 z11 z12 z13 z14 z15 : AV, trim [(6, z15), (92, z14), (91, z13), (90, z12), (89, z11), (88, z10), (87, z9), (86, z8), (85, z7), (84, z6), (83, z5), (82, z4), (81, z3), (80, z2), (79, z1), (78, z0), (0, y0), (1, y1), (2, y2), (3, y3), (5, y5), (6, y6), (7, y7), (8, y8), (9, y9), (10, y10), (11, y11), (13, y13), (21, y21), (28, y28), (43, y43), (58, y58), (70, y70)] [(0, y0), (1, y1), (2, y2), (3, y3), (5, y5), (6, y6), (7, y7), (8, y8), (9, y9), (10, y10), (11, y11), (13, y13), (21, y21), (28, y28), (43, y43), (58, y58), (70, y70)] = [(0, y0), (1, y1), (2, y2), (3, y3), (5, y5), (6, z15), (7, y7), (8, y8), (9, y9), (10, y10), (11, y11), (13, y13), (21, y21), (28, y28), (43, y43), (58, y58), (70, y70)] := fun y0 y1 y2 y3 y5 y6 y7 y8 y9 y10 y11 y13 y21 y28 y43 y58 y70 z0 z1 z2 z3 z4 z5 z6 z7 z8 z9 z10 z11 z12 z13 z14 z15 => rfl
              refine R_nil (tr _ _ _ _ _ _ _ _ _ _ _ _ _ _ _ _ _ _ _ _ _ _ _ _ _ _ _ _ _ _ _ _ _) ?_; clear tr
              refine then_n ?_
              refine at_ret rfl ?_
              refine fpure ?_
              first | rfl | (have hal := accept_least hpz hK hR hwl (by assumption); simp [hal]; done) | (exfalso; simp_all; done) | simp
          · try simp only [decide_eq_true_eq, decide_eq_false_iff_not, Bool.not_eq_true', Bool.not_eq_false', beq_iff_eq, beq_eq_false_iff_ne, ne_eq] at h5
            refine at_seq rfl ?_
            refine rg rfl ?_
            refine Rq ?_
            refine R_q rfl (by simp (disch := first | omega | (simp only [List.length_map, List.length_append, List.length_set, List.length_cons, List.length_nil, List.length_take, List.length_drop]; omega)) only [go_sem, ↓reduceIte, Nat.reduceEqDiff, reduceCtorEq, hsx, hsy, hsx2, hsy2, q0, qx, qp, qw, qk]; rfl) ?_
            refine Rq ?_
            have tr : ∀ y0 y1 y2 y3 y5 y6 y7 y8 y9 y10 y11 y13 y21 y28 y43 y58 y70 z0 z1 z2 : AV, trim [(70, z2), (69, z1), (68, z0), (0, y0), (1, y1), (2, y2), (3, y3), (5, y5), (6, y6), (7, y7), (8, y8), (9, y9), (10, y10), (11, y11), (13, y13), (21, y21), (28, y28), (43, y43), (58, y58), (70, y70)] [(0, y0), (1, y1), (2, y2), (3, y3), (5, y5), (6, y6), (7, y7), (8, y8), (9, y9), (10, y10), (11, y11), (13, y13), (21, y21), (28, y28), (43, y43), (58, y58), (70, y70)] = [(0, y0), (1, y1), (2, y2), (3, y3), (5, y5), (6, y6), (7, y7), (8, y8), (9, y9), (10, y10), (11, y11), (13, y13), (21, y21), (28, y28), (43, y43), (58, y58), (70, z2)] := fun y0 y1 y2 y3 y5 y6 y7 y8 y9 y10 y11 y13 y21 y28 y43 y58 y70 z0 z1 z2 => rfl
            refine R_nil (tr _ _ _ _ _ _ _ _ _ _ _ _ _ _ _ _ _ _ _ _) ?_; clear tr
            refine then_n ?_
            refine cdd (fun h8 => ?_) (fun h8 => ?_)
            · try simp only [decide_eq_true_eq, decide_eq_false_iff_not, Bool.not_eq_true', Bool.not_eq_false', beq_iff_eq, beq_eq_false_iff_ne, ne_eq] at h8
              refine rg rfl ?_
              refine Rq ?_
              refine R_q rfl (by simp (disch := first | omega | (simp only [List.length_map, List.length_append, List.length_set, List.length_cons, List.length_nil, List.length_take, List.length_drop]; omega)) only [go_sem, ↓reduceIte, Nat.reduceEqDiff, reduceCtorEq, hsx, hsy, hsx2, hsy2, q0, qx, qp, qw, qk]; rfl) ?_
              refine R_q rfl (by simp (disch := first | omega | (simp only [List.length_map, List.length_append, List.length_set, List.length_cons, List.length_nil, List.length_take, List.length_drop]; omega)) only [go_sem, ↓reduceIte, Nat.reduceEqDiff, reduceCtorEq, q0, qx, qp, qw, qk]; exact slice35o bk K.length (by omega)) ?_
              refine Rq ?_
              have lq0 := hget_lt q0
              have lqx := hget_lt qx
              have lqp := hget_lt qp
              have lqw := hget_lt qw
              have lqk := hget_lt qk
              refine A_store ty35 (by simp (disch := first | omega | (simp only [List.length_map, List.length_append, List.length_set, List.length_cons, List.length_nil, List.length_take, List.length_drop]; omega)) only [go_sem, ↓reduceIte, Nat.reduceEqDiff, reduceCtorEq, q0, qx, qp, qw, qk]; rfl) (by simp (disch := first | omega | (simp only [List.length_map, List.length_append, List.length_set, List.length_cons, List.length_nil, List.length_take, List.length_drop]; omega)) only [go_sem, ↓reduceIte, Nat.reduceEqDiff, reduceCtorEq, q0, qx, qp, qw, qk]; rfl) qp ⟨by omega, rfl, by first | exact Nat.le_refl _ | (show _ ≤ 3; decide)⟩ rfl ?_
              intro H9 w9
              have ew9 := w9.len
              have q0 := (w9.old _ (by omega)).trans q0
              have qx := (w9.old _ (by omega)).trans qx
              have qw := (w9.old _ (by omega)).trans qw
              have qk := (w9.old _ (by omega)).trans qk
              have qp := w9.new
              have tr : ∀ y0 y1 y2 y3 y5 y6 y7 y8 y9 y10 y11 y13 y21 y28 y43 y58 y70 z0 z1 z2 z3 : AV, trim [(74, z3), (73, z2), (72, z1), (71, z0), (0, y0), (1, y1), (2, y2), (3, y3), (5, y5), (6, y6), (7, y7), (8, y8), (9, y9), (10, y10), (11, y11), (13, y13), (21, y21), (28, y28), (43, y43), (58, y58), (70, y70)] [(0, y0), (1, y1), (2, y2), (3, y3), (5, y5), (6, y6), (7, y7), (8, y8), (9, y9), (10, y10), (11, y11), (13, y13), (21, y21), (28, y28), (43, y43), (58, y58), (70, y70)] = [(0, y0), (1, y1), (2, y2), (3, y3), (5, y5), (6, y6), (7, y7), (8, y8), (9, y9), (10, y10), (11, y11), (13, y13), (21, y21), (28, y28), (43, y43), (58, y58), (70, y70)] := fun y0 y1 y2 y3 y5 y6 y7 y8 y9 y10 y11 y13 y21 y28 y43 y58 y70 z0 z1 z2 z3 => rfl
              refine R_nil (tr _ _ _ _ _ _ _ _ _ _ _ _ _ _ _ _ _ _ _ _ _) ?_; clear tr
              refine then_n ?_
              refine at_seq rfl ?_
              refine rg rfl ?_
              obtain ⟨W, V, P, xx, yy, qp, hfx, hfy, hPL, hPb, hsx2, hsy2⟩ : ∃ W V P xx yy, hget H9 H3.length = some [xx, AV.i V, yy] ∧ frz H9 0 7 xx = intsAV W ∧ frz H9 0 7 yy = intsAV P ∧ P.length ≤ 9223372036854775807 ∧ (∀ i, gt P i ≤ 9223372036854775807) ∧ storable xx = true ∧ storable yy = true := ⟨_, _, (K.drop 1), _, _, qp, by first | exact frz_int _ _ _ _ | exact frz_ownI (by omega) qw rfl, frz_tail qk (by simp), by simp; omega, drop_max hm.2, rfl, rfl⟩
              refine R_q rfl (by simp (disch := first | omega | (simp only [List.length_map, List.length_append, List.length_set, List.length_cons, List.length_nil, List.length_take, List.length_drop]; omega)) only [go_sem, ↓reduceIte, Nat.reduceEqDiff, reduceCtorEq, hsx, hsy, hsx2, hsy2, q0, qx, qp, qw, qk]; rfl) ?_
              refine R_q rfl (by simp (disch := first | omega | (simp only [List.length_map, List.length_append, List.length_set, List.length_cons, List.length_nil, List.length_take, List.length_drop]; omega)) only [go_sem, ↓reduceIte, Nat.reduceEqDiff, reduceCtorEq, hsx, hsy, hsx2, hsy2, q0, qx, qp, qw, qk]; rfl) ?_
              refine Rcall ?_
              refine ACall_eq (accept_ok _ _ rows q la W V P _ _ _ hfx hfy rfl (fun _ => rfl) hPL hPb) ?_
              refine Rq ?_
              have tr : ∀ y0 y1 y2 y3 y5 y6 y7 y8 y9 y10 y11 y13 y21 y28 y43 y58 y70 z0 z1 z2 z3 : AV, trim [(11, z3), (77, z2), (76, z1), (75, z0), (0, y0), (1, y1), (2, y2), (3, y3), (5, y5), (6, y6), (7, y7), (8, y8), (9, y9), (10, y10), (11, y11), (13, y13), (21, y21), (28, y28), (43, y43), (58, y58), (70, y70)] [(0, y0), (1, y1), (2, y2), (3, y3), (5, y5), (6, y6), (7, y7), (8, y8), (9, y9), (10, y10), (11, y11), (13, y13), (21, y21), (28, y28), (43, y43), (58, y58), (70, y70)] = [(0, y0), (1, y1), (2, y2), (3, y3), (5, y5), (6, y6), (7, y7), (8, y8), (9, y9), (10, y10), (11, z3), (13, y13), (21, y21), (28, y28), (43, y43), (58, y58), (70, y70)] := fun y0 y1 y2 y3 y5 y6 y7 y8 y9 y10 y11 y13 y21 y28 y43 y58 y70 z0 z1 z2 z3 => rfl
              refine R_nil (tr _ _ _ _ _ _ _ _ _ _ _ _ _ _ _ _ _ _ _ _ _) ?_; clear tr
              refine then_n ?_
              refine at_seq rfl ?_
              refine rg rfl ?_
              refine Rq ?_
              refine R_q rfl (by simp (disch := first | omega | (simp only [List.length_map, List.length_append, List.length_set, List.length_cons, List.length_nil, List.length_take, List.length_drop]; omega)) only [go_sem, ↓reduceIte, Nat.reduceEqDiff, reduceCtorEq, hsx, hsy, hsx2, hsy2, q0, qx, qp, qw, qk]; rfl) ?_
              refine R_q rfl (by simp (disch := first | omega | (simp only [List.length_map, List.length_append, List.length_set, List.length_cons, List.length_nil, List.length_take, List.length_drop]; omega)) only [go_sem, ↓reduceIte, Nat.reduceEqDiff, reduceCtorEq, hsx, hsy, hsx2, hsy2, q0, qx, qp, qw, qk]; rfl) ?_
              refine Rcall ?_
              refine ACall_eq (raccept_ok _ _ rows q la W V P _ _ _ hfx hfy rfl (fun _ => rfl) hPL hPb) ?_
              refine Rq ?_
              refine Rq ?_
              refine Rp_split (fun h9 => ?_) (fun h9 => ?_)
              · try simp only [decide_eq_true_eq, decide_eq_false_iff_not, Bool.not_eq_true', Bool.not_eq_false', beq_iff_eq, beq_eq_false_iff_ne, ne_eq] at h9
                refine Ry ?_
                refine Rq ?_
                refine Ry ?_
                refine Rq ?_
                refine Ry ?_
                refine Rq ?_
                refine Rp_split (fun h10 => ?_) (fun h10 => ?_)
                · try simp only [decide_eq_true_eq, decide_eq_false_iff_not, Bool.not_eq_true', Bool.not_eq_false', beq_iff_eq, beq_eq_false_iff_ne, ne_eq] at h10
                  refine Rn ?_
                  refine Rn ?_
                  refine Rn ?_
                  refine Rn ?_
                  refine Ry ?_
                  refine Rq ?_
                  refine Rq ?_
                  refine Rq ?_
                  have tr : ∀ y0 y1 y2 y3 y5 y6 y7 y8 y9 y10 y11 y13 y21 y28 y43 y58 y70 z0 z1 z2 z3 z4 z5 z6 z7 z8 z9 z10 z11 z12 z13 z14 z15 : AV, trim [(6, z15), (92, z14), (91, z13), (90, z12), (89, z11), (88, z10), (87, z9), (86, z8), (85, z7), (84, z6), (83, z5), (82, z4), (81, z3), (80, z2), (79, z1), (78, z0), (0, y0), (1, y1), (2, y2), (3, y3), (5, y5), (6, y6), (7, y7), (8, y8), (9, y9), (10, y10), (11, y11), (13, y13), (21, y21), (28, y28), (43, y43), (58, y58), (70, y70)] [(0, y0), (1, y1), (2, y2), (3, y3), (5, y5), (6, y6), (7, y7), (8, y8), (9, y9), (10, y10), (11, y11), (13, y13), (21, y21), (28, y28), (43, y43), (58, y58), (70, y70)] = [(0, y0), (1, y1), (2, y2), (3, y3), (5, y5), (6, z15), (7, y7), (8, y8), (9, y9), (10, y10), (11, y11), (13, y13), (21, y21), (28, y28), (43, y43), (58, y58), (70, y70)] := fun y0 y1 y2 y3 y5 y6 y7 y8 y9 y10 y11 y13 y21 y28 y43 y58 y70 z0 z1 z2 z3 z4 z5 z6 z7 z8 z9 z10 z11 z12 z13 z14 z15 => rfl
                  refine R_nil (tr _ _ _ _ _ _ _ _ _ _ _ _ _ _ _ _ _ _ _ _ _ _ _ _ _ _ _ _ _ _ _ _ _) ?_; clear tr
                  refine then_n ?_
                  refine at_ret rfl ?_
                  refine fpure ?_
                  first | rfl | (have hal := accept_least hpz hK hR hwl (by assumption); simp [hal]; done) | (exfalso; simp_all; done) | simp
                · try simp only [decide_eq_true_eq, decide_eq_false_iff_not, Bool.not_eq_true', Bool.not_eq_false', beq_iff_eq, beq_eq_false_iff_ne, ne_eq] at h10
                  refine Ry ?_
                  refine Rq ?_
                  refine Ry ?_
                  refine R_q rfl (by simp (disch := first | omega | (simp only [List.length_map, List.length_append, List.length_set, List.length_cons, List.length_nil, List.length_take, List.length_drop]; omega)) only [go_sem, ↓reduceIte, Nat.reduceEqDiff, reduceCtorEq, hsx, hsy, hsx2, hsy2, q0, qx, qp, qw, qk]; rfl) ?_
                  refine Ry ?_
                  refine Rq ?_
                  refine Ry ?_
                  refine Rq ?_
                  refine Ry ?_
                  refine Rq ?_
                  refine Rq ?_
                  refine Rq ?_
                  have tr : ∀ y0 y1 y2 y3 y5 y6 y7 y8 y9 y10 y11 y13 y21 y28 y43 y58 y70 z0 z1 z2 z3 z4 z5 z6 z7 z8 z9 z10 z11 z12 z13 z14 z15 : AV, trim [(6, z15), (92, z14), (91, z13), (90, z12), (89, z11), (88, z10), (87, z9), (86, z8), (85, z7), (84, z6), (83, z5), (82, z4), (81, z3), (80, z2), (79, z1), (78, z0), (0, y0), (1, y1), (2, y2), (3, y3), (5, y5), (6, y6), (7, y7), (8, y8), (9, y9), (10, y10), (11, y11), (13, y13), (21, y21), (28, y28), (43, y43), (58, y58), (70, y70)] [(0, y0), (1, y1), (2, y2), (3, y3), (5, y5), (6, y6), (7, y7), (8, y8), (9, y9), (10, y10), (11, y11), (13, y13), (21, y21), (28, y28), (43, y43), (58, y58), (70, y70)] = [(0, y0), (1, y1), (2, y2), (3, y3), (5, y5), (6, z15), (7, y7), (8, y8), (9, y9), (10, y10), (11, y11), (13, y13), (21, y21), (28, y28), (43, y43), (58, y58), (70, y70)] := fun y0 y1 y2 y3 y5 y6 y7 y8 y9 y10 y11 y13 y21 y28 y43 y58 y70 z0 z1 z2 z3 z4 z5 z6 z7 z8 z9 z10 z11 z12 z13 z14 z15 => rfl
                  refine R_nil (tr _ _ _ _ _ _ _ _ _ _ _ _ _ _ _ _ _ _ _ _ _ _ _ _ _ _ _ _ _ _ _ _ _) ?_; clear tr
                  refine then_n ?_
                  refine at_ret rfl ?_
                  refine fpure ?_
                  first | rfl | (have hal := accept_least hpz hK hR hwl (by assumption); simp [hal]; done) | (exfalso; simp_all; done) | simp
              · try simp only [decide_eq_true_eq, decide_eq_false_iff_not, Bool.not_eq_true', Bool.not_eq_false', beq_iff_eq, beq_eq_false_iff_ne, ne_eq] at h9
                refine Rn ?_
                refine Rn ?_
                refine Rn ?_
                refine Ru ?_
                refine Ru ?_
                refine Ru ?_
                refine Ru ?_
                refine Rn ?_
                refine Rq ?_
                refine Rq ?_
                have tr : ∀ y0 y1 y2 y3 y5 y6 y7 y8 y9 y10 y11 y13 y21 y28 y43 y58 y70 z0 z1 z2 z3 z4 z5 z6 z7 z8 z9 z10 z11 z12 z13 z14 z15 : AV, trim [(6, z15), (92, z14), (91, z13), (90, z12), (89, z11), (88, z10), (87, z9), (86, z8), (85, z7), (84, z6), (83, z5), (82, z4), (81, z3), (80, z2), (79, z1), (78, z0), (0, y0), (1, y1), (2, y2), (3, y3), (5, y5), (6, y6), (7, y7), (8, y8), (9, y9), (10, y10), (11, y11), (13, y13), (21, y21), (28, y28), (43, y43), (58, y58), (70, y70)] [(0, y0), (1, y1), (2, y2), (3, y3), (5, y5), (6, y6), (7, y7), (8, y8), (9, y9), (10, y10), (11, y11), (13, y13), (21, y21), (28, y28), (43, y43), (58, y58), (70, y70)] = [(0, y0), (1, y1), (2, y2), (3, y3), (5, y5), (6, z15), (7, y7), (8, y8), (9, y9), (10, y10), (11, y11), (13, y13), (21, y21), (28, y28), (43, y43), (58, y58), (70, y70)] := fun y0 y1 y2 y3 y5 y6 y7 y8 y9 y10 y11 y13 y21 y28 y43 y58 y70 z0 z1 z2 z3 z4 z5 z6 z7 z8 z9 z10 z11 z12 z13 z14 z15 => rfl
                refine R_nil (tr _ _ _ _ _ _ _ _ _ _ _ _ _ _ _ _ _ _ _ _ _ _ _ _ _ _ _ _ _ _ _ _ _) ?_; clear tr
                refine then_n ?_
                refine at_ret rfl ?_
                refine fpure ?_
                first | rfl | (have hal := accept_least hpz hK hR hwl (by assumption); simp [hal]; done) | (exfalso; simp_all; done) | simp
            · try simp only [decide_eq_true_eq, decide_eq_false_iff_not, Bool.not_eq_true', Bool.not_eq_false', beq_iff_eq, beq_eq_false_iff_ne, ne_eq] at h8
              refine at_skip rfl ?_
              refine then_n ?_
              refine at_seq rfl ?_
              refine rg rfl ?_
              obtain ⟨W, V, P, xx, yy, qp, hfx, hfy, hPL, hPb, hsx2, hsy2⟩ : ∃ W V P xx yy, hget H7 H3.length = some [xx, AV.i V, yy] ∧ frz H7 0 7 xx = intsAV W ∧ frz H7 0 7 yy = intsAV P ∧ P.length ≤ 9223372036854775807 ∧ (∀ i, gt P i ≤ 9223372036854775807) ∧ storable xx = true ∧ storable yy = true := ⟨_, _, K, _, _, qp, by first | exact frz_int _ _ _ _ | exact frz_ownI (by omega) qw rfl, frz_ownI (by omega) qk rfl, hm.1, hm.2, rfl, rfl⟩
              refine R_q rfl (by simp (disch := first | omega | (simp only [List.length_map, List.length_append, List.length_set, List.length_cons, List.length_nil, List.length_take, List.length_drop]; omega)) only [go_sem, ↓reduceIte, Nat.reduceEqDiff, reduceCtorEq, hsx, hsy, hsx2, hsy2, q0, qx, qp, qw, qk]; rfl) ?_
              refine R_q rfl (by simp (disch := first | omega | (simp only [List.length_map, List.length_append, List.length_set, List.length_cons, List.length_nil, List.length_take, List.length_drop]; omega)) only [go_sem, ↓reduceIte, Nat.reduceEqDiff, reduceCtorEq, hsx, hsy, hsx2, hsy2, q0, qx, qp, qw, qk]; rfl) ?_
              refine Rcall ?_
              refine ACall_eq (accept_ok _ _ rows q la W V P _ _ _ hfx hfy rfl (fun _ => rfl) hPL hPb) ?_
              refine Rq ?_
              have tr : ∀ y0 y1 y2 y3 y5 y6 y7 y8 y9 y10 y11 y13 y21 y28 y43 y58 y70 z0 z1 z2 z3 : AV, trim [(11, z3), (77, z2), (76, z1), (75, z0), (0, y0), (1, y1), (2, y2), (3, y3), (5, y5), (6, y6), (7, y7), (8, y8), (9, y9), (10, y10), (11, y11), (13, y13), (21, y21), (28, y28), (43, y43), (58, y58), (70, y70)] [(0, y0), (1, y1), (2, y2), (3, y3), (5, y5), (6, y6), (7, y7), (8, y8), (9, y9), (10, y10), (11, y11), (13, y13), (21, y21), (28, y28), (43, y43), (58, y58), (70, y70)] = [(0, y0), (1, y1), (2, y2), (3, y3), (5, y5), (6, y6), (7, y7), (8, y8), (9, y9), (10, y10), (11, z3), (13, y13), (21, y21), (28, y28), (43, y43), (58, y58), (70, y70)] := fun y0 y1 y2 y3 y5 y6 y7 y8 y9 y10 y11 y13 y21 y28 y43 y58 y70 z0 z1 z2 z3 => rfl
              refine R_nil (tr _ _ _ _ _ _ _ _ _ _ _ _ _ _ _ _ _ _ _ _ _) ?_; clear tr
              refine then_n ?_
              refine at_seq rfl ?_
              refine rg rfl ?_
              refine Rq ?_
              refine R_q rfl (by simp (disch := first | omega | (simp only [List.length_map, List.length_append, List.length_set, List.length_cons, List.length_nil, List.length_take, List.length_drop]; omega)) only [go_sem, ↓reduceIte, Nat.reduceEqDiff, reduceCtorEq, hsx, hsy, hsx2, hsy2, q0, qx, qp, qw, qk]; rfl) ?_
              refine R_q rfl (by simp (disch := first | omega | (simp only [List.length_map, List.length_append, List.length_set, List.length_cons, List.length_nil, List.length_take, List.length_drop]; omega)) only [go_sem, ↓reduceIte, Nat.reduceEqDiff, reduceCtorEq, hsx, hsy, hsx2, hsy2, q0, qx, qp, qw, qk]; rfl) ?_
              refine Rcall ?_
              refine ACall_eq (raccept_ok _ _ rows q la W V P _ _ _ hfx hfy rfl (fun _ => rfl) hPL hPb) ?_
              refine Rq ?_
              refine Rq ?_
              refine Rp_split (fun h11 => ?_) (fun h11 => ?_)
              · try simp only [decide_eq_true_eq, decide_eq_false_iff_not, Bool.not_eq_true', Bool.not_eq_false', beq_iff_eq, beq_eq_false_iff_ne, ne_eq] at h11
                refine Ry ?_
                refine Rq ?_
                refine Ry ?_
                refine Rq ?_
                refine Ry ?_
                refine Rq ?_
                refine Rp_split (fun h12 => ?_) (fun h12 => ?_)
                · try simp only [decide_eq_true_eq, decide_eq_false_iff_not, Bool.not_eq_true', Bool.not_eq_false', beq_iff_eq, beq_eq_false_iff_ne, ne_eq] at h12
                  refine Rn ?_
                  refine Rn ?_
                  refine Rn ?_
                  refine Rn ?_
                  refine Ry ?_
                  refine Rq ?_
                  refine Rq ?_
                  refine Rq ?_
                  have tr : ∀ y0 y1 y2 y3 y5 y6 y7 y8 y9 y10 y11 y13 y21 y28 y43 y58 y70 z0 z1 z2 z3 z4 z5 z6 z7 z8 z9 z10 z11 z12 z13 z14 z15 : AV, trim [(6, z15), (92, z14), (91, z13), (90, z12), (89, z11), (88, z10), (87, z9), (86, z8), (85, z7), (84, z6), (83, z5), (82, z4), (81, z3), (80, z2), (79, z1), (78, z0), (0, y0), (1, y1), (2, y2), (3, y3), (5, y5), (6, y6), (7, y7), (8, y8), (9, y9), (10, y10), (11, y11), (13, y13), (21, y21), (28, y28), (43, y43), (58, y58), (70, y70)] [(0, y0), (1, y1), (2, y2), (3, y3), (5, y5), (6, y6), (7, y7), (8, y8), (9, y9), (10, y10), (11, y11), (13, y13), (21, y21), (28, y28), (43, y43), (58, y58), (70, y70)] = [(0, y0), (1, y1), (2, y2), (3, y3), (5, y5), (6, z15), (7, y7), (8, y8), (9, y9), (10, y10), (11, y11), (13, y13), (21, y21), (28, y28), (43, y43), (58, y58), (70, y70)] := fun y0 y1 y2 y3 y5 y6 y7 y8 y9 y10 y11 y13 y21 y28 y43 y58 y70 z0 z1 z2 z3 z4 z5 z6 z7 z8 z9 z10 z11 z12 z13 z14 z15 => rfl
                  refine R_nil (tr _ _ _ _ _ _ _ _ _ _ _ _ _ _ _ _ _ _ _ _ _ _ _ _ _ _ _ _ _ _ _ _ _) ?_; clear tr
                  refine then_n ?_
                  refine at_ret rfl ?_
                  refine fpure ?_
                  first | rfl | (have hal := accept_least hpz hK hR hwl (by assumption); simp [hal]; done) | (exfalso; simp_all; done) | simp
                · try simp only [decide_eq_true_eq, decide_eq_false_iff_not, Bool.not_eq_true', Bool.not_eq_false', beq_iff_eq, beq_eq_false_iff_ne, ne_eq] at h12
                  refine Ry ?_
                  refine Rq ?_
                  refine Ry ?_
                  refine R_q rfl (by simp (disch := first | omega | (simp only [List.length_map, List.length_append, List.length_set, List.length_cons, List.length_nil, List.length_take, List.length_drop]; omega)) only [go_sem, ↓reduceIte, Nat.reduceEqDiff, reduceCtorEq, hsx, hsy, hsx2, hsy2, q0, qx, qp, qw, qk]; rfl) ?_
                  refine Ry ?_
                  refine Rq ?_
                  refine Ry ?_
                  refine Rq ?_
                  refine Ry ?_
                  refine Rq ?_
                  refine Rq ?_
                  refine Rq ?_
                  have tr : ∀ y0 y1 y2 y3 y5 y6 y7 y8 y9 y10 y11 y13 y21 y28 y43 y58 y70 z0 z1 z2 z3 z4 z5 z6 z7 z8 z9 z10 z11 z12 z13 z14 z15 : AV, trim [(6, z15), (92, z14), (91, z13), (90, z12), (89, z11), (88, z10), (87, z9), (86, z8), (85, z7), (84, z6), (83, z5), (82, z4), (81, z3), (80, z2), (79, z1), (78, z0), (0, y0), (1, y1), (2, y2), (3, y3), (5, y5), (6, y6), (7, y7), (8, y8), (9, y9), (10, y10), (11, y11), (13, y13), (21, y21), (28, y28), (43, y43), (58, y58), (70, y70)] [(0, y0), (1, y1), (2, y2), (3, y3), (5, y5), (6, y6), (7, y7), (8, y8), (9, y9), (10, y10), (11, y11), (13, y13), (21, y21), (28, y28), (43, y43), (58, y58), (70, y70)] = [(0, y0), (1, y1), (2, y2), (3, y3), (5, y5), (6, z15), (7, y7), (8, y8), (9, y9), (10, y10), (11, y11), (13, y13), (21, y21), (28, y28), (43, y43), (58, y58), (70, y70)] := fun y0 y1 y2 y3 y5 y6 y7 y8 y9 y10 y11 y13 y21 y28 y43 y58 y70 z0 z1 z2 z3 z4 z5 z6 z7 z8 z9 z10 z11 z12 z13 z14 z15 => rfl
                  refine R_nil (tr _ _ _ _ _ _ _ _ _ _ _ _ _ _ _ _ _ _ _ _ _ _ _ _ _ _ _ _ _ _ _ _ _) ?_; clear tr
                  refine then_n ?_
                  refine at_ret rfl ?_
                  refine fpure ?_
                  first | rfl | (have hal := accept_least hpz hK hR hwl (by assumption); simp [hal]; done) | (exfalso; simp_all; done) | simp
              · try simp only [decide_eq_true_eq, decide_eq_false_iff_not, Bool.not_eq_true', Bool.not_eq_false', beq_iff_eq, beq_eq_false_iff_ne, ne_eq] at h11
                refine Rn ?_
                refine Rn ?_
                refine Rn ?_
                refine Ru ?_
                refine Ru ?_
                refine Ru ?_
                refine Ru ?_
                refine Rn ?_
                refine Rq ?_
                refine Rq ?_
                have tr : ∀ y0 y1 y2 y3 y5 y6 y7 y8 y9 y10 y11 y13 y21 y28 y43 y58 y70 z0 z1 z2 z3 z4 z5 z6 z7 z8 z9 z10 z11 z12 z13 z14 z15 : AV, trim [(6, z15), (92, z14), (91, z13), (90, z12), (89, z11), (88, z10), (87, z9), (86, z8), (85, z7), (84, z6), (83, z5), (82, z4), (81, z3), (80, z2), (79, z1), (78, z0), (0, y0), (1, y1), (2, y2), (3, y3), (5, y5), (6, y6), (7, y7), (8, y8), (9, y9), (10, y10), (11, y11), (13, y13), (21, y21), (28, y28), (43, y43), (58, y58), (70, y70)] [(0, y0), (1, y1), (2, y2), (3, y3), (5, y5), (6, y6), (7, y7), (8, y8), (9, y9), (10, y10), (11, y11), (13, y13), (21, y21), (28, y28), (43, y43), (58, y58), (70, y70)] = [(0, y0), (1, y1), (2, y2), (3, y3), (5, y5), (6, z15), (7, y7), (8, y8), (9, y9), (10, y10), (11, y11), (13, y13), (21, y21), (28, y28), (43, y43), (58, y58), (70, y70)] := fun y0 y1 y2 y3 y5 y6 y7 y8 y9 y10 y11 y13 y21 y28 y43 y58 y70 z0 z1 z2 z3 z4 z5 z6 z7 z8 z9 z10 z11 z12 z13 z14 z15 => rfl
                refine R_nil (tr _ _ _ _ _ _ _ _ _ _ _ _ _ _ _ _ _ _ _ _ _ _ _ _ _ _ _ _ _ _ _ _ _) ?_; clear tr
                refine then_n ?_
                refine at_ret rfl ?_
                refine fpure ?_
                first | rfl | (have hal := accept_least hpz hK hR hwl (by assumption); simp [hal]; done) | (exfalso; simp_all; done) | simp
        · try simp only [decide_eq_true_eq, decide_eq_false_iff_not, Bool.not_eq_true', Bool.not_eq_false', beq_iff_eq, beq_eq_false_iff_ne, ne_eq] at h4
          refine at_skip rfl ?_
          refine then_n ?_
          refine at_seq rfl ?_
          refine at_seq rfl ?_
          refine rg rfl ?_
          refine Rq ?_
          refine R_q rfl (by simp (disch := first | omega | (simp only [List.length_map, List.length_append, List.length_set, List.length_cons, List.length_nil, List.length_take, List.length_drop]; omega)) only [go_sem, ↓reduceIte, Nat.reduceEqDiff, reduceCtorEq, hsx, hsy, hsx2, hsy2, q0, qx, qp, qw, qk]; rfl) ?_
          refine Rq ?_
          refine Rq ?_
          have tr : ∀ y0 y1 y2 y3 y5 y6 y7 y8 y9 y10 y11 y13 y21 y28 y43 y58 y70 z0 z1 z2 z3 : AV, trim [(10, z3), (55, z2), (54, z1), (53, z0), (0, y0), (1, y1), (2, y2), (3, y3), (5, y5), (6, y6), (7, y7), (8, y8), (9, y9), (10, y10), (11, y11), (13, y13), (21, y21), (28, y28), (43, y43), (58, y58), (70, y70)] [(0, y0), (1, y1), (2, y2), (3, y3), (5, y5), (6, y6), (7, y7), (8, y8), (9, y9), (10, y10), (11, y11), (13, y13), (21, y21), (28, y28), (43, y43), (58, y58), (70, y70)] = [(0, y0), (1, y1), (2, y2), (3, y3), (5, y5), (6, y6), (7, y7), (8, y8), (9, y9), (10, z3), (11, y11), (13, y13), (21, y21), (28, y28), (43, y43), (58, y58), (70, y70)] := fun y0 y1 y2 y3 y5 y6 y7 y8 y9 y10 y11 y13 y21 y28 y43 y58 y70 z0 z1 z2 z3 => rfl
          refine R_nil (tr _ _ _ _ _ _ _ _ _ _ _ _ _ _ _ _ _ _ _ _ _) ?_; clear tr
          refine then_n ?_
          refine at_seq rfl ?_
          refine rg rfl ?_
          refine Rq ?_
          refine R_q rfl (by simp (disch := first | omega | (simp only [List.length_map, List.length_append, List.length_set, List.length_cons, List.length_nil, List.length_take, List.length_drop]; omega)) only [go_sem, ↓reduceIte, Nat.reduceEqDiff, reduceCtorEq, hsx, hsy, hsx2, hsy2, q0, qx, qp, qw, qk]; rfl) ?_
          refine Rq ?_
          have tr : ∀ y0 y1 y2 y3 y5 y6 y7 y8 y9 y10 y11 y13 y21 y28 y43 y58 y70 z0 z1 z2 : AV, trim [(58, z2), (57, z1), (56, z0), (0, y0), (1, y1), (2, y2), (3, y3), (5, y5), (6, y6), (7, y7), (8, y8), (9, y9), (10, y10), (11, y11), (13, y13), (21, y21), (28, y28), (43, y43), (58, y58), (70, y70)] [(0, y0), (1, y1), (2, y2), (3, y3), (5, y5), (6, y6), (7, y7), (8, y8), (9, y9), (10, y10), (11, y11), (13, y13), (21, y21), (28, y28), (43, y43), (58, y58), (70, y70)] = [(0, y0), (1, y1), (2, y2), (3, y3), (5, y5), (6, y6), (7, y7), (8, y8), (9, y9), (10, y10), (11, y11), (13, y13), (21, y21), (28, y28), (43, y43), (58, z2), (70, y70)] := fun y0 y1 y2 y3 y5 y6 y7 y8 y9 y10 y11 y13 y21 y28 y43 y58 y70 z0 z1 z2 => rfl
          refine R_nil (tr _ _ _ _ _ _ _ _ _ _ _ _ _ _ _ _ _ _ _ _) ?_; clear tr
          refine then_n ?_
          refine cdd (fun h13 => ?_) (fun h13 => ?_)
          · try simp only [decide_eq_true_eq, decide_eq_false_iff_not, Bool.not_eq_true', Bool.not_eq_false', beq_iff_eq, beq_eq_false_iff_ne, ne_eq] at h13
            refine rd rfl rfl ?_
            have hx2r := Int.emod_nonneg x0 (show (K.length : Int) ≠ 0 by omega)
            have hx2s := Int.emod_lt_of_pos x0 (show 0 < (K.length : Int) by omega)
            refine Qq ?_
            refine Q_q rfl (by simp (disch := first | omega | (simp only [List.length_map, List.length_append, List.length_set, List.length_cons, List.length_nil, List.length_take, List.length_drop]; omega)) only [go_sem, ↓reduceIte, Nat.reduceEqDiff, reduceCtorEq, hsx, hsy, hsx2, hsy2, q0, qx, qp, qw, qk]; rfl) ?_
            refine Qq ?_
            refine Q_q rfl (by simp (disch := first | omega | (simp only [List.length_map, List.length_append, List.length_set, List.length_cons, List.length_nil, List.length_take, List.length_drop]; omega)) only [go_sem, ↓reduceIte, Nat.reduceEqDiff, reduceCtorEq, hsx, hsy, hsx2, hsy2, q0, qx, qp, qw, qk]; rfl) ?_
            refine Qq ?_
            refine Qq ?_
            refine Qq ?_
            refine Q_q rfl (by simp (disch := first | omega | (simp only [List.length_map, List.length_append, List.length_set, List.length_cons, List.length_nil, List.length_take, List.length_drop]; omega)) only [go_sem, ↓reduceIte, Nat.reduceEqDiff, reduceCtorEq, hsx, hsy, hsx2, hsy2, q0, qx, qp, qw, qk]; rfl) ?_
            refine Qq ?_
            refine Q_nil ?_
            have lq0 := hget_lt q0
            have lqx := hget_lt qx
            have lqp := hget_lt qp
            have lqw := hget_lt qw
            have lqk := hget_lt qk
            refine A_store ty2 (by simp (disch := first | omega | (simp only [List.length_map, List.length_append, List.length_set, List.length_cons, List.length_nil, List.length_take, List.length_drop]; omega)) only [go_sem, ↓reduceIte, Nat.reduceEqDiff, reduceCtorEq, q0, qx, qp, qw, qk] <;> rfl) (by simp (disch := first | omega | (simp only [List.length_map, List.length_append, List.length_set, List.length_cons, List.length_nil, List.length_take, List.length_drop]; omega)) only [go_sem, ↓reduceIte, Nat.reduceEqDiff, reduceCtorEq, q0, qx, qp, qw, qk] <;> rfl) qk ⟨by omega, rfl, by simp only [List.length_map]; omega⟩ (k' := ((K.set (x0 % K.length).toNat x1).map AV.i)) (setL_map _ _ _) ?_
            intro H8 w8
            have ew8 := w8.len
            have q0 := (w8.old _ (by omega)).trans q0
            have qx := (w8.old _ (by omega)).trans qx
            have qp := (w8.old _ (by omega)).trans qp
            have qw := (w8.old _ (by omega)).trans qw
            have qk := w8.new
            have tr : ∀ y0 y1 y2 y3 y5 y6 y7 y8 y9 y10 y11 y13 y21 y28 y43 y58 y70 z0 z1 z2 z3 z4 z5 z6 z7 z8 : AV, trim [(67, z8), (66, z7), (65, z6), (64, z5), (63, z4), (62, z3), (61, z2), (60, z1), (59, z0), (0, y0), (1, y1), (2, y2), (3, y3), (5, y5), (6, y6), (7, y7), (8, y8), (9, y9), (10, y10), (11, y11), (13, y13), (21, y21), (28, y28), (43, y43), (58, y58), (70, y70)] [(0, y0), (1, y1), (2, y2), (3, y3), (5, y5), (6, y6), (7, y7), (8, y8), (9, y9), (10, y10), (11, y11), (13, y13), (21, y21), (28, y28), (43, y43), (58, y58), (70, y70)] = [(0, y0), (1, y1), (2, y2), (3, y3), (5, y5), (6, y6), (7, y7), (8, y8), (9, y9), (10, y10), (11, y11), (13, y13), (21, y21), (28, y28), (43, y43), (58, y58), (70, y70)] := fun y0 y1 y2 y3 y5 y6 y7 y8 y9 y10 y11 y13 y21 y28 y43 y58 y70 z0 z1 z2 z3 z4 z5 z6 z7 z8 => rfl
            refine R_nil (tr _ _ _ _ _ _ _ _ _ _ _ _ _ _ _ _ _ _ _ _ _ _ _ _ _ _) ?_; clear tr
            refine then_n ?_
            refine at_seq rfl ?_
            refine rg rfl ?_
            obtain ⟨W, V, P, xx, yy, qp, hfx, hfy, hPL, hPb, hsx2, hsy2⟩ : ∃ W V P xx yy, hget H8 H3.length = some [xx, AV.i V, yy] ∧ frz H8 0 7 xx = intsAV W ∧ frz H8 0 7 yy = intsAV P ∧ P.length ≤ 9223372036854775807 ∧ (∀ i, gt P i ≤ 9223372036854775807) ∧ storable xx = true ∧ storable yy = true := ⟨_, _, (K.set (x0 % K.length).toNat x1), _, _, qp, by first | exact frz_int _ _ _ _ | exact frz_ownI (by omega) qw rfl, frz_ownI (by omega) qk (by simp), by simp; omega, set_max hm.2 (by omega), rfl, rfl⟩
            refine R_q rfl (by simp (disch := first | omega | (simp only [List.length_map, List.length_append, List.length_set, List.length_cons, List.length_nil, List.length_take, List.length_drop]; omega)) only [go_sem, ↓reduceIte, Nat.reduceEqDiff, reduceCtorEq, hsx, hsy, hsx2, hsy2, q0, qx, qp, qw, qk]; rfl) ?_
            refine R_q rfl (by simp (disch := first | omega | (simp only [List.length_map, List.length_append, List.length_set, List.length_cons, List.length_nil, List.length_take, List.length_drop]; omega)) only [go_sem, ↓reduceIte, Nat.reduceEqDiff, reduceCtorEq, hsx, hsy, hsx2, hsy2, q0, qx, qp, qw, qk]; rfl) ?_
            refine Rcall ?_
            refine ACall_eq (accept_ok _ _ rows q la W V P _ _ _ hfx hfy rfl (fun _ => rfl) hPL hPb) ?_
            refine Rq ?_
            have tr : ∀ y0 y1 y2 y3 y5 y6 y7 y8 y9 y10 y11 y13 y21 y28 y43 y58 y70 z0 z1 z2 z3 : AV, trim [(11, z3), (77, z2), (76, z1), (75, z0), (0, y0), (1, y1), (2, y2), (3, y3), (5, y5), (6, y6), (7, y7), (8, y8), (9, y9), (10, y10), (11, y11), (13, y13), (21, y21), (28, y28), (43, y43), (58, y58), (70, y70)] [(0, y0), (1, y1), (2, y2), (3, y3), (5, y5), (6, y6), (7, y7), (8, y8), (9, y9), (10, y10), (11, y11), (13, y13), (21, y21), (28, y28), (43, y43), (58, y58), (70, y70)] = [(0, y0), (1, y1), (2, y2), (3, y3), (5, y5), (6, y6), (7, y7), (8, y8), (9, y9), (10, y10), (11, z3), (13, y13), (21, y21), (28, y28), (43, y43), (58, y58), (70, y70)] := fun y0 y1 y2 y3 y5 y6 y7 y8 y9 y10 y11 y13 y21 y28 y43 y58 y70 z0 z1 z2 z3 => rfl
            refine R_nil (tr _ _ _ _ _ _ _ _ _ _ _ _ _ _ _ _ _ _ _ _ _) ?_; clear tr
            refine then_n ?_
            refine at_seq rfl ?_
            refine rg rfl ?_
            refine Rq ?_
            refine R_q rfl (by simp (disch := first | omega | (simp only [List.length_map, List.length_append, List.length_set, List.length_cons, List.length_nil, List.length_take, List.length_drop]; omega)) only [go_sem, ↓reduceIte, Nat.reduceEqDiff, reduceCtorEq, hsx, hsy, hsx2, hsy2, q0, qx, qp, qw, qk]; rfl) ?_
            refine R_q rfl (by simp (disch := first | omega | (simp only [List.length_map, List.length_append, List.length_set, List.length_cons, List.length_nil, List.length_take, List.length_drop]; omega)) only [go_sem, ↓reduceIte, Nat.reduceEqDiff, reduceCtorEq, hsx, hsy, hsx2, hsy2, q0, qx, qp, qw, qk]; rfl) ?_
            refine Rcall ?_
            refine ACall_eq (raccept_ok _ _ rows q la W V P _ _ _ hfx hfy rfl (fun _ => rfl) hPL hPb) ?_
            refine Rq ?_
            refine Rq ?_
            refine Rp_split (fun h14 => ?_) (fun h14 => ?_)
            · try simp only [decide_eq_true_eq, decide_eq_false_iff_not, Bool.not_eq_true', Bool.not_eq_false', beq_iff_eq, beq_eq_false_iff_ne, ne_eq] at h14
              refine Ry ?_
              refine Rq ?_
              refine Ry ?_
              refine Rq ?_
              refine Ry ?_
              refine Rq ?_
              refine Rp_split (fun h15 => ?_) (fun h15 => ?_)
              · try simp only [decide_eq_true_eq, decide_eq_false_iff_not, Bool.not_eq_true', Bool.not_eq_false', beq_iff_eq, beq_eq_false_iff_ne, ne_eq] at h15
                refine Rn ?_
                refine Rn ?_
                refine Rn ?_
                refine Rn ?_
                refine Ry ?_
                refine Rq ?_
                refine Rq ?_
                refine Rq ?_
                have tr : ∀ y0 y1 y2 y3 y5 y6 y7 y8 y9 y10 y11 y13 y21 y28 y43 y58 y70 z0 z1 z2 z3 z4 z5 z6 z7 z8 z9 z10 z11 z12 z13 z14 z15 : AV, trim [(6, z15), (92, z14), (91, z13), (90, z12), (89, z11), (88, z10), (87, z9), (86, z8), (85, z7), (84, z6), (83, z5), (82, z4), (81, z3), (80, z2), (79, z1), (78, z0), (0, y0), (1, y1), (2, y2), (3, y3), (5, y5), (6, y6), (7, y7), (8, y8), (9, y9), (10, y10), (11, y11), (13, y13), (21, y21), (28, y28), (43, y43), (58, y58), (70, y70)] [(0, y0), (1, y1), (2, y2), (3, y3), (5, y5), (6, y6), (7, y7), (8, y8), (9, y9), (10, y10), (11, y11), (13, y13), (21, y21), (28, y28), (43, y43), (58, y58), (70, y70)] = [(0, y0), (1, y1), (2, y2), (3, y3), (5, y5), (6, z15), (7, y7), (8, y8), (9, y9), (10, y10), (11, y11), (13, y13), (21, y21), (28, y28), (43, y43), (58, y58), (70, y70)] := fun y0 y1 y2 y3 y5 y6 y7 y8 y9 y10 y11 y13 y21 y28 y43 y58 y70 z0 z1 z2 z3 z4 z5 z6 z7 z8 z9 z10 z11 z12 z13 z14 z15 => rfl
                refine R_nil (tr _ _ _ _ _ _ _ _ _ _ _ _ _ _ _ _ _ _ _ _ _ _ _ _ _ _ _ _ _ _ _ _ _) ?_; clear tr
                refine then_n ?_
                refine at_ret rfl ?_
                refine fpure ?_
                first | rfl | (have hal := accept_least hpz hK hR hwl (by assumption); simp [hal]; done) | (exfalso; simp_all; done) | simp
              · try simp only [decide_eq_true_eq, decide_eq_false_iff_not, Bool.not_eq_true', Bool.not_eq_false', beq_iff_eq, beq_eq_false_iff_ne, ne_eq] at h15
                refine Ry ?_
                refine Rq ?_
                refine Ry ?_
                refine R_q rfl (by simp (disch := first | omega | (simp only [List.length_map, List.length_append, List.length_set, List.length_cons, List.length_nil, List.length_take, List.length_drop]; omega)) only [go_sem, ↓reduceIte, Nat.reduceEqDiff, reduceCtorEq, hsx, hsy, hsx2, hsy2, q0, qx, qp, qw, qk]; rfl) ?_
                refine Ry ?_
                refine Rq ?_
                refine Ry ?_
                refine Rq ?_
                refine Ry ?_
                refine Rq ?_
                refine Rq ?_
                refine Rq ?_
                have tr : ∀ y0 y1 y2 y3 y5 y6 y7 y8 y9 y10 y11 y13 y21 y28 y43 y58 y70 z0 z1 z2 z3 z4 z5 z6 z7 z8 z9 z10 z11 z12 z13 z14 z15 : AV, trim [(6, z15), (92, z14), (91, z13), (90, z12), (89, z11), (88, z10), (87, z9), (86, z8), (85, z7), (84, z6), (83, z5), (82, z4), (81, z3), (80, z2), (79, z1), (78, z0), (0, y0), (1, y1), (2, y2), (3, y3), (5, y5), (6, y6), (7, y7), (8, y8), (9, y9), (10, y10), (11, y11), (13, y13), (21, y21), (28, y28), (43, y43), (58, y58), (70, y70)] [(0, y0), (1, y1), (2, y2), (3, y3), (5, y5), (6, y6), (7, y7), (8, y8), (9, y9), (10, y10), (11, y11), (13, y13), (21, y21), (28, y28), (43, y43), (58, y58), (70, y70)] = [(0, y0), (1, y1), (2, y2), (3, y3), (5, y5), (6, z15), (7, y7), (8, y8), (9, y9), (10, y10), (11, y11), (13, y13), (21, y21), (28, y28), (43, y43), (58, y58), (70, y70)] := fun y0 y1 y2 y3 y5 y6 y7 y8 y9 y10 y11 y13 y21 y28 y43 y58 y70 z0 z1 z2 z3 z4 z5 z6 z7 z8 z9 z10 z11 z12 z13 z14 z15 => rfl
                refine R_nil (tr _ _ _ _ _ _ _ _ _ _ _ _ _ _ _ _ _ _ _ _ _ _ _ _ _ _ _ _ _ _ _ _ _) ?_; clear tr
                refine then_n ?_
                refine at_ret rfl ?_
                refine fpure ?_
                first | rfl | (have hal := accept_least hpz hK hR hwl (by assumption); simp [hal]; done) | (exfalso; simp_all; done) | simp
            · try simp only [decide_eq_true_eq, decide_eq_false_iff_not, Bool.not_eq_true', Bool.not_eq_false', beq_iff_eq, beq_eq_false_iff_ne, ne_eq] at h14
              refine Rn ?_
              refine Rn ?_
              refine Rn ?_
              refine Ru ?_
              refine Ru ?_
              refine Ru ?_
              refine Ru ?_
              refine Rn ?_
              refine Rq ?_
              refine Rq ?_
              have tr : ∀ y0 y1 y2 y3 y5 y6 y7 y8 y9 y10 y11 y13 y21 y28 y43 y58 y70 z0 z1 z2 z3 z4 z5 z6 z7 z8 z9 z10 z11 z12 z13 z14 z15 : AV, trim [(6, z15), (92, z14), (91, z13), (90, z12), (89, z11), (88, z10), (87, z9), (86, z8), (85, z7), (84, z6), (83, z5), (82, z4), (81, z3), (80, z2), (79, z1), (78, z0), (0, y0), (1, y1), (2, y2), (3, y3), (5, y5), (6, y6), (7, y7), (8, y8), (9, y9), (10, y10), (11, y11), (13, y13), (21, y21), (28, y28), (43, y43), (58, y58), (70, y70)] [(0, y0), (1, y1), (2, y2), (3, y3), (5, y5), (6, y6), (7, y7), (8, y8), (9, y9), (10, y10), (11, y11), (13, y13), (21, y21), (28, y28), (43, y43), (58, y58), (70, y70)] = [(0, y0), (1, y1), (2, y2), (3, y3), (5, y5), (6, z15), (7, y7), (8, y8), (9, y9), (10, y10), (11, y11), (13, y13), (21, y21), (28, y28), (43, y43), (58, y58), (70, y70)] := fun y0 y1 y2 y3 y5 y6 y7 y8 y9 y10 y11 y13 y21 y28 y43 y58 y70 z0 z1 z2 z3 z4 z5 z6 z7 z8 z9 z10 z11 z12 z13 z14 z15 => rfl
              refine R_nil (tr _ _ _ _ _ _ _ _ _ _ _ _ _ _ _ _ _ _ _ _ _ _ _ _ _ _ _ _ _ _ _ _ _) ?_; clear tr
              refine then_n ?_
              refine at_ret rfl ?_
              refine fpure ?_
              first | rfl | (have hal := accept_least hpz hK hR hwl (by assumption); simp [hal]; done) | (exfalso; simp_all; done) | simp
          · try simp only [decide_eq_true_eq, decide_eq_false_iff_not, Bool.not_eq_true', Bool.not_eq_false', beq_iff_eq, beq_eq_false_iff_ne, ne_eq] at h13
            refine at_seq rfl ?_
            refine rg rfl ?_
            refine Rq ?_
            refine R_q rfl (by simp (disch := first | omega | (simp only [List.length_map, List.length_append, List.length_set, List.length_cons, List.length_nil, List.length_take, List.length_drop]; omega)) only [go_sem, ↓reduceIte, Nat.reduceEqDiff, reduceCtorEq, hsx, hsy, hsx2, hsy2, q0, qx, qp, qw, qk]; rfl) ?_
            refine Rq ?_
            have tr : ∀ y0 y1 y2 y3 y5 y6 y7 y8 y9 y10 y11 y13 y21 y28 y43 y58 y70 z0 z1 z2 : AV, trim [(70, z2), (69, z1), (68, z0), (0, y0), (1, y1), (2, y2), (3, y3), (5, y5), (6, y6), (7, y7), (8, y8), (9, y9), (10, y10), (11, y11), (13, y13), (21, y21), (28, y28), (43, y43), (58, y58), (70, y70)] [(0, y0), (1, y1), (2, y2), (3, y3), (5, y5), (6, y6), (7, y7), (8, y8), (9, y9), (10, y10), (11, y11), (13, y13), (21, y21), (28, y28), (43, y43), (58, y58), (70, y70)] = [(0, y0), (1, y1), (2, y2), (3, y3), (5, y5), (6, y6), (7, y7), (8, y8), (9, y9), (10, y10), (11, y11), (13, y13), (21, y21), (28, y28), (43, y43), (58, y58), (70, z2)] := fun y0 y1 y2 y3 y5 y6 y7 y8 y9 y10 y11 y13 y21 y28 y43 y58 y70 z0 z1 z2 => rfl
            refine R_nil (tr _ _ _ _ _ _ _ _ _ _ _ _ _ _ _ _ _ _ _ _) ?_; clear tr
            refine then_n ?_
            refine cdd (fun h16 => ?_) (fun h16 => ?_)
            · try simp only [decide_eq_true_eq, decide_eq_false_iff_not, Bool.not_eq_true', Bool.not_eq_false', beq_iff_eq, beq_eq_false_iff_ne, ne_eq] at h16
              refine rg rfl ?_
              refine Rq ?_
              refine R_q rfl (by simp (disch := first | omega | (simp only [List.length_map, List.length_append, List.length_set, List.length_cons, List.length_nil, List.length_take, List.length_drop]; omega)) only [go_sem, ↓reduceIte, Nat.reduceEqDiff, reduceCtorEq, hsx, hsy, hsx2, hsy2, q0, qx, qp, qw, qk]; rfl) ?_
              refine R_q rfl (by simp (disch := first | omega | (simp only [List.length_map, List.length_append, List.length_set, List.length_cons, List.length_nil, List.length_take, List.length_drop]; omega)) only [go_sem, ↓reduceIte, Nat.reduceEqDiff, reduceCtorEq, q0, qx, qp, qw, qk]; exact slice35o bk K.length (by omega)) ?_
              refine Rq ?_
              have lq0 := hget_lt q0
              have lqx := hget_lt qx
              have lqp := hget_lt qp
              have lqw := hget_lt qw
              have lqk := hget_lt qk
              refine A_store ty35 (by simp (disch := first | omega | (simp only [List.length_map, List.length_append, List.length_set, List.length_cons, List.length_nil, List.length_take, List.length_drop]; omega)) only [go_sem, ↓reduceIte, Nat.reduceEqDiff, reduceCtorEq, q0, qx, qp, qw, qk]; rfl) (by simp (disch := first | omega | (simp only [List.length_map, List.length_append, List.length_set, List.length_cons, List.length_nil, List.length_take, List.length_drop]; omega)) only [go_sem, ↓reduceIte, Nat.reduceEqDiff, reduceCtorEq, q0, qx, qp, qw, qk]; rfl) qp ⟨by omega, rfl, by first | exact Nat.le_refl _ | (show _ ≤ 3; decide)⟩ rfl ?_
              intro H9 w9
              have ew9 := w9.len
              have q0 := (w9.old _ (by omega)).trans q0
              have qx := (w9.old _ (by omega)).trans qx
              have qw := (w9.old _ (by omega)).trans qw
              have qk := (w9.old _ (by omega)).trans qk
              have qp := w9.new
              have tr : ∀ y0 y1 y2 y3 y5 y6 y7 y8 y9 y10 y11 y13 y21 y28 y43 y58 y70 z0 z1 z2 z3 : AV, trim [(74, z3), (73, z2), (72, z1), (71, z0), (0, y0), (1, y1), (2, y2), (3, y3), (5, y5), (6, y6), (7, y7), (8, y8), (9, y9), (10, y10), (11, y11), (13, y13), (21, y21), (28, y28), (43, y43), (58, y58), (70, y70)] [(0, y0), (1, y1), (2, y2), (3, y3), (5, y5), (6, y6), (7, y7), (8, y8), (9, y9), (10, y10), (11, y11), (13, y13), (21, y21), (28, y28), (43, y43), (58, y58), (70, y70)] = [(0, y0), (1, y1), (2, y2), (3, y3), (5, y5), (6, y6), (7, y7), (8, y8), (9, y9), (10, y10), (11, y11), (13, y13), (21, y21), (28, y28), (43, y43), (58, y58), (70, y70)] := fun y0 y1 y2 y3 y5 y6 y7 y8 y9 y10 y11 y13 y21 y28 y43 y58 y70 z0 z1 z2 z3 => rfl
              refine R_nil (tr _ _ _ _ _ _ _ _ _ _ _ _ _ _ _ _ _ _ _ _ _) ?_; clear tr
              refine then_n ?_
              refine at_seq rfl ?_
              refine rg rfl ?_
              obtain ⟨W, V, P, xx, yy, qp, hfx, hfy, hPL, hPb, hsx2, hsy2⟩ : ∃ W V P xx yy, hget H9 H3.length = some [xx, AV.i V, yy] ∧ frz H9 0 7 xx = intsAV W ∧ frz H9 0 7 yy = intsAV P ∧ P.length ≤ 9223372036854775807 ∧ (∀ i, gt P i ≤ 9223372036854775807) ∧ storable xx = true ∧ storable yy = true := ⟨_, _, (K.drop 1), _, _, qp, by first | exact frz_int _ _ _ _ | exact frz_ownI (by omega) qw rfl, frz_tail qk (by simp), by simp; omega, drop_max hm.2, rfl, rfl⟩
              refine R_q rfl (by simp (disch := first | omega | (simp only [List.length_map, List.length_append, List.length_set, List.length_cons, List.length_nil, List.length_take, List.length_drop]; omega)) only [go_sem, ↓reduceIte, Nat.reduceEqDiff, reduceCtorEq, hsx, hsy, hsx2, hsy2, q0, qx, qp, qw, qk]; rfl) ?_
              refine R_q rfl (by simp (disch := first | omega | (simp only [List.length_map, List.length_append, List.length_set, List.length_cons, List.length_nil, List.length_take, List.length_drop]; omega)) only [go_sem, ↓reduceIte, Nat.reduceEqDiff, reduceCtorEq, hsx, hsy, hsx2, hsy2, q0, qx, qp, qw, qk]; rfl) ?_
              refine Rcall ?_
              refine ACall_eq (accept_ok _ _ rows q la W V P _ _ _ hfx hfy rfl (fun _ => rfl) hPL hPb) ?_
              refine Rq ?_
              have tr : ∀ y0 y1 y2 y3 y5 y6 y7 y8 y9 y10 y11 y13 y21 y28 y43 y58 y70 z0 z1 z2 z3 : AV, trim [(11, z3), (77, z2), (76, z1), (75, z0), (0, y0), (1, y1), (2, y2), (3, y3), (5, y5), (6, y6), (7, y7), (8, y8), (9, y9), (10, y10), (11, y11), (13, y13), (21, y21), (28, y28), (43, y43), (58, y58), (70, y70)] [(0, y0), (1, y1), (2, y2), (3, y3), (5, y5), (6, y6), (7, y7), (8, y8), (9, y9), (10, y10), (11, y11), (13, y13), (21, y21), (28, y28), (43, y43), (58, y58), (70, y70)] = [(0, y0), (1, y1), (2, y2), (3, y3), (5, y5), (6, y6), (7, y7), (8, y8), (9, y9), (10, y10), (11, z3), (13, y13), (21, y21), (28, y28), (43, y43), (58, y58), (70, y70)] := fun y0 y1 y2 y3 y5 y6 y7 y8 y9 y10 y11 y13 y21 y28 y43 y58 y70 z0 z1 z2 z3 => rfl
              refine R_nil (tr _ _ _ _ _ _ _ _ _ _ _ _ _ _ _ _ _ _ _ _ _) ?_; clear tr
              refine then_n ?_
              refine at_seq rfl ?_
              refine rg rfl ?_
              refine Rq ?_
              refine R_q rfl (by simp (disch := first | omega | (simp only [List.length_map, List.length_append, List.length_set, List.length_cons, List.length_nil, List.length_take, List.length_drop]; omega)) only [go_sem, ↓reduceIte, Nat.reduceEqDiff, reduceCtorEq, hsx, hsy, hsx2, hsy2, q0, qx, qp, qw, qk]; rfl) ?_
              refine R_q rfl (by simp (disch := first | omega | (simp only [List.length_map, List.length_append, List.length_set, List.length_cons, List.length_nil, List.length_take, List.length_drop]; omega)) only [go_sem, ↓reduceIte, Nat.reduceEqDiff, reduceCtorEq, hsx, hsy, hsx2, hsy2, q0, qx, qp, qw, qk]; rfl) ?_
              refine Rcall ?_
              refine ACall_eq (raccept_ok _ _ rows q la W V P _ _ _ hfx hfy rfl (fun _ => rfl) hPL hPb) ?_
              refine Rq ?_
              refine Rq ?_
              refine Rp_split (fun h17 => ?_) (fun h17 => ?_)
              · try simp only [decide_eq_true_eq, decide_eq_false_iff_not, Bool.not_eq_true', Bool.not_eq_false', beq_iff_eq, beq_eq_false_iff_ne, ne_eq] at h17
                refine Ry ?_
                refine Rq ?_
                refine Ry ?_
                refine Rq ?_
                refine Ry ?_
                refine Rq ?_
                refine Rp_split (fun h18 => ?_) (fun h18 => ?_)
                · try simp only [decide_eq_true_eq, decide_eq_false_iff_not, Bool.not_eq_true', Bool.not_eq_false', beq_iff_eq, beq_eq_false_iff_ne, ne_eq] at h18
                  refine Rn ?_
                  refine Rn ?_
                  refine Rn ?_
                  refine Rn ?_
                  refine Ry ?_
                  refine Rq ?_
                  refine Rq ?_
                  refine Rq ?_
                  have tr : ∀ y0 y1 y2 y3 y5 y6 y7 y8 y9 y10 y11 y13 y21 y28 y43 y58 y70 z0 z1 z2 z3 z4 z5 z6 z7 z8 z9 z10 z11 z12 z13 z14 z15 : AV, trim [(6, z15), (92, z14), (91, z13), (90, z12), (89, z11), (88, z10), (87, z9), (86, z8), (85, z7), (84, z6), (83, z5), (82, z4), (81, z3), (80, z2), (79, z1), (78, z0), (0, y0), (1, y1), (2, y2), (3, y3), (5, y5), (6, y6), (7, y7), (8, y8), (9, y9), (10, y10), (11, y11), (13, y13), (21, y21), (28, y28), (43, y43), (58, y58), (70, y70)] [(0, y0), (1, y1), (2, y2), (3, y3), (5, y5), (6, y6), (7, y7), (8, y8), (9, y9), (10, y10), (11, y11), (13, y13), (21, y21), (28, y28), (43, y43), (58, y58), (70, y70)] = [(0, y0), (1, y1), (2, y2), (3, y3), (5, y5), (6, z15), (7, y7), (8, y8), (9, y9), (10, y10), (11, y11), (13, y13), (21, y21), (28, y28), (43, y43), (58, y58), (70, y70)] := fun y0 y1 y2 y3 y5 y6 y7 y8 y9 y10 y11 y13 y21 y28 y43 y58 y70 z0 z1 z2 z3 z4 z5 z6 z7 z8 z9 z10 z11 z12 z13 z14 z15 => rfl
                  refine R_nil (tr _ _ _ _ _ _ _ _ _ _ _ _ _ _ _ _ _ _ _ _ _ _ _ _ _ _ _ _ _ _ _ _ _) ?_; clear tr
                  refine then_n ?_
                  refine at_ret rfl ?_
                  refine fpure ?_
                  first | rfl | (have hal := accept_least hpz hK hR hwl (by assumption); simp [hal]; done) | (exfalso; simp_all; done) | simp
                · try simp only [decide_eq_true_eq, decide_eq_false_iff_not, Bool.not_eq_true', Bool.not_eq_false', beq_iff_eq, beq_eq_false_iff_ne, ne_eq] at h18
                  refine Ry ?_
                  refine Rq ?_
                  refine Ry ?_
                  refine R_q rfl (by simp (disch := first | omega | (simp only [List.length_map, List.length_append, List.length_set, List.length_cons, List.length_nil, List.length_take, List.length_drop]; omega)) only [go_sem, ↓reduceIte, Nat.reduceEqDiff, reduceCtorEq, hsx, hsy, hsx2, hsy2, q0, qx, qp, qw, qk]; rfl) ?_
                  refine Ry ?_
                  refine Rq ?_
                  refine Ry ?_
                  refine Rq ?_
                  refine Ry ?_
                  refine Rq ?_
                  refine Rq ?_
                  refine Rq ?_
                  have tr : ∀ y0 y1 y2 y3 y5 y6 y7 y8 y9 y10 y11 y13 y21 y28 y43 y58 y70 z0 z1 z2 z3 z4 z5 z6 z7 z8 z9 z10 z11 z12 z13 z14 z15 : AV, trim [(6, z15), (92, z14), (91, z13), (90, z12), (89, z11), (88, z10), (87, z9), (86, z8), (85, z7), (84, z6), (83, z5), (82, z4), (81, z3), (80, z2), (79, z1), (78, z0), (0, y0), (1, y1), (2, y2), (3, y3), (5, y5), (6, y6), (7, y7), (8, y8), (9, y9), (10, y10), (11, y11), (13, y13), (21, y21), (28, y28), (43, y43), (58, y58), (70, y70)] [(0, y0), (1, y1), (2, y2), (3, y3), (5, y5), (6, y6), (7, y7), (8, y8), (9, y9), (10, y10), (11, y11), (13, y13), (21, y21), (28, y28), (43, y43), (58, y58), (70, y70)] = [(0, y0), (1, y1), (2, y2), (3, y3), (5, y5), (6, z15), (7, y7), (8, y8), (9, y9), (10, y10), (11, y11), (13, y13), (21, y21), (28, y28), (43, y43), (58, y58), (70, y70)] := fun y0 y1 y2 y3 y5 y6 y7 y8 y9 y10 y11 y13 y21 y28 y43 y58 y70 z0 z1 z2 z3 z4 z5 z6 z7 z8 z9 z10 z11 z12 z13 z14 z15 => rfl
                  refine R_nil (tr _ _ _ _ _ _ _ _ _ _ _ _ _ _ _ _ _ _ _ _ _ _ _ _ _ _ _ _ _ _ _ _ _) ?_; clear tr
                  refine then_n ?_
                  refine at_ret rfl ?_
                  refine fpure ?_
                  first | rfl | (have hal := accept_least hpz hK hR hwl (by assumption); simp [hal]; done) | (exfalso; simp_all; done) | simp
              · try simp only [decide_eq_true_eq, decide_eq_false_iff_not, Bool.not_eq_true', Bool.not_eq_false', beq_iff_eq, beq_eq_false_iff_ne, ne_eq] at h17
                refine Rn ?_
                refine Rn ?_
                refine Rn ?_
                refine Ru ?_
                refine Ru ?_
                refine Ru ?_
                refine Ru ?_
                refine Rn ?_
                refine Rq ?_
                refine Rq ?_
                have tr : ∀ y0 y1 y2 y3 y5 y6 y7 y8 y9 y10 y11 y13 y21 y28 y43 y58 y70 z0 z1 z2 z3 z4 z5 z6 z7 z8 z9 z10 z11 z12 z13 z14 z15 : AV, trim [(6, z15), (92, z14), (91, z13), (90, z12), (89, z11), (88, z10), (87, z9), (86, z8), (85, z7), (84, z6), (83, z5), (82, z4), (81, z3), (80, z2), (79, z1), (78, z0), (0, y0), (1, y1), (2, y2), (3, y3), (5, y5), (6, y6), (7, y7), (8, y8), (9, y9), (10, y10), (11, y11), (13, y13), (21, y21), (28, y28), (43, y43), (58, y58), (70, y70)] [(0, y0), (1, y1), (2, y2), (3, y3), (5, y5), (6, y6), (7, y7), (8, y8), (9, y9), (10, y10), (11, y11), (13, y13), (21, y21), (28, y28), (43, y43), (58, y58), (70, y70)] = [(0, y0), (1, y1), (2, y2), (3, y3), (5, y5), (6, z15), (7, y7), (8, y8), (9, y9), (10, y10), (11, y11), (13, y13), (21, y21), (28, y28), (43, y43), (58, y58), (70, y70)] := fun y0 y1 y2 y3 y5 y6 y7 y8 y9 y10 y11 y13 y21 y28 y43 y58 y70 z0 z1 z2 z3 z4 z5 z6 z7 z8 z9 z10 z11 z12 z13 z14 z15 => rfl
                refine R_nil (tr _ _ _ _ _ _ _ _ _ _ _ _ _ _ _ _ _ _ _ _ _ _ _ _ _ _ _ _ _ _ _ _ _) ?_; clear tr
                refine then_n ?_
                refine at_ret rfl ?_
                refine fpure ?_
                first | rfl | (have hal := accept_least hpz hK hR hwl (by assumption); simp [hal]; done) | (exfalso; simp_all; done) | simp
            · try simp only [decide_eq_true_eq, decide_eq_false_iff_not, Bool.not_eq_true', Bool.not_eq_false', beq_iff_eq, beq_eq_false_iff_ne, ne_eq] at h16
              refine at_skip rfl ?_
              refine then_n ?_
              refine at_seq rfl ?_
              refine rg rfl ?_
              obtain ⟨W, V, P, xx, yy, qp, hfx, hfy, hPL, hPb, hsx2, hsy2⟩ : ∃ W V P xx yy, hget H5 H3.length = some [xx, AV.i V, yy] ∧ frz H5 0 7 xx = intsAV W ∧ frz H5 0 7 yy = intsAV P ∧ P.length ≤ 9223372036854775807 ∧ (∀ i, gt P i ≤ 9223372036854775807) ∧ storable xx = true ∧ storable yy = true := ⟨_, _, K, _, _, qp, by first | exact frz_int _ _ _ _ | exact frz_ownI (by omega) qw rfl, frz_ownI (by omega) qk rfl, hm.1, hm.2, rfl, rfl⟩
              refine R_q rfl (by simp (disch := first | omega | (simp only [List.length_map, List.length_append, List.length_set, List.length_cons, List.length_nil, List.length_take, List.length_drop]; omega)) only [go_sem, ↓reduceIte, Nat.reduceEqDiff, reduceCtorEq, hsx, hsy, hsx2, hsy2, q0, qx, qp, qw, qk]; rfl) ?_
              refine R_q rfl (by simp (disch := first | omega | (simp only [List.length_map, List.length_append, List.length_set, List.length_cons, List.length_nil, List.length_take, List.length_drop]; omega)) only [go_sem, ↓reduceIte, Nat.reduceEqDiff, reduceCtorEq, hsx, hsy, hsx2, hsy2, q0, qx, qp, qw, qk]; rfl) ?_
              refine Rcall ?_
              refine ACall_eq (accept_ok _ _ rows q la W V P _ _ _ hfx hfy rfl (fun _ => rfl) hPL hPb) ?_
              refine Rq ?_
              have tr : ∀ y0 y1 y2 y3 y5 y6 y7 y8 y9 y10 y11 y13 y21 y28 y43 y58 y70 z0 z1 z2 z3 : AV, trim [(11, z3), (77, z2), (76, z1), (75, z0), (0, y0), (1, y1), (2, y2), (3, y3), (5, y5), (6, y6), (7, y7), (8, y8), (9, y9), (10, y10), (11, y11), (13, y13), (21, y21), (28, y28), (43, y43), (58, y58), (70, y70)] [(0, y0), (1, y1), (2, y2), (3, y3), (5, y5), (6, y6), (7, y7), (8, y8), (9, y9), (10, y10), (11, y11), (13, y13), (21, y21), (28, y28), (43, y43), (58, y58), (70, y70)] = [(0, y0), (1, y1), (2, y2), (3, y3), (5, y5), (6, y6), (7, y7), (8, y8), (9, y9), (10, y10), (11, z3), (13, y13), (21, y21), (28, y28), (43, y43), (58, y58), (70, y70)] := fun y0 y1 y2 y3 y5 y6 y7 y8 y9 y10 y11 y13 y21 y28 y43 y58 y70 z0 z1 z2 z3 => rfl
              refine R_nil (tr _ _ _ _ _ _ _ _ _ _ _ _ _ _ _ _ _ _ _ _ _) ?_; clear tr
              refine then_n ?_
              refine at_seq rfl ?_
              refine rg rfl ?_
              refine Rq ?_
              refine R_q rfl (by simp (disch := first | omega | (simp only [List.length_map, List.length_append, List.length_set, List.length_cons, List.length_nil, List.length_take, List.length_drop]; omega)) only [go_sem, ↓reduceIte, Nat.reduceEqDiff, reduceCtorEq, hsx, hsy, hsx2, hsy2, q0, qx, qp, qw, qk]; rfl) ?_
              refine R_q rfl (by simp (disch := first | omega | (simp only [List.length_map, List.length_append, List.length_set, List.length_cons, List.length_nil, List.length_take, List.length_drop]; omega)) only [go_sem, ↓reduceIte, Nat.reduceEqDiff, reduceCtorEq, hsx, hsy, hsx2, hsy2, q0, qx, qp, qw, qk]; rfl) ?_
              refine Rcall ?_
              refine ACall_eq (raccept_ok _ _ rows q la W V P _ _ _ hfx hfy rfl (fun _ => rfl) hPL hPb) ?_
              refine Rq ?_
              refine Rq ?_
              refine Rp_split (fun h19 => ?_) (fun h19 => ?_)
              · try simp only [decide_eq_true_eq, decide_eq_false_iff_not, Bool.not_eq_true', Bool.not_eq_false', beq_iff_eq, beq_eq_false_iff_ne, ne_eq] at h19
                refine Ry ?_
                refine Rq ?_
                refine Ry ?_
                refine Rq ?_
                refine Ry ?_
                refine Rq ?_
                refine Rp_split (fun h20 => ?_) (fun h20 => ?_)
                · try simp only [decide_eq_true_eq, decide_eq_false_iff_not, Bool.not_eq_true', Bool.not_eq_false', beq_iff_eq, beq_eq_false_iff_ne, ne_eq] at h20
                  refine Rn ?_
                  refine Rn ?_
                  refine Rn ?_
                  refine Rn ?_
                  refine Ry ?_
                  refine Rq ?_
                  refine Rq ?_
                  refine Rq ?_
                  have tr : ∀ y0 y1 y2 y3 y5 y6 y7 y8 y9 y10 y11 y13 y21 y28 y43 y58 y70 z0 z1 z2 z3 z4 z5 z6 z7 z8 z9 z10 z11 z12 z13 z14 z15 : AV, trim [(6, z15), (92, z14), (91, z13), (90, z12), (89, z11), (88, z10), (87, z9), (86, z8), (85, z7), (84, z6), (83, z5), (82, z4), (81, z3), (80, z2), (79, z1), (78, z0), (0, y0), (1, y1), (2, y2), (3, y3), (5, y5), (6, y6), (7, y7), (8, y8), (9, y9), (10, y10), (11, y11), (13, y13), (21, y21), (28, y28), (43, y43), (58, y58), (70, y70)] [(0, y0), (1, y1), (2, y2), (3, y3), (5, y5), (6, y6), (7, y7), (8, y8), (9, y9), (10, y10), (11, y11), (13, y13), (21, y21), (28, y28), (43, y43), (58, y58), (70, y70)] = [(0, y0), (1, y1), (2, y2), (3, y3), (5, y5), (6, z15), (7, y7), (8, y8), (9, y9), (10, y10), (11, y11), (13, y13), (21, y21), (28, y28), (43, y43), (58, y58), (70, y70)] := fun y0 y1 y2 y3 y5 y6 y7 y8 y9 y10 y11 y13 y21 y28 y43 y58 y70 z0 z1 z2 z3 z4 z5 z6 z7 z8 z9 z10 z11 z12 z13 z14 z15 => rfl
                  refine R_nil (tr _ _ _ _ _ _ _ _ _ _ _ _ _ _ _ _ _ _ _ _ _ _ _ _ _ _ _ _ _ _ _ _ _) ?_; clear tr
                  refine then_n ?_
                  refine at_ret rfl ?_
                  refine fpure ?_
                  first | rfl | (have hal := accept_least hpz hK hR hwl (by assumption); simp [hal]; done) | (exfalso; simp_all; done) | simp
                · try simp only [decide_eq_true_eq, decide_eq_false_iff_not, Bool.not_eq_true', Bool.not_eq_false', beq_iff_eq, beq_eq_false_iff_ne, ne_eq] at h20
                  refine Ry ?_
                  refine Rq ?_
                  refine Ry ?_
                  refine R_q rfl (by simp (disch := first | omega | (simp only [List.length_map, List.length_append, List.length_set, List.length_cons, List.length_nil, List.length_take, List.length_drop]; omega)) only [go_sem, ↓reduceIte, Nat.reduceEqDiff, reduceCtorEq, hsx, hsy, hsx2, hsy2, q0, qx, qp, qw, qk]; rfl) ?_
                  refine Ry ?_
                  refine Rq ?_
                  refine Ry ?_
                  refine Rq ?_
                  refine Ry ?_
                  refine Rq ?_
                  refine Rq ?_
                  refine Rq ?_
                  have tr : ∀ y0 y1 y2 y3 y5 y6 y7 y8 y9 y10 y11 y13 y21 y28 y43 y58 y70 z0 z1 z2 z3 z4 z5 z6 z7 z8 z9 z10 z11 z12 z13 z14 z15 : AV, trim [(6, z15), (92, z14), (91, z13), (90, z12), (89, z11), (88, z10), (87, z9), (86, z8), (85, z7), (84, z6), (83, z5), (82, z4), (81, z3), (80, z2), (79, z1), (78, z0), (0, y0), (1, y1), (2, y2), (3, y3), (5, y5), (6, y6), (7, y7), (8, y8), (9, y9), (10, y10), (11, y11), (13, y13), (21, y21), (28, y28), (43, y43), (58, y58), (70, y70)] [(0, y0), (1, y1), (2, y2), (3, y3), (5, y5), (6, y6), (7, y7), (8, y8), (9, y9), (10, y10), (11, y11), (13, y13), (21, y21), (28, y28), (43, y43), (58, y58), (70, y70)] = [(0, y0), (1, y1), (2, y2), (3, y3), (5, y5), (6, z15), (7, y7), (8, y8), (9, y9), (10, y10), (11, y11), (13, y13), (21, y21), (28, y28), (43, y43), (58, y58), (70, y70)] := fun y0 y1 y2 y3 y5 y6 y7 y8 y9 y10 y11 y13 y21 y28 y43 y58 y70 z0 z1 z2 z3 z4 z5 z6 z7 z8 z9 z10 z11 z12 z13 z14 z15 => rfl
                  refine R_nil (tr _ _ _ _ _ _ _ _ _ _ _ _ _ _ _ _ _ _ _ _ _ _ _ _ _ _ _ _ _ _ _ _ _) ?_; clear tr
                  refine then_n ?_
                  refine at_ret rfl ?_
                  refine fpure ?_
                  first | rfl | (have hal := accept_least hpz hK hR hwl (by assumption); simp [hal]; done) | (exfalso; simp_all; done) | simp
              · try simp only [decide_eq_true_eq, decide_eq_false_iff_not, Bool.not_eq_true', Bool.not_eq_false', beq_iff_eq, beq_eq_false_iff_ne, ne_eq] at h19
                refine Rn ?_
                refine Rn ?_
                refine Rn ?_
                refine Ru ?_
                refine Ru ?_
                refine Ru ?_
                refine Ru ?_
                refine Rn ?_
                refine Rq ?_
                refine Rq ?_
                have tr : ∀ y0 y1 y2 y3 y5 y6 y7 y8 y9 y10 y11 y13 y21 y28 y43 y58 y70 z0 z1 z2 z3 z4 z5 z6 z7 z8 z9 z10 z11 z12 z13 z14 z15 : AV, trim [(6, z15), (92, z14), (91, z13), (90, z12), (89, z11), (88, z10), (87, z9), (86, z8), (85, z7), (84, z6), (83, z5), (82, z4), (81, z3), (80, z2), (79, z1), (78, z0), (0, y0), (1, y1), (2, y2), (3, y3), (5, y5), (6, y6), (7, y7), (8, y8), (9, y9), (10, y10), (11, y11), (13, y13), (21, y21), (28, y28), (43, y43), (58, y58), (70, y70)] [(0, y0), (1, y1), (2, y2), (3, y3), (5, y5), (6, y6), (7, y7), (8, y8), (9, y9), (10, y10), (11, y11), (13, y13), (21, y21), (28, y28), (43, y43), (58, y58), (70, y70)] = [(0, y0), (1, y1), (2, y2), (3, y3), (5, y5), (6, z15), (7, y7), (8, y8), (9, y9), (10, y10), (11, y11), (13, y13), (21, y21), (28, y28), (43, y43), (58, y58), (70, y70)] := fun y0 y1 y2 y3 y5 y6 y7 y8 y9 y10 y11 y13 y21 y28 y43 y58 y70 z0 z1 z2 z3 z4 z5 z6 z7 z8 z9 z10 z11 z12 z13 z14 z15 => rfl
                refine R_nil (tr _ _ _ _ _ _ _ _ _ _ _ _ _ _ _ _ _ _ _ _ _ _ _ _ _ _ _ _ _ _ _ _ _) ?_; clear tr
                refine then_n ?_
                refine at_ret rfl ?_
                refine fpure ?_
                first | rfl | (have hal := accept_least hpz hK hR hwl (by assumption); simp [hal]; done) | (exfalso; simp_all; done) | simp

end Go.Proofs.Ytmkalakojfpfgaa
