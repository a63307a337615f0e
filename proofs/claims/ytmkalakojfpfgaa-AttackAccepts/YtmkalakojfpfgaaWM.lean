/-
  Walks of chapter 46. The steps are written by program (walk.py).
-/
import Derived.Test.YtmkalakojfpfgaaWA
import Derived.Test.YtmkalakojfpfgaaWB
import Derived.Test.YtmkalakojfpfgaaWD
import Derived.Test.YtmkalakojfpfgaaQ8
set_option linter.unusedSimpArgs false
set_option linter.unusedVariables false
set_option maxHeartbeats 40000000
set_option maxRecDepth 4000
namespace Go.Proofs.Ytmkalakojfpfgaa
open Go Go.Am

theorem bounded_ok (lim : Nat) (H : Heap) (rows : Tb) (q la0 : Int) (g : Good rows q la0) (P : List Int) (hP : FormA rows q P) (hPb : ∀ i, gt P i ≤ 9223372036854775807) (k : Nat) (hk : k < P.length) :
    ACall sig lim 34 [.agg [rowsAV rows, AV.i q, AV.i la0], intsAV P, AV.i k] H fun r H' => r = .v (.bool (boundB rows q P k)) ∧ H' = H := by
  obtain ⟨g1, g2, g3, g4, g5, g6, g7, g8, g9, g10, g11⟩ := id g
  have hq0 : 0 ≤ q := by omega
  have hnum := num_eq g
  have hnb := num_bd g
  obtain ⟨hPl, hPf⟩ := id hP
  have st : StOK q (gt rows 0).length (decc q (gt rows 0).length k) (decl (gt rows 0).length k) := dec_st hq0 (by omega)
  have hcl := st.c.1
  have hss := sum_le (q := 12) (decc q (gt rows 0).length k) (fun y hy => by have := st.c.2 y hy; omega)
  have hfk := (hPf k hk).1
  have hpk := hPb k
  have q0 : True := trivial
  have qs : True := trivial
  refine ACall_pure (fa := fa34) rfl rfl rfl rfl ?_
  have tr : ∀ a0 a1 a2 : AV, env0 fa34.keep [a0, a1, a2] = [(0, a0), (1, a1), (2, a2), (3, .any), (6, .any), (7, .any), (8, .any), (9, .any), (10, .any), (27, .any), (34, .any), (68, .any)] := fun a0 a1 a2 => rfl
  refine W_to (tr _ _ _) ?_; clear tr
  refine at_seq rfl ?_
  refine rg rfl ?_
  refine A_box rfl (by simp (disch := first | omega | (simp only [List.length_map, List.length_append, List.length_set, List.length_cons, List.length_nil, List.length_take, List.length_drop]; omega)) only [go_sem, ↓reduceIte, Nat.reduceEqDiff, reduceCtorEq]; rfl) ?_
  intro H1 n1
  have en1 := n1.len
  have q0 := n1.new
  refine Rq ?_
  have tr : ∀ y0 y1 y2 y3 y6 y7 y8 y9 y10 y27 y34 y68 z0 z1 : AV, trim [(6, z1), (3, z0), (0, y0), (1, y1), (2, y2), (3, y3), (6, y6), (7, y7), (8, y8), (9, y9), (10, y10), (27, y27), (34, y34), (68, y68)] [(0, y0), (1, y1), (2, y2), (3, y3), (6, y6), (7, y7), (8, y8), (9, y9), (10, y10), (27, y27), (34, y34), (68, y68)] = [(0, y0), (1, y1), (2, y2), (3, z0), (6, z1), (7, y7), (8, y8), (9, y9), (10, y10), (27, y27), (34, y34), (68, y68)] := fun y0 y1 y2 y3 y6 y7 y8 y9 y10 y27 y34 y68 z0 z1 => rfl
  refine R_nil (tr _ _ _ _ _ _ _ _ _ _ _ _ _ _) ?_; clear tr
  refine then_n ?_
  refine at_seq rfl ?_
  refine rg rfl ?_
  refine R_q rfl (by simp (disch := first | omega | (simp only [List.length_map, List.length_append, List.length_set, List.length_cons, List.length_nil, List.length_take, List.length_drop]; omega)) only [go_sem, ↓reduceIte, Nat.reduceEqDiff, reduceCtorEq, q0, qs]; rfl) ?_
  refine Rq ?_
  refine Rcall ?_
  refine ACall_eq (decoded_ok _ _ rows q la0 g k (by omega) (by omega)) ?_
  refine A_alloc rfl ?_
  intro H2 n2
  have en2 := n2.len
  have q0 := (n2.old _ (hget_lt q0)).trans q0
  have qs := n2.new
  have lq0 := hget_lt q0
  have lqs := hget_lt qs
  refine A_store ty48 (by simp (disch := first | omega | (simp only [List.length_map, List.length_append, List.length_set, List.length_cons, List.length_nil, List.length_take, List.length_drop]; omega)) only [go_sem, ↓reduceIte, Nat.reduceEqDiff, reduceCtorEq, q0, qs]; rfl) (by simp (disch := first | omega | (simp only [List.length_map, List.length_append, List.length_set, List.length_cons, List.length_nil, List.length_take, List.length_drop]; omega)) only [go_sem, ↓reduceIte, Nat.reduceEqDiff, reduceCtorEq, q0, qs]; rfl) qs ⟨by omega, rfl, by first | exact Nat.le_refl _ | simp⟩ (show _ = [intsAV (decc q (gt rows 0).length k), AV.i (decl (gt rows 0).length k)] from rfl) ?_
  intro H3 w3
  have ew3 := w3.len
  have q0 := (w3.old _ (by omega)).trans q0
  have qs := w3.new
  have tr : ∀ y0 y1 y2 y3 y6 y7 y8 y9 y10 y27 y34 y68 z0 z1 z2 z3 : AV, trim [(7, z3), (13, z2), (12, z1), (11, z0), (0, y0), (1, y1), (2, y2), (3, y3), (6, y6), (7, y7), (8, y8), (9, y9), (10, y10), (27, y27), (34, y34), (68, y68)] [(0, y0), (1, y1), (2, y2), (3, y3), (6, y6), (7, y7), (8, y8), (9, y9), (10, y10), (27, y27), (34, y34), (68, y68)] = [(0, y0), (1, y1), (2, y2), (3, y3), (6, y6), (7, z3), (8, y8), (9, y9), (10, y10), (27, y27), (34, y34), (68, y68)] := fun y0 y1 y2 y3 y6 y7 y8 y9 y10 y27 y34 y68 z0 z1 z2 z3 => rfl
  refine R_nil (tr _ _ _ _ _ _ _ _ _ _ _ _ _ _ _ _) ?_; clear tr
  refine then_n ?_
  refine at_seq rfl ?_
  refine rg rfl ?_
  refine R_q rfl (by simp (disch := first | omega | (simp only [List.length_map, List.length_append, List.length_set, List.length_cons, List.length_nil, List.length_take, List.length_drop]; omega)) only [go_sem, ↓reduceIte, Nat.reduceEqDiff, reduceCtorEq, q0, qs]; rfl) ?_
  refine Rcall ?_
  refine ACall_eq (over_ok _ _ rows q la0 g (decc q (gt rows 0).length k) (decl (gt rows 0).length k) st _ (.inl rfl)) ?_
  refine Rq ?_
  have tr : ∀ y0 y1 y2 y3 y6 y7 y8 y9 y10 y27 y34 y68 z0 z1 z2 : AV, trim [(8, z2), (15, z1), (14, z0), (0, y0), (1, y1), (2, y2), (3, y3), (6, y6), (7, y7), (8, y8), (9, y9), (10, y10), (27, y27), (34, y34), (68, y68)] [(0, y0), (1, y1), (2, y2), (3, y3), (6, y6), (7, y7), (8, y8), (9, y9), (10, y10), (27, y27), (34, y34), (68, y68)] = [(0, y0), (1, y1), (2, y2), (3, y3), (6, y6), (7, y7), (8, z2), (9, y9), (10, y10), (27, y27), (34, y34), (68, y68)] := fun y0 y1 y2 y3 y6 y7 y8 y9 y10 y27 y34 y68 z0 z1 z2 => rfl
  refine R_nil (tr _ _ _ _ _ _ _ _ _ _ _ _ _ _ _) ?_; clear tr
  refine then_n ?_
  refine at_seq rfl ?_
  refine at_seq rfl ?_
  refine rg rfl ?_
  refine Rq ?_
  have tr : ∀ y0 y1 y2 y3 y6 y7 y8 y9 y10 y27 y34 y68 z0 : AV, trim [(9, z0), (0, y0), (1, y1), (2, y2), (3, y3), (6, y6), (7, y7), (8, y8), (9, y9), (10, y10), (27, y27), (34, y34), (68, y68)] [(0, y0), (1, y1), (2, y2), (3, y3), (6, y6), (7, y7), (8, y8), (9, y9), (10, y10), (27, y27), (34, y34), (68, y68)] = [(0, y0), (1, y1), (2, y2), (3, y3), (6, y6), (7, y7), (8, y8), (9, z0), (10, y10), (27, y27), (34, y34), (68, y68)] := fun y0 y1 y2 y3 y6 y7 y8 y9 y10 y27 y34 y68 z0 => rfl
  refine R_nil (tr _ _ _ _ _ _ _ _ _ _ _ _ _) ?_; clear tr
  refine then_n ?_
  refine at_block rfl ?_
  refine loop_n rfl (fun mm kv H' => ∃ j : Nat, ∃ x6 x10 x27 x34 x68 : AV, (kv = [(6, x6), (9, AV.i j), (10, x10), (27, x27), (34, x34), (68, x68)]) ∧ (mm = (gt rows 0).length - j) ∧ (hget H' H.length = some [rowsAV rows, AV.i q, AV.i la0]) ∧ (hget H' H1.length = some [intsAV (decc q (gt rows 0).length k), AV.i (decl (gt rows 0).length k)]) ∧ (j ≤ (gt rows 0).length) ∧ (∀ i, i < j → BoundJ rows q P (gt P k) (decc q (gt rows 0).length k) (decl (gt rows 0).length k) i)) ⟨0, _, _, _, _, _, rfl, rfl, by exact q0, by exact qs, by omega, by intro i hi; omega⟩ (by rfl) ?_
  rintro mm kv HB ⟨j, x6, x10, x27, x34, x68, rfl, rfl, q0, qs, hj, hb⟩
  have tr : ∀ y0 y1 y2 y3 y6 y7 y8 y9 y10 y27 y34 y68 z6 z9 z10 z27 z34 z68 : AV, upd [(0, y0), (1, y1), (2, y2), (3, y3), (6, y6), (7, y7), (8, y8), (9, y9), (10, y10), (27, y27), (34, y34), (68, y68)] [(6, z6), (9, z9), (10, z10), (27, z27), (34, z34), (68, z68)] = [(0, y0), (1, y1), (2, y2), (3, y3), (6, z6), (7, y7), (8, y8), (9, z9), (10, z10), (27, z27), (34, z34), (68, z68)] := fun y0 y1 y2 y3 y6 y7 y8 y9 y10 y27 y34 y68 z6 z9 z10 z27 z34 z68 => rfl
  refine W_to (tr _ _ _ _ _ _ _ _ _ _ _ _ _ _ _ _ _ _) ?_; clear tr
  refine at_seq rfl ?_
  refine at_seq rfl ?_
  refine rg rfl ?_
  refine Rq ?_
  refine Rq ?_
  refine R_q rfl (by simp (disch := first | omega | (simp only [List.length_map, List.length_append, List.length_set, List.length_cons, List.length_nil, List.length_take, List.length_drop]; omega)) only [go_sem, ↓reduceIte, Nat.reduceEqDiff, reduceCtorEq, q0, qs]; rfl) ?_
  refine Rq ?_
  refine Rq ?_
  refine Rq ?_
  refine Rp_split (fun h1 => ?_) (fun h1 => ?_)
  · try simp only [decide_eq_true_eq, decide_eq_false_iff_not, Bool.not_eq_true', Bool.not_eq_false', beq_iff_eq, beq_eq_false_iff_ne, ne_eq] at h1
    refine Ry ?_
    refine Rq ?_
    refine Ry ?_
    refine Rq ?_
    refine Ry ?_
    refine R_q rfl (by simp (disch := first | omega | (simp only [List.length_map, List.length_append, List.length_set, List.length_cons, List.length_nil, List.length_take, List.length_drop]; omega)) only [go_sem, ↓reduceIte, Nat.reduceEqDiff, reduceCtorEq, q0, qs]; rfl) ?_
    refine Ry ?_
    refine Rq ?_
    refine Ry ?_
    refine Rq ?_
    refine Rq ?_
    have tr : ∀ y0 y1 y2 y3 y6 y7 y8 y9 y10 y27 y34 y68 z0 z1 z2 z3 z4 z5 z6 z7 z8 z9 z10 z11 : AV, trim [(27, z11), (26, z10), (25, z9), (24, z8), (23, z7), (22, z6), (21, z5), (20, z4), (19, z3), (18, z2), (17, z1), (16, z0), (0, y0), (1, y1), (2, y2), (3, y3), (6, y6), (7, y7), (8, y8), (9, y9), (10, y10), (27, y27), (34, y34), (68, y68)] [(0, y0), (1, y1), (2, y2), (3, y3), (6, y6), (7, y7), (8, y8), (9, y9), (10, y10), (27, y27), (34, y34), (68, y68)] = [(0, y0), (1, y1), (2, y2), (3, y3), (6, y6), (7, y7), (8, y8), (9, y9), (10, y10), (27, z11), (34, y34), (68, y68)] := fun y0 y1 y2 y3 y6 y7 y8 y9 y10 y27 y34 y68 z0 z1 z2 z3 z4 z5 z6 z7 z8 z9 z10 z11 => rfl
    refine R_nil (tr _ _ _ _ _ _ _ _ _ _ _ _ _ _ _ _ _ _ _ _ _ _ _ _) ?_; clear tr
    refine then_n ?_
    refine cdd (fun h2 => ?_) (fun h2 => ?_)
    · try simp only [decide_eq_true_eq, decide_eq_false_iff_not, Bool.not_eq_true', Bool.not_eq_false', beq_iff_eq, beq_eq_false_iff_ne, ne_eq] at h2
      refine at_skip rfl ?_
      refine then_n ?_
      refine at_seq rfl ?_
      refine at_block rfl ?_
      refine at_seq rfl ?_
      refine at_seq rfl ?_
      refine rg rfl ?_
      have hcj := okc_gt st.c (j := j) (by omega)
      refine R_q rfl (by simp (disch := first | omega | (simp only [List.length_map, List.length_append, List.length_set, List.length_cons, List.length_nil, List.length_take, List.length_drop]; omega)) only [go_sem, ↓reduceIte, Nat.reduceEqDiff, reduceCtorEq, q0, qs]; rfl) ?_
      refine R_q rfl (by simp (disch := first | omega | (simp only [List.length_map, List.length_append, List.length_set, List.length_cons, List.length_nil, List.length_take, List.length_drop]; omega)) only [go_sem, ↓reduceIte, Nat.reduceEqDiff, reduceCtorEq, q0, qs]; rfl) ?_
      refine Rq ?_
      refine Rcall ?_
      refine ACall_eq (may_ok _ _ rows q la0 g (decc q (gt rows 0).length k) (decl (gt rows 0).length k) st _ (.inl rfl) j (by omega)) ?_
      refine Rq ?_
      have tr : ∀ y0 y1 y2 y3 y6 y7 y8 y9 y10 y27 y34 y68 z0 z1 z2 z3 z4 : AV, trim [(34, z4), (33, z3), (32, z2), (31, z1), (30, z0), (0, y0), (1, y1), (2, y2), (3, y3), (6, y6), (7, y7), (8, y8), (9, y9), (10, y10), (27, y27), (34, y34), (68, y68)] [(0, y0), (1, y1), (2, y2), (3, y3), (6, y6), (7, y7), (8, y8), (9, y9), (10, y10), (27, y27), (34, y34), (68, y68)] = [(0, y0), (1, y1), (2, y2), (3, y3), (6, y6), (7, y7), (8, y8), (9, y9), (10, y10), (27, y27), (34, z4), (68, y68)] := fun y0 y1 y2 y3 y6 y7 y8 y9 y10 y27 y34 y68 z0 z1 z2 z3 z4 => rfl
      refine R_nil (tr _ _ _ _ _ _ _ _ _ _ _ _ _ _ _ _ _) ?_; clear tr
      refine then_n ?_
      refine cdd (fun h3 => ?_) (fun h3 => ?_)
      · try simp only [decide_eq_true_eq, decide_eq_false_iff_not, Bool.not_eq_true', Bool.not_eq_false', beq_iff_eq, beq_eq_false_iff_ne, ne_eq] at h3
        refine at_exit rfl ?_
        refine then_x ?_
        refine blk_x ?_
        refine then_n ?_
        refine rg rfl ?_
        refine Rq ?_
        refine Rq ?_
        refine Rq ?_
        have tr : ∀ y0 y1 y2 y3 y6 y7 y8 y9 y10 y27 y34 y68 z0 z1 z2 : AV, trim [(9, z2), (29, z1), (28, z0), (0, y0), (1, y1), (2, y2), (3, y3), (6, y6), (7, y7), (8, y8), (9, y9), (10, y10), (27, y27), (34, y34), (68, y68)] [(0, y0), (1, y1), (2, y2), (3, y3), (6, y6), (7, y7), (8, y8), (9, y9), (10, y10), (27, y27), (34, y34), (68, y68)] = [(0, y0), (1, y1), (2, y2), (3, y3), (6, y6), (7, y7), (8, y8), (9, z2), (10, y10), (27, y27), (34, y34), (68, y68)] := fun y0 y1 y2 y3 y6 y7 y8 y9 y10 y27 y34 y68 z0 z1 z2 => rfl
        refine R_nil (tr _ _ _ _ _ _ _ _ _ _ _ _ _ _ _) ?_; clear tr
        refine then_n ?_
        exact ⟨_, _, ⟨j + 1, _, _, _, _, _, rfl, rfl, by exact q0, by exact qs, by omega, by exact boundj_step hb (fun hh1 hh2 hh3 hh4 => by first | omega | (exact ⟨by omega, by omega⟩))⟩, by rfl, by omega⟩
      · try simp only [decide_eq_true_eq, decide_eq_false_iff_not, Bool.not_eq_true', Bool.not_eq_false', beq_iff_eq, beq_eq_false_iff_ne, ne_eq] at h3
        refine at_skip rfl ?_
        refine then_n ?_
        refine at_seq rfl ?_
        refine rl rfl rfl ?_
        have sta := aft_st st (j := j) (by omega) (by omega)
        have hia := idx_rng hq0 sta
        have hfa := (hPf (idxS q (gt rows 0).length (aft (decc q (gt rows 0).length k) j) j).toNat (by omega)).1
        refine Lq ?_
        refine L_q rfl (by simp (disch := first | omega | (simp only [List.length_map, List.length_append, List.length_set, List.length_cons, List.length_nil, List.length_take, List.length_drop]; omega)) only [go_sem, ↓reduceIte, Nat.reduceEqDiff, reduceCtorEq, q0, qs]; rfl) rfl ?_
        refine L_q rfl (by simp (disch := first | omega | (simp only [List.length_map, List.length_append, List.length_set, List.length_cons, List.length_nil, List.length_take, List.length_drop]; omega)) only [go_sem, ↓reduceIte, Nat.reduceEqDiff, reduceCtorEq, q0, qs]; rfl) rfl ?_
        refine Lq ?_
        refine L_nil ?_
        refine Ms ?_
        refine Rcall ?_
        refine ACall_eq (after_ok _ _ rows q la0 g (decc q (gt rows 0).length k) (decl (gt rows 0).length k) st _ (.inl rfl) j (by omega)) ?_
        refine R_end ?_
        refine Ms ?_
        refine Rcall ?_
        refine ACall_eq (index_ok _ _ rows q la0 g (aft (decc q (gt rows 0).length k) j) j sta _ (.inl rfl)) ?_
        refine R_end ?_
        refine M_nil ?_
        refine Rq ?_
        refine R_q rfl (by simp (disch := first | omega | (simp only [List.length_map, List.length_append, List.length_set, List.length_cons, List.length_nil, List.length_take, List.length_drop]; omega)) only [go_sem, ↓reduceIte, Nat.reduceEqDiff, reduceCtorEq, q0, qs]; rfl) ?_
        refine Rq ?_
        have tr : ∀ y0 y1 y2 y3 y6 y7 y8 y9 y10 y27 y34 y68 z0 z1 z2 z3 z4 z5 z6 z7 z8 : AV, trim [(10, z8), (42, z7), (41, z6), (40, z5), (39, z4), (38, z3), (37, z2), (36, z1), (35, z0), (0, y0), (1, y1), (2, y2), (3, y3), (6, y6), (7, y7), (8, y8), (9, y9), (10, y10), (27, y27), (34, y34), (68, y68)] [(0, y0), (1, y1), (2, y2), (3, y3), (6, y6), (7, y7), (8, y8), (9, y9), (10, y10), (27, y27), (34, y34), (68, y68)] = [(0, y0), (1, y1), (2, y2), (3, y3), (6, y6), (7, y7), (8, y8), (9, y9), (10, z8), (27, y27), (34, y34), (68, y68)] := fun y0 y1 y2 y3 y6 y7 y8 y9 y10 y27 y34 y68 z0 z1 z2 z3 z4 z5 z6 z7 z8 => rfl
        refine R_nil (tr _ _ _ _ _ _ _ _ _ _ _ _ _ _ _ _ _ _ _ _ _) ?_; clear tr
        refine then_n ?_
        refine at_seq rfl ?_
        refine rd rfl rfl ?_
        have hrl := g5 (sumL (decc q (gt rows 0).length k)).toNat (by omega)
        have hce := cell_rng g (sumL (decc q (gt rows 0).length k)).toNat j
        refine Qq ?_
        refine Qq ?_
        refine Qq ?_
        refine Qp_split (fun h4 => ?_) (fun h4 => ?_)
        · try simp only [decide_eq_true_eq, decide_eq_false_iff_not, Bool.not_eq_true', Bool.not_eq_false', beq_iff_eq, beq_eq_false_iff_ne, ne_eq] at h4
          refine Qy ?_
          refine Qq ?_
          refine Qy ?_
          refine Qq ?_
          refine Qy ?_
          refine Qq ?_
          refine Qy ?_
          refine Q_q rfl (by simp (disch := first | omega | (simp only [List.length_map, List.length_append, List.length_set, List.length_cons, List.length_nil, List.length_take, List.length_drop]; omega)) only [go_sem, ↓reduceIte, Nat.reduceEqDiff, reduceCtorEq, q0, qs]; rfl) ?_
          refine Qy ?_
          refine Qq ?_
          refine Qy ?_
          refine Qq ?_
          refine Qp_split (fun h5 => ?_) (fun h5 => ?_)
          · try simp only [decide_eq_true_eq, decide_eq_false_iff_not, Bool.not_eq_true', Bool.not_eq_false', beq_iff_eq, beq_eq_false_iff_ne, ne_eq] at h5
            refine Qn ?_
            refine Qn ?_
            refine Qn ?_
            refine Qn ?_
            refine Qn ?_
            refine Qn ?_
            refine Qn ?_
            refine Qn ?_
            refine Qn ?_
            refine Qn ?_
            refine Qn ?_
            refine Qn ?_
            refine Qn ?_
            refine Qn ?_
            refine Qn ?_
            refine Qy ?_
            refine Qq ?_
            refine Qq ?_
            refine Q_nil ?_
            have tr : ∀ y0 y1 y2 y3 y6 y7 y8 y9 y10 y27 y34 y68 z0 z1 z2 z3 z4 z5 z6 z7 z8 z9 z10 z11 z12 z13 z14 z15 z16 z17 z18 z19 z20 z21 z22 z23 z24 z25 : AV, trim [(68, z25), (67, z24), (66, z23), (65, z22), (64, z21), (63, z20), (62, z19), (61, z18), (60, z17), (59, z16), (58, z15), (57, z14), (56, z13), (55, z12), (54, z11), (53, z10), (52, z9), (51, z8), (50, z7), (49, z6), (48, z5), (47, z4), (46, z3), (45, z2), (44, z1), (43, z0), (0, y0), (1, y1), (2, y2), (3, y3), (6, y6), (7, y7), (8, y8), (9, y9), (10, y10), (27, y27), (34, y34), (68, y68)] [(0, y0), (1, y1), (2, y2), (3, y3), (6, y6), (7, y7), (8, y8), (9, y9), (10, y10), (27, y27), (34, y34), (68, y68)] = [(0, y0), (1, y1), (2, y2), (3, y3), (6, y6), (7, y7), (8, y8), (9, y9), (10, y10), (27, y27), (34, y34), (68, z25)] := fun y0 y1 y2 y3 y6 y7 y8 y9 y10 y27 y34 y68 z0 z1 z2 z3 z4 z5 z6 z7 z8 z9 z10 z11 z12 z13 z14 z15 z16 z17 z18 z19 z20 z21 z22 z23 z24 z25 => rfl
            refine R_nil (tr _ _ _ _ _ _ _ _ _ _ _ _ _ _ _ _ _ _ _ _ _ _ _ _ _ _ _ _ _ _ _ _ _ _ _ _ _ _) ?_; clear tr
            refine then_n ?_
            refine cdt ?_
            refine at_seq rfl ?_
            refine rg rfl ?_
            refine Rq ?_
            have tr : ∀ y0 y1 y2 y3 y6 y7 y8 y9 y10 y27 y34 y68 z0 : AV, trim [(6, z0), (0, y0), (1, y1), (2, y2), (3, y3), (6, y6), (7, y7), (8, y8), (9, y9), (10, y10), (27, y27), (34, y34), (68, y68)] [(0, y0), (1, y1), (2, y2), (3, y3), (6, y6), (7, y7), (8, y8), (9, y9), (10, y10), (27, y27), (34, y34), (68, y68)] = [(0, y0), (1, y1), (2, y2), (3, y3), (6, z0), (7, y7), (8, y8), (9, y9), (10, y10), (27, y27), (34, y34), (68, y68)] := fun y0 y1 y2 y3 y6 y7 y8 y9 y10 y27 y34 y68 z0 => rfl
            refine R_nil (tr _ _ _ _ _ _ _ _ _ _ _ _ _) ?_; clear tr
            refine then_n ?_
            refine at_ret rfl ?_
            refine blk_r ?_
            refine then_r ?_
            refine then_r ?_
            refine blk_r ?_
            refine then_r ?_
            refine fpure ?_
            refine ⟨?_, rfl⟩
            first | (rw [bound_no (fun hh => by have hh2 := hh j (by omega) (by omega) (by omega) (by omega) (by omega); omega)]; done) | (rw [bound_yes (fun i hi hs => by first | omega | exact hb i (by omega) hs)]; done)
          · try simp only [decide_eq_true_eq, decide_eq_false_iff_not, Bool.not_eq_true', Bool.not_eq_false', beq_iff_eq, beq_eq_false_iff_ne, ne_eq] at h5
            refine Qy ?_
            refine Qq ?_
            refine Qy ?_
            refine Qq ?_
            refine Qy ?_
            refine Qq ?_
            refine Qy ?_
            refine Q_q rfl (by simp (disch := first | omega | (simp only [List.length_map, List.length_append, List.length_set, List.length_cons, List.length_nil, List.length_take, List.length_drop]; omega)) only [go_sem, ↓reduceIte, Nat.reduceEqDiff, reduceCtorEq, q0, qs]; rfl) ?_
            refine Qy ?_
            refine Qq ?_
            refine Qy ?_
            refine Q_q rfl (by simp (disch := first | omega | (simp only [List.length_map, List.length_append, List.length_set, List.length_cons, List.length_nil, List.length_take, List.length_drop]; omega)) only [go_sem, ↓reduceIte, Nat.reduceEqDiff, reduceCtorEq, q0, qs]; rfl) ?_
            refine Qy ?_
            refine Qq ?_
            refine Qy ?_
            refine Qq ?_
            refine Qy ?_
            refine Q_q rfl (by simp (disch := first | omega | (simp only [List.length_map, List.length_append, List.length_set, List.length_cons, List.length_nil, List.length_take, List.length_drop]; omega)) only [go_sem, ↓reduceIte, Nat.reduceEqDiff, reduceCtorEq, q0, qs]; rfl) ?_
            refine Qy ?_
            refine Qq ?_
            refine Qy ?_
            refine Qq ?_
            refine Qy ?_
            refine Q_q rfl (by simp (disch := first | omega | (simp only [List.length_map, List.length_append, List.length_set, List.length_cons, List.length_nil, List.length_take, List.length_drop]; omega)) only [go_sem, ↓reduceIte, Nat.reduceEqDiff, reduceCtorEq, q0, qs]; rfl) ?_
            refine Qy ?_
            refine Qq ?_
            refine Qy ?_
            refine Qq ?_
            refine Qy ?_
            refine Qq ?_
            refine Qy ?_
            refine Qq ?_
            refine Qq ?_
            refine Q_nil ?_
            have tr : ∀ y0 y1 y2 y3 y6 y7 y8 y9 y10 y27 y34 y68 z0 z1 z2 z3 z4 z5 z6 z7 z8 z9 z10 z11 z12 z13 z14 z15 z16 z17 z18 z19 z20 z21 z22 z23 z24 z25 : AV, trim [(68, z25), (67, z24), (66, z23), (65, z22), (64, z21), (63, z20), (62, z19), (61, z18), (60, z17), (59, z16), (58, z15), (57, z14), (56, z13), (55, z12), (54, z11), (53, z10), (52, z9), (51, z8), (50, z7), (49, z6), (48, z5), (47, z4), (46, z3), (45, z2), (44, z1), (43, z0), (0, y0), (1, y1), (2, y2), (3, y3), (6, y6), (7, y7), (8, y8), (9, y9), (10, y10), (27, y27), (34, y34), (68, y68)] [(0, y0), (1, y1), (2, y2), (3, y3), (6, y6), (7, y7), (8, y8), (9, y9), (10, y10), (27, y27), (34, y34), (68, y68)] = [(0, y0), (1, y1), (2, y2), (3, y3), (6, y6), (7, y7), (8, y8), (9, y9), (10, y10), (27, y27), (34, y34), (68, z25)] := fun y0 y1 y2 y3 y6 y7 y8 y9 y10 y27 y34 y68 z0 z1 z2 z3 z4 z5 z6 z7 z8 z9 z10 z11 z12 z13 z14 z15 z16 z17 z18 z19 z20 z21 z22 z23 z24 z25 => rfl
            refine R_nil (tr _ _ _ _ _ _ _ _ _ _ _ _ _ _ _ _ _ _ _ _ _ _ _ _ _ _ _ _ _ _ _ _ _ _ _ _ _ _) ?_; clear tr
            refine then_n ?_
            refine cdd (fun h6 => ?_) (fun h6 => ?_)
            · try simp only [decide_eq_true_eq, decide_eq_false_iff_not, Bool.not_eq_true', Bool.not_eq_false', beq_iff_eq, beq_eq_false_iff_ne, ne_eq] at h6
              refine at_seq rfl ?_
              refine rg rfl ?_
              refine Rq ?_
              have tr : ∀ y0 y1 y2 y3 y6 y7 y8 y9 y10 y27 y34 y68 z0 : AV, trim [(6, z0), (0, y0), (1, y1), (2, y2), (3, y3), (6, y6), (7, y7), (8, y8), (9, y9), (10, y10), (27, y27), (34, y34), (68, y68)] [(0, y0), (1, y1), (2, y2), (3, y3), (6, y6), (7, y7), (8, y8), (9, y9), (10, y10), (27, y27), (34, y34), (68, y68)] = [(0, y0), (1, y1), (2, y2), (3, y3), (6, z0), (7, y7), (8, y8), (9, y9), (10, y10), (27, y27), (34, y34), (68, y68)] := fun y0 y1 y2 y3 y6 y7 y8 y9 y10 y27 y34 y68 z0 => rfl
              refine R_nil (tr _ _ _ _ _ _ _ _ _ _ _ _ _) ?_; clear tr
              refine then_n ?_
              refine at_ret rfl ?_
              refine blk_r ?_
              refine then_r ?_
              refine then_r ?_
              refine blk_r ?_
              refine then_r ?_
              refine fpure ?_
              refine ⟨?_, rfl⟩
              first | (rw [bound_no (fun hh => by have hh2 := hh j (by omega) (by omega) (by omega) (by omega) (by omega); omega)]; done) | (rw [bound_yes (fun i hi hs => by first | omega | exact hb i (by omega) hs)]; done)
            · try simp only [decide_eq_true_eq, decide_eq_false_iff_not, Bool.not_eq_true', Bool.not_eq_false', beq_iff_eq, beq_eq_false_iff_ne, ne_eq] at h6
              refine at_skip rfl ?_
              refine blk_n ?_
              refine then_n ?_
              refine rg rfl ?_
              refine Rq ?_
              refine Rq ?_
              refine Rq ?_
              have tr : ∀ y0 y1 y2 y3 y6 y7 y8 y9 y10 y27 y34 y68 z0 z1 z2 : AV, trim [(9, z2), (29, z1), (28, z0), (0, y0), (1, y1), (2, y2), (3, y3), (6, y6), (7, y7), (8, y8), (9, y9), (10, y10), (27, y27), (34, y34), (68, y68)] [(0, y0), (1, y1), (2, y2), (3, y3), (6, y6), (7, y7), (8, y8), (9, y9), (10, y10), (27, y27), (34, y34), (68, y68)] = [(0, y0), (1, y1), (2, y2), (3, y3), (6, y6), (7, y7), (8, y8), (9, z2), (10, y10), (27, y27), (34, y34), (68, y68)] := fun y0 y1 y2 y3 y6 y7 y8 y9 y10 y27 y34 y68 z0 z1 z2 => rfl
              refine R_nil (tr _ _ _ _ _ _ _ _ _ _ _ _ _ _ _) ?_; clear tr
              refine then_n ?_
              exact ⟨_, _, ⟨j + 1, _, _, _, _, _, rfl, rfl, by exact q0, by exact qs, by omega, by exact boundj_step hb (fun hh1 hh2 hh3 hh4 => by first | omega | (exact ⟨by omega, by omega⟩))⟩, by rfl, by omega⟩
        · try simp only [decide_eq_true_eq, decide_eq_false_iff_not, Bool.not_eq_true', Bool.not_eq_false', beq_iff_eq, beq_eq_false_iff_ne, ne_eq] at h4
          refine Qn ?_
          refine Qn ?_
          refine Qn ?_
          refine Qn ?_
          refine Qn ?_
          refine Qn ?_
          refine Qu ?_
          refine Qu ?_
          refine Qu ?_
          refine Qu ?_
          refine Qu ?_
          refine Qu ?_
          refine Qu ?_
          refine Qu ?_
          refine Qu ?_
          refine Qu ?_
          refine Qu ?_
          refine Qu ?_
          refine Qu ?_
          refine Qu ?_
          refine Qu ?_
          refine Qn ?_
          refine Qq ?_
          refine Q_nil ?_
          have tr : ∀ y0 y1 y2 y3 y6 y7 y8 y9 y10 y27 y34 y68 z0 z1 z2 z3 z4 z5 z6 z7 z8 z9 z10 z11 z12 z13 z14 z15 z16 z17 z18 z19 z20 z21 z22 z23 z24 z25 : AV, trim [(68, z25), (67, z24), (66, z23), (65, z22), (64, z21), (63, z20), (62, z19), (61, z18), (60, z17), (59, z16), (58, z15), (57, z14), (56, z13), (55, z12), (54, z11), (53, z10), (52, z9), (51, z8), (50, z7), (49, z6), (48, z5), (47, z4), (46, z3), (45, z2), (44, z1), (43, z0), (0, y0), (1, y1), (2, y2), (3, y3), (6, y6), (7, y7), (8, y8), (9, y9), (10, y10), (27, y27), (34, y34), (68, y68)] [(0, y0), (1, y1), (2, y2), (3, y3), (6, y6), (7, y7), (8, y8), (9, y9), (10, y10), (27, y27), (34, y34), (68, y68)] = [(0, y0), (1, y1), (2, y2), (3, y3), (6, y6), (7, y7), (8, y8), (9, y9), (10, y10), (27, y27), (34, y34), (68, z25)] := fun y0 y1 y2 y3 y6 y7 y8 y9 y10 y27 y34 y68 z0 z1 z2 z3 z4 z5 z6 z7 z8 z9 z10 z11 z12 z13 z14 z15 z16 z17 z18 z19 z20 z21 z22 z23 z24 z25 => rfl
          refine R_nil (tr _ _ _ _ _ _ _ _ _ _ _ _ _ _ _ _ _ _ _ _ _ _ _ _ _ _ _ _ _ _ _ _ _ _ _ _ _ _) ?_; clear tr
          refine then_n ?_
          refine cdf ?_
          refine at_skip rfl ?_
          refine blk_n ?_
          refine then_n ?_
          refine rg rfl ?_
          refine Rq ?_
          refine Rq ?_
          refine Rq ?_
          have tr : ∀ y0 y1 y2 y3 y6 y7 y8 y9 y10 y27 y34 y68 z0 z1 z2 : AV, trim [(9, z2), (29, z1), (28, z0), (0, y0), (1, y1), (2, y2), (3, y3), (6, y6), (7, y7), (8, y8), (9, y9), (10, y10), (27, y27), (34, y34), (68, y68)] [(0, y0), (1, y1), (2, y2), (3, y3), (6, y6), (7, y7), (8, y8), (9, y9), (10, y10), (27, y27), (34, y34), (68, y68)] = [(0, y0), (1, y1), (2, y2), (3, y3), (6, y6), (7, y7), (8, y8), (9, z2), (10, y10), (27, y27), (34, y34), (68, y68)] := fun y0 y1 y2 y3 y6 y7 y8 y9 y10 y27 y34 y68 z0 z1 z2 => rfl
          refine R_nil (tr _ _ _ _ _ _ _ _ _ _ _ _ _ _ _) ?_; clear tr
          refine then_n ?_
          exact ⟨_, _, ⟨j + 1, _, _, _, _, _, rfl, rfl, by exact q0, by exact qs, by omega, by exact boundj_step hb (fun hh1 hh2 hh3 hh4 => by first | omega | (exact ⟨by omega, by omega⟩))⟩, by rfl, by omega⟩
    · try simp only [decide_eq_true_eq, decide_eq_false_iff_not, Bool.not_eq_true', Bool.not_eq_false', beq_iff_eq, beq_eq_false_iff_ne, ne_eq] at h2
      refine at_exit rfl ?_
      refine then_x ?_
      refine then_x ?_
      refine blk_x ?_
      refine then_n ?_
      refine at_seq rfl ?_
      refine rg rfl ?_
      refine Rq ?_
      have tr : ∀ y0 y1 y2 y3 y6 y7 y8 y9 y10 y27 y34 y68 z0 : AV, trim [(6, z0), (0, y0), (1, y1), (2, y2), (3, y3), (6, y6), (7, y7), (8, y8), (9, y9), (10, y10), (27, y27), (34, y34), (68, y68)] [(0, y0), (1, y1), (2, y2), (3, y3), (6, y6), (7, y7), (8, y8), (9, y9), (10, y10), (27, y27), (34, y34), (68, y68)] = [(0, y0), (1, y1), (2, y2), (3, y3), (6, z0), (7, y7), (8, y8), (9, y9), (10, y10), (27, y27), (34, y34), (68, y68)] := fun y0 y1 y2 y3 y6 y7 y8 y9 y10 y27 y34 y68 z0 => rfl
      refine R_nil (tr _ _ _ _ _ _ _ _ _ _ _ _ _) ?_; clear tr
      refine then_n ?_
      refine at_ret rfl ?_
      refine fpure ?_
      refine ⟨?_, rfl⟩
      first | (rw [bound_no (fun hh => by have hh2 := hh j (by omega) (by omega) (by omega) (by omega) (by omega); omega)]; done) | (rw [bound_yes (fun i hi hs => by first | omega | exact hb i (by omega) hs)]; done)
  · try simp only [decide_eq_true_eq, decide_eq_false_iff_not, Bool.not_eq_true', Bool.not_eq_false', beq_iff_eq, beq_eq_false_iff_ne, ne_eq] at h1
    refine Rn ?_
    refine Rn ?_
    refine Rn ?_
    refine Rn ?_
    refine Rn ?_
    refine Rq ?_
    have tr : ∀ y0 y1 y2 y3 y6 y7 y8 y9 y10 y27 y34 y68 z0 z1 z2 z3 z4 z5 z6 z7 z8 z9 z10 z11 : AV, trim [(27, z11), (26, z10), (25, z9), (24, z8), (23, z7), (22, z6), (21, z5), (20, z4), (19, z3), (18, z2), (17, z1), (16, z0), (0, y0), (1, y1), (2, y2), (3, y3), (6, y6), (7, y7), (8, y8), (9, y9), (10, y10), (27, y27), (34, y34), (68, y68)] [(0, y0), (1, y1), (2, y2), (3, y3), (6, y6), (7, y7), (8, y8), (9, y9), (10, y10), (27, y27), (34, y34), (68, y68)] = [(0, y0), (1, y1), (2, y2), (3, y3), (6, y6), (7, y7), (8, y8), (9, y9), (10, y10), (27, z11), (34, y34), (68, y68)] := fun y0 y1 y2 y3 y6 y7 y8 y9 y10 y27 y34 y68 z0 z1 z2 z3 z4 z5 z6 z7 z8 z9 z10 z11 => rfl
    refine R_nil (tr _ _ _ _ _ _ _ _ _ _ _ _ _ _ _ _ _ _ _ _ _ _ _ _) ?_; clear tr
    refine then_n ?_
    refine cdf ?_
    refine at_exit rfl ?_
    refine then_x ?_
    refine then_x ?_
    refine blk_x ?_
    refine then_n ?_
    refine at_seq rfl ?_
    refine rg rfl ?_
    refine Rq ?_
    have tr : ∀ y0 y1 y2 y3 y6 y7 y8 y9 y10 y27 y34 y68 z0 : AV, trim [(6, z0), (0, y0), (1, y1), (2, y2), (3, y3), (6, y6), (7, y7), (8, y8), (9, y9), (10, y10), (27, y27), (34, y34), (68, y68)] [(0, y0), (1, y1), (2, y2), (3, y3), (6, y6), (7, y7), (8, y8), (9, y9), (10, y10), (27, y27), (34, y34), (68, y68)] = [(0, y0), (1, y1), (2, y2), (3, y3), (6, z0), (7, y7), (8, y8), (9, y9), (10, y10), (27, y27), (34, y34), (68, y68)] := fun y0 y1 y2 y3 y6 y7 y8 y9 y10 y27 y34 y68 z0 => rfl
    refine R_nil (tr _ _ _ _ _ _ _ _ _ _ _ _ _) ?_; clear tr
    refine then_n ?_
    refine at_ret rfl ?_
    refine fpure ?_
    refine ⟨?_, rfl⟩
    first | (rw [bound_no (fun hh => by have hh2 := hh j (by omega) (by omega) (by omega) (by omega) (by omega); omega)]; done) | (rw [bound_yes (fun i hi hs => by first | omega | exact hb i (by omega) hs)]; done)

end Go.Proofs.Ytmkalakojfpfgaa
