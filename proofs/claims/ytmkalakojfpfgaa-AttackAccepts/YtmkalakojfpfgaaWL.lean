/-
  Walks of chapter 46. The steps are written by program (walk.py).
-/
import Derived.Test.YtmkalakojfpfgaaWA
import Derived.Test.YtmkalakojfpfgaaWD
import Derived.Test.YtmkalakojfpfgaaRA
import Derived.Test.YtmkalakojfpfgaaQ8
set_option linter.unusedSimpArgs false
set_option linter.unusedVariables false
set_option maxHeartbeats 40000000
set_option maxRecDepth 4000
namespace Go.Proofs.Ytmkalakojfpfgaa
open Go Go.Am

theorem formed_ok (lim : Nat) (H : Heap) (rows : Tb) (q la0 : Int) (g : Good rows q la0) (P : List Int) (hPL : P.length ≤ 9223372036854775807) :
    ACall sig lim 33 [.agg [rowsAV rows, AV.i q, AV.i la0], intsAV P] H fun r H' => r = .v (.bool (formB rows q P)) ∧ H' = H := by
  obtain ⟨g1, g2, g3, g4, g5, g6, g7, g8, g9, g10, g11⟩ := id g
  have hq0 : 0 ≤ q := by omega
  have hnum : stV q (((gt rows 0).length : Int) + 1) (gt rows 0).length = numS q (gt rows 0).length := num_eq g
  have hnb := num_bd g
  refine ACall_pure (fa := fa33) rfl rfl rfl rfl ?_
  have tr : ∀ a0 a1 : AV, env0 fa33.keep [a0, a1] = [(0, a0), (1, a1), (2, .any), (4, .any), (5, .any), (6, .any), (17, .any), (18, .any), (19, .any), (20, .any), (21, .any), (40, .any)] := fun a0 a1 => rfl
  refine W_to (tr _ _) ?_; clear tr
  refine at_seq rfl ?_
  refine rg rfl ?_
  refine R_box rfl (by simp (disch := first | omega | (simp only [List.length_map, List.length_append, List.length_set, List.length_cons, List.length_nil, List.length_take, List.length_drop]; omega)) only [go_sem, ↓reduceIte, Nat.reduceEqDiff, reduceCtorEq]; rfl) rfl rfl ?_
  refine Rq ?_
  have tr : ∀ y0 y1 y2 y4 y5 y6 y17 y18 y19 y20 y21 y40 z0 z1 : AV, trim [(4, z1), (2, z0), (0, y0), (1, y1), (2, y2), (4, y4), (5, y5), (6, y6), (17, y17), (18, y18), (19, y19), (20, y20), (21, y21), (40, y40)] [(0, y0), (1, y1), (2, y2), (4, y4), (5, y5), (6, y6), (17, y17), (18, y18), (19, y19), (20, y20), (21, y21), (40, y40)] = [(0, y0), (1, y1), (2, z0), (4, z1), (5, y5), (6, y6), (17, y17), (18, y18), (19, y19), (20, y20), (21, y21), (40, y40)] := fun y0 y1 y2 y4 y5 y6 y17 y18 y19 y20 y21 y40 z0 z1 => rfl
  refine R_nil (tr _ _ _ _ _ _ _ _ _ _ _ _ _ _) ?_; clear tr
  refine then_n ?_
  refine at_seq rfl ?_
  refine at_seq rfl ?_
  refine rd rfl rfl ?_
  refine Qq ?_
  refine Qq ?_
  refine Qq ?_
  refine Qq ?_
  refine Qq ?_
  refine Qq ?_
  refine Qq ?_
  refine Qq ?_
  refine Qq ?_
  refine Qcall ?_
  refine ACall_eq (states_ok _ _ q (gt rows 0).length (by omega) (by omega) (by omega) (by omega)) ?_
  refine ⟨rfl, ?_⟩
  refine Qq ?_
  refine Q_nil ?_
  have tr : ∀ y0 y1 y2 y4 y5 y6 y17 y18 y19 y20 y21 y40 z0 z1 z2 z3 z4 z5 z6 z7 z8 z9 z10 : AV, trim [(17, z10), (16, z9), (15, z8), (14, z7), (13, z6), (12, z5), (11, z4), (10, z3), (9, z2), (8, z1), (7, z0), (0, y0), (1, y1), (2, y2), (4, y4), (5, y5), (6, y6), (17, y17), (18, y18), (19, y19), (20, y20), (21, y21), (40, y40)] [(0, y0), (1, y1), (2, y2), (4, y4), (5, y5), (6, y6), (17, y17), (18, y18), (19, y19), (20, y20), (21, y21), (40, y40)] = [(0, y0), (1, y1), (2, y2), (4, y4), (5, y5), (6, y6), (17, z10), (18, y18), (19, y19), (20, y20), (21, y21), (40, y40)] := fun y0 y1 y2 y4 y5 y6 y17 y18 y19 y20 y21 y40 z0 z1 z2 z3 z4 z5 z6 z7 z8 z9 z10 => rfl
  refine R_nil (tr _ _ _ _ _ _ _ _ _ _ _ _ _ _ _ _ _ _ _ _ _ _ _) ?_; clear tr
  refine then_n ?_
  refine cdd (fun h1 => ?_) (fun h1 => ?_)
  · try simp only [decide_eq_true_eq, decide_eq_false_iff_not, Bool.not_eq_true', Bool.not_eq_false', beq_iff_eq, beq_eq_false_iff_ne, ne_eq] at h1
    refine at_seq rfl ?_
    refine rg rfl ?_
    refine Rq ?_
    have tr : ∀ y0 y1 y2 y4 y5 y6 y17 y18 y19 y20 y21 y40 z0 : AV, trim [(4, z0), (0, y0), (1, y1), (2, y2), (4, y4), (5, y5), (6, y6), (17, y17), (18, y18), (19, y19), (20, y20), (21, y21), (40, y40)] [(0, y0), (1, y1), (2, y2), (4, y4), (5, y5), (6, y6), (17, y17), (18, y18), (19, y19), (20, y20), (21, y21), (40, y40)] = [(0, y0), (1, y1), (2, y2), (4, z0), (5, y5), (6, y6), (17, y17), (18, y18), (19, y19), (20, y20), (21, y21), (40, y40)] := fun y0 y1 y2 y4 y5 y6 y17 y18 y19 y20 y21 y40 z0 => rfl
    refine R_nil (tr _ _ _ _ _ _ _ _ _ _ _ _ _) ?_; clear tr
    refine then_n ?_
    refine at_ret rfl ?_
    refine then_r ?_
    refine fpure ?_
    refine ⟨?_, rfl⟩
    first | (rw [form_no (fun hh => by have := hh.1; omega)]; done) | (rw [form_no (fun hh => by have := hh.2 u (by omega); unfold FormK at this; omega)]; done) | (rw [form_yes ⟨by omega, fun k hk => hf k (by omega)⟩]; done)
  · try simp only [decide_eq_true_eq, decide_eq_false_iff_not, Bool.not_eq_true', Bool.not_eq_false', beq_iff_eq, beq_eq_false_iff_ne, ne_eq] at h1
    refine at_skip rfl ?_
    refine then_n ?_
    refine at_seq rfl ?_
    refine at_seq rfl ?_
    refine rg rfl ?_
    refine Rq ?_
    refine Rq ?_
    refine Rq ?_
    have tr : ∀ y0 y1 y2 y4 y5 y6 y17 y18 y19 y20 y21 y40 z0 z1 z2 : AV, trim [(20, z2), (19, z1), (18, z0), (0, y0), (1, y1), (2, y2), (4, y4), (5, y5), (6, y6), (17, y17), (18, y18), (19, y19), (20, y20), (21, y21), (40, y40)] [(0, y0), (1, y1), (2, y2), (4, y4), (5, y5), (6, y6), (17, y17), (18, y18), (19, y19), (20, y20), (21, y21), (40, y40)] = [(0, y0), (1, y1), (2, y2), (4, y4), (5, y5), (6, y6), (17, y17), (18, z0), (19, z1), (20, z2), (21, y21), (40, y40)] := fun y0 y1 y2 y4 y5 y6 y17 y18 y19 y20 y21 y40 z0 z1 z2 => rfl
    refine R_nil (tr _ _ _ _ _ _ _ _ _ _ _ _ _ _ _) ?_; clear tr
    refine then_n ?_
    refine at_block rfl ?_
    refine loop_n rfl (fun mm kv H' => ∃ u : Nat, ∃ x4 x5 x6 x21 x40 : AV, (kv = [(4, x4), (5, x5), (6, x6), (20, AV.i u), (21, x21), (40, x40)]) ∧ (mm = P.length - u) ∧ (H' = H ++ [some [rowsAV rows, AV.i q, AV.i la0]]) ∧ (u ≤ P.length) ∧ (∀ k, k < u → FormK rows q P k)) ⟨0, _, _, _, _, _, rfl, rfl, rfl, by omega, by intro k hk; omega⟩ (by rfl) ?_
    rintro mm kv H' ⟨u, x4, x5, x6, x21, x40, rfl, rfl, rfl, hu, hf⟩
    have tr : ∀ y0 y1 y2 y4 y5 y6 y17 y18 y19 y20 y21 y40 z4 z5 z6 z20 z21 z40 : AV, upd [(0, y0), (1, y1), (2, y2), (4, y4), (5, y5), (6, y6), (17, y17), (18, y18), (19, y19), (20, y20), (21, y21), (40, y40)] [(4, z4), (5, z5), (6, z6), (20, z20), (21, z21), (40, z40)] = [(0, y0), (1, y1), (2, y2), (4, z4), (5, z5), (6, z6), (17, y17), (18, y18), (19, y19), (20, z20), (21, z21), (40, z40)] := fun y0 y1 y2 y4 y5 y6 y17 y18 y19 y20 y21 y40 z4 z5 z6 z20 z21 z40 => rfl
    refine W_to (tr _ _ _ _ _ _ _ _ _ _ _ _ _ _ _ _ _ _) ?_; clear tr
    refine at_seq rfl ?_
    refine rg rfl ?_
    refine Rq ?_
    have tr : ∀ y0 y1 y2 y4 y5 y6 y17 y18 y19 y20 y21 y40 z0 : AV, trim [(21, z0), (0, y0), (1, y1), (2, y2), (4, y4), (5, y5), (6, y6), (17, y17), (18, y18), (19, y19), (20, y20), (21, y21), (40, y40)] [(0, y0), (1, y1), (2, y2), (4, y4), (5, y5), (6, y6), (17, y17), (18, y18), (19, y19), (20, y20), (21, y21), (40, y40)] = [(0, y0), (1, y1), (2, y2), (4, y4), (5, y5), (6, y6), (17, y17), (18, y18), (19, y19), (20, y20), (21, z0), (40, y40)] := fun y0 y1 y2 y4 y5 y6 y17 y18 y19 y20 y21 y40 z0 => rfl
    refine R_nil (tr _ _ _ _ _ _ _ _ _ _ _ _ _) ?_; clear tr
    refine then_n ?_
    refine at_seq rfl ?_
    refine cdd (fun h2 => ?_) (fun h2 => ?_)
    · try simp only [decide_eq_true_eq, decide_eq_false_iff_not, Bool.not_eq_true', Bool.not_eq_false', beq_iff_eq, beq_eq_false_iff_ne, ne_eq] at h2
      refine at_skip rfl ?_
      refine then_n ?_
      refine at_seq rfl ?_
      refine at_block rfl ?_
      refine at_seq rfl ?_
      refine rg rfl ?_
      refine Rq ?_
      refine Rq ?_
      refine Rq ?_
      refine Rq ?_
      refine Rq ?_
      have tr : ∀ y0 y1 y2 y4 y5 y6 y17 y18 y19 y20 y21 y40 z0 z1 z2 z3 z4 : AV, trim [(6, z4), (5, z3), (24, z2), (23, z1), (22, z0), (0, y0), (1, y1), (2, y2), (4, y4), (5, y5), (6, y6), (17, y17), (18, y18), (19, y19), (20, y20), (21, y21), (40, y40)] [(0, y0), (1, y1), (2, y2), (4, y4), (5, y5), (6, y6), (17, y17), (18, y18), (19, y19), (20, y20), (21, y21), (40, y40)] = [(0, y0), (1, y1), (2, y2), (4, y4), (5, z3), (6, z4), (17, y17), (18, y18), (19, y19), (20, y20), (21, y21), (40, y40)] := fun y0 y1 y2 y4 y5 y6 y17 y18 y19 y20 y21 y40 z0 z1 z2 z3 z4 => rfl
      refine R_nil (tr _ _ _ _ _ _ _ _ _ _ _ _ _ _ _ _ _) ?_; clear tr
      refine then_n ?_
      refine at_seq rfl ?_
      refine rl rfl rfl ?_
      refine Lq ?_
      refine Lq ?_
      refine Lq ?_
      refine Lp_split (fun h3 => ?_) (fun h3 => ?_)
      · try simp only [decide_eq_true_eq, decide_eq_false_iff_not, Bool.not_eq_true', Bool.not_eq_false', beq_iff_eq, beq_eq_false_iff_ne, ne_eq] at h3
        refine Ln ?_
        refine Ln ?_
        refine Ln ?_
        refine Lu ?_
        refine Lu ?_
        refine Lu ?_
        refine Lu ?_
        refine Lu ?_
        refine L_nil ?_
        refine Ms ?_
        refine Ru ?_
        refine R_end ?_
        refine Ms ?_
        refine Ru ?_
        refine R_end ?_
        refine M_nil ?_
        refine Ru ?_
        refine Rn ?_
        refine Rq ?_
        have tr : ∀ y0 y1 y2 y4 y5 y6 y17 y18 y19 y20 y21 y40 z0 z1 z2 z3 z4 z5 z6 z7 z8 z9 z10 z11 z12 z13 z14 z15 : AV, trim [(40, z15), (39, z14), (38, z13), (34, z12), (33, z11), (37, z10), (36, z9), (35, z8), (32, z7), (31, z6), (30, z5), (29, z4), (28, z3), (27, z2), (26, z1), (25, z0), (0, y0), (1, y1), (2, y2), (4, y4), (5, y5), (6, y6), (17, y17), (18, y18), (19, y19), (20, y20), (21, y21), (40, y40)] [(0, y0), (1, y1), (2, y2), (4, y4), (5, y5), (6, y6), (17, y17), (18, y18), (19, y19), (20, y20), (21, y21), (40, y40)] = [(0, y0), (1, y1), (2, y2), (4, y4), (5, y5), (6, y6), (17, y17), (18, y18), (19, y19), (20, y20), (21, y21), (40, z15)] := fun y0 y1 y2 y4 y5 y6 y17 y18 y19 y20 y21 y40 z0 z1 z2 z3 z4 z5 z6 z7 z8 z9 z10 z11 z12 z13 z14 z15 => rfl
        refine R_nil (tr _ _ _ _ _ _ _ _ _ _ _ _ _ _ _ _ _ _ _ _ _ _ _ _ _ _ _ _) ?_; clear tr
        refine then_n ?_
        refine cdt ?_
        refine at_seq rfl ?_
        refine rg rfl ?_
        refine Rq ?_
        have tr : ∀ y0 y1 y2 y4 y5 y6 y17 y18 y19 y20 y21 y40 z0 : AV, trim [(4, z0), (0, y0), (1, y1), (2, y2), (4, y4), (5, y5), (6, y6), (17, y17), (18, y18), (19, y19), (20, y20), (21, y21), (40, y40)] [(0, y0), (1, y1), (2, y2), (4, y4), (5, y5), (6, y6), (17, y17), (18, y18), (19, y19), (20, y20), (21, y21), (40, y40)] = [(0, y0), (1, y1), (2, y2), (4, z0), (5, y5), (6, y6), (17, y17), (18, y18), (19, y19), (20, y20), (21, y21), (40, y40)] := fun y0 y1 y2 y4 y5 y6 y17 y18 y19 y20 y21 y40 z0 => rfl
        refine R_nil (tr _ _ _ _ _ _ _ _ _ _ _ _ _) ?_; clear tr
        refine then_n ?_
        refine at_ret rfl ?_
        refine blk_r ?_
        refine then_r ?_
        refine then_r ?_
        refine blk_r ?_
        refine then_r ?_
        refine fpure ?_
        refine ⟨?_, rfl⟩
        first | (rw [form_no (fun hh => by have := hh.1; omega)]; done) | (rw [form_no (fun hh => by have := hh.2 u (by omega); unfold FormK at this; omega)]; done) | (rw [form_yes ⟨by omega, fun k hk => hf k (by omega)⟩]; done)
      · try simp only [decide_eq_true_eq, decide_eq_false_iff_not, Bool.not_eq_true', Bool.not_eq_false', beq_iff_eq, beq_eq_false_iff_ne, ne_eq] at h3
        refine Ly ?_
        refine Lq ?_
        refine Ly ?_
        refine Lq ?_
        refine Ly ?_
        refine Lq ?_
        refine Lp_split (fun h4 => ?_) (fun h4 => ?_)
        · try simp only [decide_eq_true_eq, decide_eq_false_iff_not, Bool.not_eq_true', Bool.not_eq_false', beq_iff_eq, beq_eq_false_iff_ne, ne_eq] at h4
          refine Ly ?_
          refine Lq ?_
          refine Ly ?_
          refine Lq ?_
          refine Ly ?_
          refine Lq ?_
          refine Ly ?_
          refine Lq ?_
          refine Ly ?_
          refine Lq ?_
          refine L_nil ?_
          refine Ms ?_
          refine Ry ?_
          refine Rcall ?_
          refine ACall_eq (decoded_ok _ _ rows q la0 g u (by omega) (by omega)) ?_
          refine R_end ?_
          refine Ms ?_
          refine Ry ?_
          refine Rcall ?_
          have st : StOK q (gt rows 0).length (decc q (gt rows 0).length u) (decl (gt rows 0).length u) := dec_st hq0 (by omega)
          refine ACall_eq (over_ok _ _ rows q la0 g (decc q (gt rows 0).length u) (decl (gt rows 0).length u) st _ (.inl rfl)) ?_
          refine R_end ?_
          refine M_nil ?_
          refine Ry ?_
          refine Rq ?_
          refine Ry ?_
          refine Rq ?_
          refine Rq ?_
          have tr : ∀ y0 y1 y2 y4 y5 y6 y17 y18 y19 y20 y21 y40 z0 z1 z2 z3 z4 z5 z6 z7 z8 z9 z10 z11 z12 z13 z14 z15 : AV, trim [(40, z15), (39, z14), (38, z13), (34, z12), (33, z11), (37, z10), (36, z9), (35, z8), (32, z7), (31, z6), (30, z5), (29, z4), (28, z3), (27, z2), (26, z1), (25, z0), (0, y0), (1, y1), (2, y2), (4, y4), (5, y5), (6, y6), (17, y17), (18, y18), (19, y19), (20, y20), (21, y21), (40, y40)] [(0, y0), (1, y1), (2, y2), (4, y4), (5, y5), (6, y6), (17, y17), (18, y18), (19, y19), (20, y20), (21, y21), (40, y40)] = [(0, y0), (1, y1), (2, y2), (4, y4), (5, y5), (6, y6), (17, y17), (18, y18), (19, y19), (20, y20), (21, y21), (40, z15)] := fun y0 y1 y2 y4 y5 y6 y17 y18 y19 y20 y21 y40 z0 z1 z2 z3 z4 z5 z6 z7 z8 z9 z10 z11 z12 z13 z14 z15 => rfl
          refine R_nil (tr _ _ _ _ _ _ _ _ _ _ _ _ _ _ _ _ _ _ _ _ _ _ _ _ _ _ _ _) ?_; clear tr
          refine then_n ?_
          refine cdd (fun h5 => ?_) (fun h5 => ?_)
          · try simp only [decide_eq_true_eq, decide_eq_false_iff_not, Bool.not_eq_true', Bool.not_eq_false', beq_iff_eq, beq_eq_false_iff_ne, ne_eq] at h5
            refine at_seq rfl ?_
            refine rg rfl ?_
            refine Rq ?_
            have tr : ∀ y0 y1 y2 y4 y5 y6 y17 y18 y19 y20 y21 y40 z0 : AV, trim [(4, z0), (0, y0), (1, y1), (2, y2), (4, y4), (5, y5), (6, y6), (17, y17), (18, y18), (19, y19), (20, y20), (21, y21), (40, y40)] [(0, y0), (1, y1), (2, y2), (4, y4), (5, y5), (6, y6), (17, y17), (18, y18), (19, y19), (20, y20), (21, y21), (40, y40)] = [(0, y0), (1, y1), (2, y2), (4, z0), (5, y5), (6, y6), (17, y17), (18, y18), (19, y19), (20, y20), (21, y21), (40, y40)] := fun y0 y1 y2 y4 y5 y6 y17 y18 y19 y20 y21 y40 z0 => rfl
            refine R_nil (tr _ _ _ _ _ _ _ _ _ _ _ _ _) ?_; clear tr
            refine then_n ?_
            refine at_ret rfl ?_
            refine blk_r ?_
            refine then_r ?_
            refine then_r ?_
            refine blk_r ?_
            refine then_r ?_
            refine fpure ?_
            refine ⟨?_, rfl⟩
            first | (rw [form_no (fun hh => by have := hh.1; omega)]; done) | (rw [form_no (fun hh => by have := hh.2 u (by omega); unfold FormK at this; omega)]; done) | (rw [form_yes ⟨by omega, fun k hk => hf k (by omega)⟩]; done)
          · try simp only [decide_eq_true_eq, decide_eq_false_iff_not, Bool.not_eq_true', Bool.not_eq_false', beq_iff_eq, beq_eq_false_iff_ne, ne_eq] at h5
            refine at_skip rfl ?_
            refine blk_n ?_
            refine then_n ?_
            refine rg rfl ?_
            refine Rq ?_
            refine Rq ?_
            have tr : ∀ y0 y1 y2 y4 y5 y6 y17 y18 y19 y20 y21 y40 z0 z1 : AV, trim [(20, z1), (41, z0), (0, y0), (1, y1), (2, y2), (4, y4), (5, y5), (6, y6), (17, y17), (18, y18), (19, y19), (20, y20), (21, y21), (40, y40)] [(0, y0), (1, y1), (2, y2), (4, y4), (5, y5), (6, y6), (17, y17), (18, y18), (19, y19), (20, y20), (21, y21), (40, y40)] = [(0, y0), (1, y1), (2, y2), (4, y4), (5, y5), (6, y6), (17, y17), (18, y18), (19, y19), (20, z1), (21, y21), (40, y40)] := fun y0 y1 y2 y4 y5 y6 y17 y18 y19 y20 y21 y40 z0 z1 => rfl
            refine R_nil (tr _ _ _ _ _ _ _ _ _ _ _ _ _ _) ?_; clear tr
            refine then_n ?_
            exact ⟨_, _, ⟨u + 1, _, _, _, _, _, rfl, rfl, rfl, by omega, by exact form_step hf (by unfold FormK; omega)⟩, by rfl, by omega⟩
        · try simp only [decide_eq_true_eq, decide_eq_false_iff_not, Bool.not_eq_true', Bool.not_eq_false', beq_iff_eq, beq_eq_false_iff_ne, ne_eq] at h4
          refine Ln ?_
          refine Ln ?_
          refine Ln ?_
          refine Ln ?_
          refine Ln ?_
          refine L_nil ?_
          refine Ms ?_
          refine Rn ?_
          refine R_end ?_
          refine Ms ?_
          refine Rn ?_
          refine R_end ?_
          refine M_nil ?_
          refine Rn ?_
          refine Ry ?_
          refine Rq ?_
          refine Rq ?_
          have tr : ∀ y0 y1 y2 y4 y5 y6 y17 y18 y19 y20 y21 y40 z0 z1 z2 z3 z4 z5 z6 z7 z8 z9 z10 z11 z12 z13 z14 z15 : AV, trim [(40, z15), (39, z14), (38, z13), (34, z12), (33, z11), (37, z10), (36, z9), (35, z8), (32, z7), (31, z6), (30, z5), (29, z4), (28, z3), (27, z2), (26, z1), (25, z0), (0, y0), (1, y1), (2, y2), (4, y4), (5, y5), (6, y6), (17, y17), (18, y18), (19, y19), (20, y20), (21, y21), (40, y40)] [(0, y0), (1, y1), (2, y2), (4, y4), (5, y5), (6, y6), (17, y17), (18, y18), (19, y19), (20, y20), (21, y21), (40, y40)] = [(0, y0), (1, y1), (2, y2), (4, y4), (5, y5), (6, y6), (17, y17), (18, y18), (19, y19), (20, y20), (21, y21), (40, z15)] := fun y0 y1 y2 y4 y5 y6 y17 y18 y19 y20 y21 y40 z0 z1 z2 z3 z4 z5 z6 z7 z8 z9 z10 z11 z12 z13 z14 z15 => rfl
          refine R_nil (tr _ _ _ _ _ _ _ _ _ _ _ _ _ _ _ _ _ _ _ _ _ _ _ _ _ _ _ _) ?_; clear tr
          refine then_n ?_
          refine cdf ?_
          refine at_skip rfl ?_
          refine blk_n ?_
          refine then_n ?_
          refine rg rfl ?_
          refine Rq ?_
          refine Rq ?_
          have tr : ∀ y0 y1 y2 y4 y5 y6 y17 y18 y19 y20 y21 y40 z0 z1 : AV, trim [(20, z1), (41, z0), (0, y0), (1, y1), (2, y2), (4, y4), (5, y5), (6, y6), (17, y17), (18, y18), (19, y19), (20, y20), (21, y21), (40, y40)] [(0, y0), (1, y1), (2, y2), (4, y4), (5, y5), (6, y6), (17, y17), (18, y18), (19, y19), (20, y20), (21, y21), (40, y40)] = [(0, y0), (1, y1), (2, y2), (4, y4), (5, y5), (6, y6), (17, y17), (18, y18), (19, y19), (20, z1), (21, y21), (40, y40)] := fun y0 y1 y2 y4 y5 y6 y17 y18 y19 y20 y21 y40 z0 z1 => rfl
          refine R_nil (tr _ _ _ _ _ _ _ _ _ _ _ _ _ _) ?_; clear tr
          refine then_n ?_
          exact ⟨_, _, ⟨u + 1, _, _, _, _, _, rfl, rfl, rfl, by omega, by exact form_step hf (by unfold FormK; omega)⟩, by rfl, by omega⟩
    · try simp only [decide_eq_true_eq, decide_eq_false_iff_not, Bool.not_eq_true', Bool.not_eq_false', beq_iff_eq, beq_eq_false_iff_ne, ne_eq] at h2
      refine at_exit rfl ?_
      refine then_x ?_
      refine then_x ?_
      refine blk_x ?_
      refine then_n ?_
      refine at_seq rfl ?_
      refine rg rfl ?_
      refine Rq ?_
      have tr : ∀ y0 y1 y2 y4 y5 y6 y17 y18 y19 y20 y21 y40 z0 : AV, trim [(4, z0), (0, y0), (1, y1), (2, y2), (4, y4), (5, y5), (6, y6), (17, y17), (18, y18), (19, y19), (20, y20), (21, y21), (40, y40)] [(0, y0), (1, y1), (2, y2), (4, y4), (5, y5), (6, y6), (17, y17), (18, y18), (19, y19), (20, y20), (21, y21), (40, y40)] = [(0, y0), (1, y1), (2, y2), (4, z0), (5, y5), (6, y6), (17, y17), (18, y18), (19, y19), (20, y20), (21, y21), (40, y40)] := fun y0 y1 y2 y4 y5 y6 y17 y18 y19 y20 y21 y40 z0 => rfl
      refine R_nil (tr _ _ _ _ _ _ _ _ _ _ _ _ _) ?_; clear tr
      refine then_n ?_
      refine at_ret rfl ?_
      refine fpure ?_
      refine ⟨?_, rfl⟩
      first | (rw [form_no (fun hh => by have := hh.1; omega)]; done) | (rw [form_no (fun hh => by have := hh.2 u (by omega); unfold FormK at this; omega)]; done) | (rw [form_yes ⟨by omega, fun k hk => hf k (by omega)⟩]; done)

end Go.Proofs.Ytmkalakojfpfgaa
