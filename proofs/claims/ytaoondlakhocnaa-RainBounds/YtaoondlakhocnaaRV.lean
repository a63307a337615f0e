/-
  Walks of chapters 37, 39 and 40. The steps are written by program (walk.py).
-/
import Derived.Test.YtaoondlakhocnaaRO
import Derived.Test.YtaoondlakhocnaaB
set_option linter.unusedSimpArgs false
set_option linter.unusedVariables false
set_option maxHeartbeats 40000000
set_option maxRecDepth 4000
namespace Go.Proofs.Ytaoondlakhocnaa
open Go Go.Am

theorem rbounds_ok (rows : Tb) (per balls : Int) (l : List Stp) : ACall sig 0 11 [.agg [rowsAV rows, AV.i per, AV.i balls, stopsAV l]] [] fun r _ => r = .v (.bool true) := by
  refine ACall_pure (fa := fa11) rfl rfl rfl rfl ?_
  have tr : ∀ a0 : AV, env0 fa11.keep [a0] = [(0, a0), (1, .any), (2, .any), (3, .any), (4, .any), (5, .any), (7, .any), (8, .any), (9, .any), (11, .any), (17, .any), (31, .any), (67, .any), (69, .any), (70, .any), (71, .any), (72, .any), (89, .any)] := fun a0 => rfl
  refine W_to (tr _) ?_; clear tr
  refine at_seq rfl ?_
  refine rg rfl ?_
  refine R_box rfl (by simp (disch := first | omega | (simp only [List.length_map, List.length_append, List.length_set, List.length_cons, List.length_nil, List.length_take, List.length_drop]; omega)) only [go_sem, ↓reduceIte, Nat.reduceEqDiff, reduceCtorEq]; rfl) rfl rfl ?_
  refine Rq ?_
  have tr : ∀ y0 y1 y2 y3 y4 y5 y7 y8 y9 y11 y17 y31 y67 y69 y70 y71 y72 y89 z0 z1 : AV, trim [(2, z1), (1, z0), (0, y0), (1, y1), (2, y2), (3, y3), (4, y4), (5, y5), (7, y7), (8, y8), (9, y9), (11, y11), (17, y17), (31, y31), (67, y67), (69, y69), (70, y70), (71, y71), (72, y72), (89, y89)] [(0, y0), (1, y1), (2, y2), (3, y3), (4, y4), (5, y5), (7, y7), (8, y8), (9, y9), (11, y11), (17, y17), (31, y31), (67, y67), (69, y69), (70, y70), (71, y71), (72, y72), (89, y89)] = [(0, y0), (1, z0), (2, z1), (3, y3), (4, y4), (5, y5), (7, y7), (8, y8), (9, y9), (11, y11), (17, y17), (31, y31), (67, y67), (69, y69), (70, y70), (71, y71), (72, y72), (89, y89)] := fun y0 y1 y2 y3 y4 y5 y7 y8 y9 y11 y17 y31 y67 y69 y70 y71 y72 y89 z0 z1 => rfl
  refine R_nil (tr _ _ _ _ _ _ _ _ _ _ _ _ _ _ _ _ _ _ _ _) ?_; clear tr
  refine then_n ?_
  refine at_seq rfl ?_
  refine at_seq rfl ?_
  refine rg rfl ?_
  refine Rcall ?_
  refine ACall_eval 300 (awake_d _ _ _ _ _) ?_
  refine Rq ?_
  have tr : ∀ y0 y1 y2 y3 y4 y5 y7 y8 y9 y11 y17 y31 y67 y69 y70 y71 y72 y89 z0 z1 : AV, trim [(11, z1), (10, z0), (0, y0), (1, y1), (2, y2), (3, y3), (4, y4), (5, y5), (7, y7), (8, y8), (9, y9), (11, y11), (17, y17), (31, y31), (67, y67), (69, y69), (70, y70), (71, y71), (72, y72), (89, y89)] [(0, y0), (1, y1), (2, y2), (3, y3), (4, y4), (5, y5), (7, y7), (8, y8), (9, y9), (11, y11), (17, y17), (31, y31), (67, y67), (69, y69), (70, y70), (71, y71), (72, y72), (89, y89)] = [(0, y0), (1, y1), (2, y2), (3, y3), (4, y4), (5, y5), (7, y7), (8, y8), (9, y9), (11, z1), (17, y17), (31, y31), (67, y67), (69, y69), (70, y70), (71, y71), (72, y72), (89, y89)] := fun y0 y1 y2 y3 y4 y5 y7 y8 y9 y11 y17 y31 y67 y69 y70 y71 y72 y89 z0 z1 => rfl
  refine R_nil (tr _ _ _ _ _ _ _ _ _ _ _ _ _ _ _ _ _ _ _ _) ?_; clear tr
  refine then_n ?_
  refine cdf ?_
  refine at_skip rfl ?_
  refine then_n ?_
  refine at_seq rfl ?_
  refine at_seq rfl ?_
  refine rg rfl ?_
  refine Rq ?_
  refine Rq ?_
  refine Rq ?_
  refine Rq ?_
  refine Rcall ?_
  refine ACall_mono (small_ok _ _ rows l) ?_
  rintro r H6 ⟨⟨b, rfl⟩, rfl⟩
  refine Rq ?_
  have tr : ∀ y0 y1 y2 y3 y4 y5 y7 y8 y9 y11 y17 y31 y67 y69 y70 y71 y72 y89 z0 z1 z2 z3 z4 z5 : AV, trim [(17, z5), (16, z4), (15, z3), (14, z2), (13, z1), (12, z0), (0, y0), (1, y1), (2, y2), (3, y3), (4, y4), (5, y5), (7, y7), (8, y8), (9, y9), (11, y11), (17, y17), (31, y31), (67, y67), (69, y69), (70, y70), (71, y71), (72, y72), (89, y89)] [(0, y0), (1, y1), (2, y2), (3, y3), (4, y4), (5, y5), (7, y7), (8, y8), (9, y9), (11, y11), (17, y17), (31, y31), (67, y67), (69, y69), (70, y70), (71, y71), (72, y72), (89, y89)] = [(0, y0), (1, y1), (2, y2), (3, y3), (4, y4), (5, y5), (7, y7), (8, y8), (9, y9), (11, y11), (17, z5), (31, y31), (67, y67), (69, y69), (70, y70), (71, y71), (72, y72), (89, y89)] := fun y0 y1 y2 y3 y4 y5 y7 y8 y9 y11 y17 y31 y67 y69 y70 y71 y72 y89 z0 z1 z2 z3 z4 z5 => rfl
  refine R_nil (tr _ _ _ _ _ _ _ _ _ _ _ _ _ _ _ _ _ _ _ _ _ _ _ _) ?_; clear tr
  refine then_n ?_
  refine cdd (fun h1 => ?_) (fun h1 => ?_)
  · try simp only [decide_eq_true_eq, decide_eq_false_iff_not, Bool.not_eq_true', Bool.not_eq_false', beq_iff_eq, beq_eq_false_iff_ne, ne_eq] at h1
    refine at_seq rfl ?_
    refine rg rfl ?_
    refine Rq ?_
    have tr : ∀ y0 y1 y2 y3 y4 y5 y7 y8 y9 y11 y17 y31 y67 y69 y70 y71 y72 y89 z0 : AV, trim [(2, z0), (0, y0), (1, y1), (2, y2), (3, y3), (4, y4), (5, y5), (7, y7), (8, y8), (9, y9), (11, y11), (17, y17), (31, y31), (67, y67), (69, y69), (70, y70), (71, y71), (72, y72), (89, y89)] [(0, y0), (1, y1), (2, y2), (3, y3), (4, y4), (5, y5), (7, y7), (8, y8), (9, y9), (11, y11), (17, y17), (31, y31), (67, y67), (69, y69), (70, y70), (71, y71), (72, y72), (89, y89)] = [(0, y0), (1, y1), (2, z0), (3, y3), (4, y4), (5, y5), (7, y7), (8, y8), (9, y9), (11, y11), (17, y17), (31, y31), (67, y67), (69, y69), (70, y70), (71, y71), (72, y72), (89, y89)] := fun y0 y1 y2 y3 y4 y5 y7 y8 y9 y11 y17 y31 y67 y69 y70 y71 y72 y89 z0 => rfl
    refine R_nil (tr _ _ _ _ _ _ _ _ _ _ _ _ _ _ _ _ _ _ _) ?_; clear tr
    refine then_n ?_
    refine at_ret rfl ?_
    refine then_r ?_
    first | (exfalso; omega) | (exfalso; have := hlost (by omega); omega) | (refine fpure ?_; first | rfl | (rw [hl2]; simp; done) | (have e : lsum rows per l l.length = lsum rows per l u := by { rw [show l.length = u by omega] }; rw [hn, hl1, e]; simp; done) | (simp; done))
  · try simp only [decide_eq_true_eq, decide_eq_false_iff_not, Bool.not_eq_true', Bool.not_eq_false', beq_iff_eq, beq_eq_false_iff_ne, ne_eq] at h1
    refine at_skip rfl ?_
    refine then_n ?_
    refine at_seq rfl ?_
    refine rg rfl ?_
    refine Rq ?_
    refine Rq ?_
    refine Rq ?_
    refine Rq ?_
    refine Rq ?_
    refine Rq ?_
    refine Rq ?_
    refine Rq ?_
    refine Rcall ?_
    refine ACall_eq (left_ok _ _ rows per balls l) ?_
    refine Rq ?_
    refine Rq ?_
    refine Rq ?_
    refine Rq ?_
    refine Rq ?_
    have tr : ∀ y0 y1 y2 y3 y4 y5 y7 y8 y9 y11 y17 y31 y67 y69 y70 y71 y72 y89 z0 z1 z2 z3 z4 z5 z6 z7 z8 z9 z10 z11 z12 z13 : AV, trim [(4, z13), (3, z12), (29, z11), (28, z10), (18, z9), (27, z8), (26, z7), (25, z6), (24, z5), (23, z4), (22, z3), (21, z2), (20, z1), (19, z0), (0, y0), (1, y1), (2, y2), (3, y3), (4, y4), (5, y5), (7, y7), (8, y8), (9, y9), (11, y11), (17, y17), (31, y31), (67, y67), (69, y69), (70, y70), (71, y71), (72, y72), (89, y89)] [(0, y0), (1, y1), (2, y2), (3, y3), (4, y4), (5, y5), (7, y7), (8, y8), (9, y9), (11, y11), (17, y17), (31, y31), (67, y67), (69, y69), (70, y70), (71, y71), (72, y72), (89, y89)] = [(0, y0), (1, y1), (2, y2), (3, z12), (4, z13), (5, y5), (7, y7), (8, y8), (9, y9), (11, y11), (17, y17), (31, y31), (67, y67), (69, y69), (70, y70), (71, y71), (72, y72), (89, y89)] := fun y0 y1 y2 y3 y4 y5 y7 y8 y9 y11 y17 y31 y67 y69 y70 y71 y72 y89 z0 z1 z2 z3 z4 z5 z6 z7 z8 z9 z10 z11 z12 z13 => rfl
    refine R_nil (tr _ _ _ _ _ _ _ _ _ _ _ _ _ _ _ _ _ _ _ _ _ _ _ _ _ _ _ _ _ _ _ _) ?_; clear tr
    refine then_n ?_
    refine at_seq rfl ?_
    refine at_seq rfl ?_
    refine rg rfl ?_
    refine Rq ?_
    refine Rq ?_
    have tr : ∀ y0 y1 y2 y3 y4 y5 y7 y8 y9 y11 y17 y31 y67 y69 y70 y71 y72 y89 z0 z1 : AV, trim [(31, z1), (30, z0), (0, y0), (1, y1), (2, y2), (3, y3), (4, y4), (5, y5), (7, y7), (8, y8), (9, y9), (11, y11), (17, y17), (31, y31), (67, y67), (69, y69), (70, y70), (71, y71), (72, y72), (89, y89)] [(0, y0), (1, y1), (2, y2), (3, y3), (4, y4), (5, y5), (7, y7), (8, y8), (9, y9), (11, y11), (17, y17), (31, y31), (67, y67), (69, y69), (70, y70), (71, y71), (72, y72), (89, y89)] = [(0, y0), (1, y1), (2, y2), (3, y3), (4, y4), (5, y5), (7, y7), (8, y8), (9, y9), (11, y11), (17, y17), (31, z1), (67, y67), (69, y69), (70, y70), (71, y71), (72, y72), (89, y89)] := fun y0 y1 y2 y3 y4 y5 y7 y8 y9 y11 y17 y31 y67 y69 y70 y71 y72 y89 z0 z1 => rfl
    refine R_nil (tr _ _ _ _ _ _ _ _ _ _ _ _ _ _ _ _ _ _ _ _) ?_; clear tr
    refine then_n ?_
    refine cdd (fun h2 => ?_) (fun h2 => ?_)
    · try simp only [decide_eq_true_eq, decide_eq_false_iff_not, Bool.not_eq_true', Bool.not_eq_false', beq_iff_eq, beq_eq_false_iff_ne, ne_eq] at h2
      refine at_seq rfl ?_
      refine rg rfl ?_
      have hle := left_err (by assumption)
      have hl1 : (leftS rows per balls l).1 = 0 := by rw [hle]
      have hl2 : (leftS rows per balls l).2 = chkS rows per balls l := by rw [hle]
      refine Rq ?_
      refine Rq ?_
      refine Rq ?_
      refine Rp_split (fun h3 => ?_) (fun h3 => ?_)
      · try simp only [decide_eq_true_eq, decide_eq_false_iff_not, Bool.not_eq_true', Bool.not_eq_false', beq_iff_eq, beq_eq_false_iff_ne, ne_eq] at h3
        refine Ry ?_
        refine Rq ?_
        refine Ry ?_
        refine Rq ?_
        refine Ry ?_
        refine Rq ?_
        refine Ry ?_
        refine Rq ?_
        refine Ry ?_
        refine Rq ?_
        refine Ry ?_
        refine Rq ?_
        refine Ry ?_
        refine Rq ?_
        refine Ry ?_
        refine Rq ?_
        refine Ry ?_
        refine Rq ?_
        refine Ry ?_
        refine Rcall ?_
        refine ACall_eq (chk_ok _ _ rows per balls l) ?_
        refine Ry ?_
        refine Rq ?_
        refine Rq ?_
        refine Rq ?_
        have tr : ∀ y0 y1 y2 y3 y4 y5 y7 y8 y9 y11 y17 y31 y67 y69 y70 y71 y72 y89 z0 z1 z2 z3 z4 z5 z6 z7 z8 z9 z10 z11 z12 z13 z14 z15 : AV, trim [(2, z15), (46, z14), (45, z13), (44, z12), (43, z11), (42, z10), (41, z9), (40, z8), (39, z7), (38, z6), (37, z5), (36, z4), (35, z3), (34, z2), (33, z1), (32, z0), (0, y0), (1, y1), (2, y2), (3, y3), (4, y4), (5, y5), (7, y7), (8, y8), (9, y9), (11, y11), (17, y17), (31, y31), (67, y67), (69, y69), (70, y70), (71, y71), (72, y72), (89, y89)] [(0, y0), (1, y1), (2, y2), (3, y3), (4, y4), (5, y5), (7, y7), (8, y8), (9, y9), (11, y11), (17, y17), (31, y31), (67, y67), (69, y69), (70, y70), (71, y71), (72, y72), (89, y89)] = [(0, y0), (1, y1), (2, z15), (3, y3), (4, y4), (5, y5), (7, y7), (8, y8), (9, y9), (11, y11), (17, y17), (31, y31), (67, y67), (69, y69), (70, y70), (71, y71), (72, y72), (89, y89)] := fun y0 y1 y2 y3 y4 y5 y7 y8 y9 y11 y17 y31 y67 y69 y70 y71 y72 y89 z0 z1 z2 z3 z4 z5 z6 z7 z8 z9 z10 z11 z12 z13 z14 z15 => rfl
        refine R_nil (tr _ _ _ _ _ _ _ _ _ _ _ _ _ _ _ _ _ _ _ _ _ _ _ _ _ _ _ _ _ _ _ _ _ _) ?_; clear tr
        refine then_n ?_
        refine at_ret rfl ?_
        refine then_r ?_
        first | (exfalso; omega) | (exfalso; have := hlost (by omega); omega) | (refine fpure ?_; first | rfl | (rw [hl2]; simp; done) | (have e : lsum rows per l l.length = lsum rows per l u := by { rw [show l.length = u by omega] }; rw [hn, hl1, e]; simp; done) | (simp; done))
      · try simp only [decide_eq_true_eq, decide_eq_false_iff_not, Bool.not_eq_true', Bool.not_eq_false', beq_iff_eq, beq_eq_false_iff_ne, ne_eq] at h3
        exfalso; omega
    · try simp only [decide_eq_true_eq, decide_eq_false_iff_not, Bool.not_eq_true', Bool.not_eq_false', beq_iff_eq, beq_eq_false_iff_ne, ne_eq] at h2
      refine at_skip rfl ?_
      refine then_n ?_
      refine at_seq rfl ?_
      refine rg rfl ?_
      obtain ⟨c, hle⟩ := left_zero (by assumption : (leftS rows per balls l).2 = 0)
      have hl1 : (leftS rows per balls l).1 = (atS rows per balls 0).1 - lsum rows per l l.length := by rw [hle]
      have hat0 := c.at0
      have hatr := at_range (rows := rows) (per := per) (balls := balls) (w := 0)
      have hpos := c.left_pos
      have hsp := c.lsum_pos l.length (Nat.le_refl _)
      have hmost := c.most
      refine Rq ?_
      refine Rq ?_
      refine Rq ?_
      refine Rq ?_
      refine Rq ?_
      refine Rq ?_
      refine Rcall ?_
      refine ACall_eq (at_ok _ _ rows per balls 0) ?_
      refine Rq ?_
      refine Rq ?_
      refine Rq ?_
      refine Rq ?_
      refine Rq ?_
      have tr : ∀ y0 y1 y2 y3 y4 y5 y7 y8 y9 y11 y17 y31 y67 y69 y70 y71 y72 y89 z0 z1 z2 z3 z4 z5 z6 z7 z8 z9 z10 z11 : AV, trim [(4, z11), (5, z10), (56, z9), (55, z8), (47, z7), (54, z6), (53, z5), (52, z4), (51, z3), (50, z2), (49, z1), (48, z0), (0, y0), (1, y1), (2, y2), (3, y3), (4, y4), (5, y5), (7, y7), (8, y8), (9, y9), (11, y11), (17, y17), (31, y31), (67, y67), (69, y69), (70, y70), (71, y71), (72, y72), (89, y89)] [(0, y0), (1, y1), (2, y2), (3, y3), (4, y4), (5, y5), (7, y7), (8, y8), (9, y9), (11, y11), (17, y17), (31, y31), (67, y67), (69, y69), (70, y70), (71, y71), (72, y72), (89, y89)] = [(0, y0), (1, y1), (2, y2), (3, y3), (4, z11), (5, z10), (7, y7), (8, y8), (9, y9), (11, y11), (17, y17), (31, y31), (67, y67), (69, y69), (70, y70), (71, y71), (72, y72), (89, y89)] := fun y0 y1 y2 y3 y4 y5 y7 y8 y9 y11 y17 y31 y67 y69 y70 y71 y72 y89 z0 z1 z2 z3 z4 z5 z6 z7 z8 z9 z10 z11 => rfl
      refine R_nil (tr _ _ _ _ _ _ _ _ _ _ _ _ _ _ _ _ _ _ _ _ _ _ _ _ _ _ _ _ _ _) ?_; clear tr
      refine then_n ?_
      refine at_seq rfl ?_
      refine at_seq rfl ?_
      refine rg rfl ?_
      refine Rq ?_
      refine Rq ?_
      refine Rq ?_
      refine Rp_split (fun h4 => ?_) (fun h4 => ?_)
      · try simp only [decide_eq_true_eq, decide_eq_false_iff_not, Bool.not_eq_true', Bool.not_eq_false', beq_iff_eq, beq_eq_false_iff_ne, ne_eq] at h4
        exfalso; omega
      · try simp only [decide_eq_true_eq, decide_eq_false_iff_not, Bool.not_eq_true', Bool.not_eq_false', beq_iff_eq, beq_eq_false_iff_ne, ne_eq] at h4
        refine Ry ?_
        refine Rq ?_
        refine Ry ?_
        refine Rq ?_
        refine Rq ?_
        refine Rq ?_
        refine Rp_split (fun h5 => ?_) (fun h5 => ?_)
        · try simp only [decide_eq_true_eq, decide_eq_false_iff_not, Bool.not_eq_true', Bool.not_eq_false', beq_iff_eq, beq_eq_false_iff_ne, ne_eq] at h5
          exfalso; omega
        · try simp only [decide_eq_true_eq, decide_eq_false_iff_not, Bool.not_eq_true', Bool.not_eq_false', beq_iff_eq, beq_eq_false_iff_ne, ne_eq] at h5
          refine Ry ?_
          refine Rq ?_
          refine Ry ?_
          refine Rq ?_
          refine Ry ?_
          refine Rq ?_
          refine Rq ?_
          have tr : ∀ y0 y1 y2 y3 y4 y5 y7 y8 y9 y11 y17 y31 y67 y69 y70 y71 y72 y89 z0 z1 z2 z3 z4 z5 z6 z7 z8 z9 z10 : AV, trim [(67, z10), (66, z9), (65, z8), (64, z7), (63, z6), (62, z5), (61, z4), (60, z3), (59, z2), (58, z1), (57, z0), (0, y0), (1, y1), (2, y2), (3, y3), (4, y4), (5, y5), (7, y7), (8, y8), (9, y9), (11, y11), (17, y17), (31, y31), (67, y67), (69, y69), (70, y70), (71, y71), (72, y72), (89, y89)] [(0, y0), (1, y1), (2, y2), (3, y3), (4, y4), (5, y5), (7, y7), (8, y8), (9, y9), (11, y11), (17, y17), (31, y31), (67, y67), (69, y69), (70, y70), (71, y71), (72, y72), (89, y89)] = [(0, y0), (1, y1), (2, y2), (3, y3), (4, y4), (5, y5), (7, y7), (8, y8), (9, y9), (11, y11), (17, y17), (31, y31), (67, z10), (69, y69), (70, y70), (71, y71), (72, y72), (89, y89)] := fun y0 y1 y2 y3 y4 y5 y7 y8 y9 y11 y17 y31 y67 y69 y70 y71 y72 y89 z0 z1 z2 z3 z4 z5 z6 z7 z8 z9 z10 => rfl
          refine R_nil (tr _ _ _ _ _ _ _ _ _ _ _ _ _ _ _ _ _ _ _ _ _ _ _ _ _ _ _ _ _) ?_; clear tr
          refine then_n ?_
          refine cdd (fun h6 => ?_) (fun h6 => ?_)
          · try simp only [decide_eq_true_eq, decide_eq_false_iff_not, Bool.not_eq_true', Bool.not_eq_false', beq_iff_eq, beq_eq_false_iff_ne, ne_eq] at h6
            refine at_seq rfl ?_
            refine rg rfl ?_
            refine Rq ?_
            have tr : ∀ y0 y1 y2 y3 y4 y5 y7 y8 y9 y11 y17 y31 y67 y69 y70 y71 y72 y89 z0 : AV, trim [(2, z0), (0, y0), (1, y1), (2, y2), (3, y3), (4, y4), (5, y5), (7, y7), (8, y8), (9, y9), (11, y11), (17, y17), (31, y31), (67, y67), (69, y69), (70, y70), (71, y71), (72, y72), (89, y89)] [(0, y0), (1, y1), (2, y2), (3, y3), (4, y4), (5, y5), (7, y7), (8, y8), (9, y9), (11, y11), (17, y17), (31, y31), (67, y67), (69, y69), (70, y70), (71, y71), (72, y72), (89, y89)] = [(0, y0), (1, y1), (2, z0), (3, y3), (4, y4), (5, y5), (7, y7), (8, y8), (9, y9), (11, y11), (17, y17), (31, y31), (67, y67), (69, y69), (70, y70), (71, y71), (72, y72), (89, y89)] := fun y0 y1 y2 y3 y4 y5 y7 y8 y9 y11 y17 y31 y67 y69 y70 y71 y72 y89 z0 => rfl
            refine R_nil (tr _ _ _ _ _ _ _ _ _ _ _ _ _ _ _ _ _ _ _) ?_; clear tr
            refine then_n ?_
            refine at_ret rfl ?_
            refine then_r ?_
            first | (exfalso; omega) | (exfalso; have := hlost (by omega); omega) | (refine fpure ?_; first | rfl | (rw [hl2]; simp; done) | (have e : lsum rows per l l.length = lsum rows per l u := by { rw [show l.length = u by omega] }; rw [hn, hl1, e]; simp; done) | (simp; done))
          · try simp only [decide_eq_true_eq, decide_eq_false_iff_not, Bool.not_eq_true', Bool.not_eq_false', beq_iff_eq, beq_eq_false_iff_ne, ne_eq] at h6
            refine at_skip rfl ?_
            refine then_n ?_
            refine at_seq rfl ?_
            refine at_seq rfl ?_
            refine rg rfl ?_
            refine Rq ?_
            refine Rq ?_
            refine Rq ?_
            refine Rq ?_
            have tr : ∀ y0 y1 y2 y3 y4 y5 y7 y8 y9 y11 y17 y31 y67 y69 y70 y71 y72 y89 z0 z1 z2 z3 : AV, trim [(71, z3), (70, z2), (69, z1), (68, z0), (0, y0), (1, y1), (2, y2), (3, y3), (4, y4), (5, y5), (7, y7), (8, y8), (9, y9), (11, y11), (17, y17), (31, y31), (67, y67), (69, y69), (70, y70), (71, y71), (72, y72), (89, y89)] [(0, y0), (1, y1), (2, y2), (3, y3), (4, y4), (5, y5), (7, y7), (8, y8), (9, y9), (11, y11), (17, y17), (31, y31), (67, y67), (69, y69), (70, y70), (71, y71), (72, y72), (89, y89)] = [(0, y0), (1, y1), (2, y2), (3, y3), (4, y4), (5, y5), (7, y7), (8, y8), (9, y9), (11, y11), (17, y17), (31, y31), (67, y67), (69, z1), (70, z2), (71, z3), (72, y72), (89, y89)] := fun y0 y1 y2 y3 y4 y5 y7 y8 y9 y11 y17 y31 y67 y69 y70 y71 y72 y89 z0 z1 z2 z3 => rfl
            refine R_nil (tr _ _ _ _ _ _ _ _ _ _ _ _ _ _ _ _ _ _ _ _ _ _) ?_; clear tr
            refine then_n ?_
            refine at_block rfl ?_
            refine loop_n rfl (fun mm kv H' => ∃ u : Nat, ∃ n : Int, ∃ X : Heap, ∃ x2 x7 x8 x9 x72 x89 : AV, (kv = [(2, x2), (5, AV.i n), (7, x7), (8, x8), (9, x9), (71, AV.i u), (72, x72), (89, x89)]) ∧ (mm = l.length - u) ∧ (H' = [] ++ [some [rowsAV rows, AV.i per, AV.i balls, stopsAV l]] ++ X) ∧ (u ≤ l.length) ∧ (n = (atS rows per balls 0).1 - lsum rows per l u)) ⟨0, (atS rows per balls 0).1, [], _, _, _, _, _, _, rfl, rfl, by simp, by omega, by simp [lsum]⟩ (by rfl) ?_
            rintro mm kv H1 ⟨u, n, X, x2, x7, x8, x9, x72, x89, rfl, rfl, hX, hu, hn⟩
            have tr : ∀ y0 y1 y2 y3 y4 y5 y7 y8 y9 y11 y17 y31 y67 y69 y70 y71 y72 y89 z2 z5 z7 z8 z9 z71 z72 z89 : AV, upd [(0, y0), (1, y1), (2, y2), (3, y3), (4, y4), (5, y5), (7, y7), (8, y8), (9, y9), (11, y11), (17, y17), (31, y31), (67, y67), (69, y69), (70, y70), (71, y71), (72, y72), (89, y89)] [(2, z2), (5, z5), (7, z7), (8, z8), (9, z9), (71, z71), (72, z72), (89, z89)] = [(0, y0), (1, y1), (2, z2), (3, y3), (4, y4), (5, z5), (7, z7), (8, z8), (9, z9), (11, y11), (17, y17), (31, y31), (67, y67), (69, y69), (70, y70), (71, z71), (72, z72), (89, z89)] := fun y0 y1 y2 y3 y4 y5 y7 y8 y9 y11 y17 y31 y67 y69 y70 y71 y72 y89 z2 z5 z7 z8 z9 z71 z72 z89 => rfl
            refine W_to (tr _ _ _ _ _ _ _ _ _ _ _ _ _ _ _ _ _ _ _ _ _ _ _ _ _ _) ?_; clear tr
            subst hX
            have hlost : u < l.length → (lostS rows per (gt l u)).2 = 0 ∧ 0 ≤ (lostS rows per (gt l u)).1 := fun hh => ⟨by rw [c.lost0 hh], c.lost_pos hh⟩
            refine at_seq rfl ?_
            refine rg rfl ?_
            refine Rq ?_
            have tr : ∀ y0 y1 y2 y3 y4 y5 y7 y8 y9 y11 y17 y31 y67 y69 y70 y71 y72 y89 z0 : AV, trim [(72, z0), (0, y0), (1, y1), (2, y2), (3, y3), (4, y4), (5, y5), (7, y7), (8, y8), (9, y9), (11, y11), (17, y17), (31, y31), (67, y67), (69, y69), (70, y70), (71, y71), (72, y72), (89, y89)] [(0, y0), (1, y1), (2, y2), (3, y3), (4, y4), (5, y5), (7, y7), (8, y8), (9, y9), (11, y11), (17, y17), (31, y31), (67, y67), (69, y69), (70, y70), (71, y71), (72, y72), (89, y89)] = [(0, y0), (1, y1), (2, y2), (3, y3), (4, y4), (5, y5), (7, y7), (8, y8), (9, y9), (11, y11), (17, y17), (31, y31), (67, y67), (69, y69), (70, y70), (71, y71), (72, z0), (89, y89)] := fun y0 y1 y2 y3 y4 y5 y7 y8 y9 y11 y17 y31 y67 y69 y70 y71 y72 y89 z0 => rfl
            refine R_nil (tr _ _ _ _ _ _ _ _ _ _ _ _ _ _ _ _ _ _ _) ?_; clear tr
            refine then_n ?_
            refine at_seq rfl ?_
            refine cdd (fun h7 => ?_) (fun h7 => ?_)
            · try simp only [decide_eq_true_eq, decide_eq_false_iff_not, Bool.not_eq_true', Bool.not_eq_false', beq_iff_eq, beq_eq_false_iff_ne, ne_eq] at h7
              refine at_skip rfl ?_
              refine then_n ?_
              refine at_seq rfl ?_
              refine at_block rfl ?_
              refine at_seq rfl ?_
              refine rg rfl ?_
              refine Rq ?_
              refine Rq ?_
              refine R_alloc (by simp (disch := first | omega | (simp only [List.length_map, List.length_append, List.length_set, List.length_cons, List.length_nil, List.length_take, List.length_drop]; omega)) only [go_sem, ↓reduceIte, Nat.reduceEqDiff, reduceCtorEq]; rfl) rfl (by simp only [List.map_cons, List.map_nil]; rfl) ?_
              refine R_store ty56 (by simp (disch := first | omega | (simp only [List.length_map, List.length_append, List.length_set, List.length_cons, List.length_nil, List.length_take, List.length_drop]; omega)) only [go_sem, ↓reduceIte, Nat.reduceEqDiff, reduceCtorEq]; rfl) (by simp (disch := first | omega | (simp only [List.length_map, List.length_append, List.length_set, List.length_cons, List.length_nil, List.length_take, List.length_drop]; omega)) only [go_sem, ↓reduceIte, Nat.reduceEqDiff, reduceCtorEq]; rfl) (by simp (disch := first | omega | (simp only [List.length_map, List.length_append, List.length_set, List.length_cons, List.length_nil, List.length_take, List.length_drop]; omega)) only [go_sem, ↓reduceIte, Nat.reduceEqDiff, reduceCtorEq]; rfl) (by simp) (by rfl) (by simp (disch := first | omega | (simp only [List.length_map, List.length_append, List.length_set, List.length_cons, List.length_nil, List.length_take, List.length_drop]; omega)) only [go_sem, ↓reduceIte, Nat.reduceEqDiff, reduceCtorEq]; rfl) ?_
              have tr : ∀ y0 y1 y2 y3 y4 y5 y7 y8 y9 y11 y17 y31 y67 y69 y70 y71 y72 y89 z0 z1 z2 : AV, trim [(7, z2), (74, z1), (73, z0), (0, y0), (1, y1), (2, y2), (3, y3), (4, y4), (5, y5), (7, y7), (8, y8), (9, y9), (11, y11), (17, y17), (31, y31), (67, y67), (69, y69), (70, y70), (71, y71), (72, y72), (89, y89)] [(0, y0), (1, y1), (2, y2), (3, y3), (4, y4), (5, y5), (7, y7), (8, y8), (9, y9), (11, y11), (17, y17), (31, y31), (67, y67), (69, y69), (70, y70), (71, y71), (72, y72), (89, y89)] = [(0, y0), (1, y1), (2, y2), (3, y3), (4, y4), (5, y5), (7, z2), (8, y8), (9, y9), (11, y11), (17, y17), (31, y31), (67, y67), (69, y69), (70, y70), (71, y71), (72, y72), (89, y89)] := fun y0 y1 y2 y3 y4 y5 y7 y8 y9 y11 y17 y31 y67 y69 y70 y71 y72 y89 z0 z1 z2 => rfl
              refine R_nil (tr _ _ _ _ _ _ _ _ _ _ _ _ _ _ _ _ _ _ _ _ _) ?_; clear tr
              refine then_n ?_
              refine at_seq rfl ?_
              refine rg rfl ?_
              refine Rq ?_
              refine Rq ?_
              refine Rq ?_
              refine Rq ?_
              refine Rq ?_
              refine Rcall ?_
              refine ACall_eq (lost_ok _ _ rows per (gt l u)) ?_
              refine Rq ?_
              refine Rq ?_
              refine Rq ?_
              refine Rq ?_
              refine Rq ?_
              have tr : ∀ y0 y1 y2 y3 y4 y5 y7 y8 y9 y11 y17 y31 y67 y69 y70 y71 y72 y89 z0 z1 z2 z3 z4 z5 z6 z7 z8 z9 z10 : AV, trim [(9, z10), (8, z9), (83, z8), (82, z7), (75, z6), (81, z5), (80, z4), (79, z3), (78, z2), (77, z1), (76, z0), (0, y0), (1, y1), (2, y2), (3, y3), (4, y4), (5, y5), (7, y7), (8, y8), (9, y9), (11, y11), (17, y17), (31, y31), (67, y67), (69, y69), (70, y70), (71, y71), (72, y72), (89, y89)] [(0, y0), (1, y1), (2, y2), (3, y3), (4, y4), (5, y5), (7, y7), (8, y8), (9, y9), (11, y11), (17, y17), (31, y31), (67, y67), (69, y69), (70, y70), (71, y71), (72, y72), (89, y89)] = [(0, y0), (1, y1), (2, y2), (3, y3), (4, y4), (5, y5), (7, y7), (8, z9), (9, z10), (11, y11), (17, y17), (31, y31), (67, y67), (69, y69), (70, y70), (71, y71), (72, y72), (89, y89)] := fun y0 y1 y2 y3 y4 y5 y7 y8 y9 y11 y17 y31 y67 y69 y70 y71 y72 y89 z0 z1 z2 z3 z4 z5 z6 z7 z8 z9 z10 => rfl
              refine R_nil (tr _ _ _ _ _ _ _ _ _ _ _ _ _ _ _ _ _ _ _ _ _ _ _ _ _ _ _ _ _) ?_; clear tr
              refine then_n ?_
              refine at_seq rfl ?_
              refine at_seq rfl ?_
              refine rg rfl ?_
              refine Rq ?_
              refine Rq ?_
              refine Rq ?_
              refine Rp_split (fun h8 => ?_) (fun h8 => ?_)
              · try simp only [decide_eq_true_eq, decide_eq_false_iff_not, Bool.not_eq_true', Bool.not_eq_false', beq_iff_eq, beq_eq_false_iff_ne, ne_eq] at h8
                exfalso; have := hlost (by omega); omega
              · try simp only [decide_eq_true_eq, decide_eq_false_iff_not, Bool.not_eq_true', Bool.not_eq_false', beq_iff_eq, beq_eq_false_iff_ne, ne_eq] at h8
                refine Ry ?_
                refine Rq ?_
                refine Ry ?_
                refine Rq ?_
                refine Rq ?_
                have tr : ∀ y0 y1 y2 y3 y4 y5 y7 y8 y9 y11 y17 y31 y67 y69 y70 y71 y72 y89 z0 z1 z2 z3 z4 z5 : AV, trim [(89, z5), (88, z4), (87, z3), (86, z2), (85, z1), (84, z0), (0, y0), (1, y1), (2, y2), (3, y3), (4, y4), (5, y5), (7, y7), (8, y8), (9, y9), (11, y11), (17, y17), (31, y31), (67, y67), (69, y69), (70, y70), (71, y71), (72, y72), (89, y89)] [(0, y0), (1, y1), (2, y2), (3, y3), (4, y4), (5, y5), (7, y7), (8, y8), (9, y9), (11, y11), (17, y17), (31, y31), (67, y67), (69, y69), (70, y70), (71, y71), (72, y72), (89, y89)] = [(0, y0), (1, y1), (2, y2), (3, y3), (4, y4), (5, y5), (7, y7), (8, y8), (9, y9), (11, y11), (17, y17), (31, y31), (67, y67), (69, y69), (70, y70), (71, y71), (72, y72), (89, z5)] := fun y0 y1 y2 y3 y4 y5 y7 y8 y9 y11 y17 y31 y67 y69 y70 y71 y72 y89 z0 z1 z2 z3 z4 z5 => rfl
                refine R_nil (tr _ _ _ _ _ _ _ _ _ _ _ _ _ _ _ _ _ _ _ _ _ _ _ _) ?_; clear tr
                refine then_n ?_
                refine cdd (fun h9 => ?_) (fun h9 => ?_)
                · try simp only [decide_eq_true_eq, decide_eq_false_iff_not, Bool.not_eq_true', Bool.not_eq_false', beq_iff_eq, beq_eq_false_iff_ne, ne_eq] at h9
                  refine at_seq rfl ?_
                  refine rg rfl ?_
                  refine Rq ?_
                  have tr : ∀ y0 y1 y2 y3 y4 y5 y7 y8 y9 y11 y17 y31 y67 y69 y70 y71 y72 y89 z0 : AV, trim [(2, z0), (0, y0), (1, y1), (2, y2), (3, y3), (4, y4), (5, y5), (7, y7), (8, y8), (9, y9), (11, y11), (17, y17), (31, y31), (67, y67), (69, y69), (70, y70), (71, y71), (72, y72), (89, y89)] [(0, y0), (1, y1), (2, y2), (3, y3), (4, y4), (5, y5), (7, y7), (8, y8), (9, y9), (11, y11), (17, y17), (31, y31), (67, y67), (69, y69), (70, y70), (71, y71), (72, y72), (89, y89)] = [(0, y0), (1, y1), (2, z0), (3, y3), (4, y4), (5, y5), (7, y7), (8, y8), (9, y9), (11, y11), (17, y17), (31, y31), (67, y67), (69, y69), (70, y70), (71, y71), (72, y72), (89, y89)] := fun y0 y1 y2 y3 y4 y5 y7 y8 y9 y11 y17 y31 y67 y69 y70 y71 y72 y89 z0 => rfl
                  refine R_nil (tr _ _ _ _ _ _ _ _ _ _ _ _ _ _ _ _ _ _ _) ?_; clear tr
                  refine then_n ?_
                  refine at_ret rfl ?_
                  refine then_r ?_
                  refine blk_r ?_
                  refine then_r ?_
                  refine then_r ?_
                  refine blk_r ?_
                  refine then_r ?_
                  first | (exfalso; omega) | (exfalso; have := hlost (by omega); omega) | (refine fpure ?_; first | rfl | (rw [hl2]; simp; done) | (have e : lsum rows per l l.length = lsum rows per l u := by { rw [show l.length = u by omega] }; rw [hn, hl1, e]; simp; done) | (simp; done))
                · try simp only [decide_eq_true_eq, decide_eq_false_iff_not, Bool.not_eq_true', Bool.not_eq_false', beq_iff_eq, beq_eq_false_iff_ne, ne_eq] at h9
                  refine at_skip rfl ?_
                  refine then_n ?_
                  refine rg rfl ?_
                  have hlr := lost_range (rows := rows) (per := per) (s := gt l u)
                  have hls := lsum_range (rows := rows) (per := per) (l := l) u
                  refine Rq ?_
                  refine Rq ?_
                  refine Rq ?_
                  refine Rq ?_
                  have tr : ∀ y0 y1 y2 y3 y4 y5 y7 y8 y9 y11 y17 y31 y67 y69 y70 y71 y72 y89 z0 z1 z2 z3 : AV, trim [(5, z3), (92, z2), (91, z1), (90, z0), (0, y0), (1, y1), (2, y2), (3, y3), (4, y4), (5, y5), (7, y7), (8, y8), (9, y9), (11, y11), (17, y17), (31, y31), (67, y67), (69, y69), (70, y70), (71, y71), (72, y72), (89, y89)] [(0, y0), (1, y1), (2, y2), (3, y3), (4, y4), (5, y5), (7, y7), (8, y8), (9, y9), (11, y11), (17, y17), (31, y31), (67, y67), (69, y69), (70, y70), (71, y71), (72, y72), (89, y89)] = [(0, y0), (1, y1), (2, y2), (3, y3), (4, y4), (5, z3), (7, y7), (8, y8), (9, y9), (11, y11), (17, y17), (31, y31), (67, y67), (69, y69), (70, y70), (71, y71), (72, y72), (89, y89)] := fun y0 y1 y2 y3 y4 y5 y7 y8 y9 y11 y17 y31 y67 y69 y70 y71 y72 y89 z0 z1 z2 z3 => rfl
                  refine R_nil (tr _ _ _ _ _ _ _ _ _ _ _ _ _ _ _ _ _ _ _ _ _ _) ?_; clear tr
                  refine blk_n ?_
                  refine then_n ?_
                  refine rg rfl ?_
                  refine Rq ?_
                  refine Rq ?_
                  have tr : ∀ y0 y1 y2 y3 y4 y5 y7 y8 y9 y11 y17 y31 y67 y69 y70 y71 y72 y89 z0 z1 : AV, trim [(71, z1), (93, z0), (0, y0), (1, y1), (2, y2), (3, y3), (4, y4), (5, y5), (7, y7), (8, y8), (9, y9), (11, y11), (17, y17), (31, y31), (67, y67), (69, y69), (70, y70), (71, y71), (72, y72), (89, y89)] [(0, y0), (1, y1), (2, y2), (3, y3), (4, y4), (5, y5), (7, y7), (8, y8), (9, y9), (11, y11), (17, y17), (31, y31), (67, y67), (69, y69), (70, y70), (71, y71), (72, y72), (89, y89)] = [(0, y0), (1, y1), (2, y2), (3, y3), (4, y4), (5, y5), (7, y7), (8, y8), (9, y9), (11, y11), (17, y17), (31, y31), (67, y67), (69, y69), (70, y70), (71, z1), (72, y72), (89, y89)] := fun y0 y1 y2 y3 y4 y5 y7 y8 y9 y11 y17 y31 y67 y69 y70 y71 y72 y89 z0 z1 => rfl
                  refine R_nil (tr _ _ _ _ _ _ _ _ _ _ _ _ _ _ _ _ _ _ _ _) ?_; clear tr
                  refine then_n ?_
                  have hls2 : lsum rows per l (u + 1) = lsum rows per l u + (lostS rows per (gt l u)).1 := rfl
                  exact ⟨_, _, ⟨u + 1, n - (lostS rows per (gt l u)).1, X ++ [some (stC (gt l u))], _, _, _, _, _, _, rfl, rfl, by simp; rfl, by omega, by omega⟩, by rfl, by omega⟩
            · try simp only [decide_eq_true_eq, decide_eq_false_iff_not, Bool.not_eq_true', Bool.not_eq_false', beq_iff_eq, beq_eq_false_iff_ne, ne_eq] at h7
              refine at_exit rfl ?_
              refine then_x ?_
              refine then_x ?_
              refine blk_x ?_
              refine then_n ?_
              refine at_seq rfl ?_
              refine rg rfl ?_
              refine Rq ?_
              refine Rq ?_
              refine Rq ?_
              refine Rq ?_
              have tr : ∀ y0 y1 y2 y3 y4 y5 y7 y8 y9 y11 y17 y31 y67 y69 y70 y71 y72 y89 z0 z1 z2 z3 : AV, trim [(2, z3), (96, z2), (95, z1), (94, z0), (0, y0), (1, y1), (2, y2), (3, y3), (4, y4), (5, y5), (7, y7), (8, y8), (9, y9), (11, y11), (17, y17), (31, y31), (67, y67), (69, y69), (70, y70), (71, y71), (72, y72), (89, y89)] [(0, y0), (1, y1), (2, y2), (3, y3), (4, y4), (5, y5), (7, y7), (8, y8), (9, y9), (11, y11), (17, y17), (31, y31), (67, y67), (69, y69), (70, y70), (71, y71), (72, y72), (89, y89)] = [(0, y0), (1, y1), (2, z3), (3, y3), (4, y4), (5, y5), (7, y7), (8, y8), (9, y9), (11, y11), (17, y17), (31, y31), (67, y67), (69, y69), (70, y70), (71, y71), (72, y72), (89, y89)] := fun y0 y1 y2 y3 y4 y5 y7 y8 y9 y11 y17 y31 y67 y69 y70 y71 y72 y89 z0 z1 z2 z3 => rfl
              refine R_nil (tr _ _ _ _ _ _ _ _ _ _ _ _ _ _ _ _ _ _ _ _ _ _) ?_; clear tr
              refine then_n ?_
              refine at_ret rfl ?_
              first | (exfalso; omega) | (exfalso; have := hlost (by omega); omega) | (refine fpure ?_; first | rfl | (rw [hl2]; simp; done) | (have e : lsum rows per l l.length = lsum rows per l u := by { rw [show l.length = u by omega] }; rw [hn, hl1, e]; simp; done) | (simp; done))

end Go.Proofs.Ytaoondlakhocnaa
