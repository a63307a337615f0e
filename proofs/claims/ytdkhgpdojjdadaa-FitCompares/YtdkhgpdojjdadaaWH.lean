/-
  Walks of chapter 38. The steps are written by program (walk.py).
-/
import Derived.Test.YtdkhgpdojjdadaaF
set_option linter.unusedSimpArgs false
set_option linter.unusedVariables false
set_option maxHeartbeats 40000000
set_option maxRecDepth 4000
namespace Go.Proofs.Ytdkhgpdojjdadaa
open Go Go.Am

/-- What the walk of a function that reads a table in memory goes by. -/
theorem tab_facts {lim : Nat} {H : Heap} {b : Nat} {bs : Nat → Nat} {l : List (List Int)} {m : Nat} (T : Tab lim H b bs l) (hlen : ∀ i, i < l.length → (gt l i).length = m) :
    (∀ i, i < l.length → ((List.range l.length).map fun i => AV.own 1 (bs i) 0 (gt l i).length)[i]? = some (AV.own 1 (bs i) 0 m)) ∧ (∀ i j, i < l.length → j < m → ((gt l i).map AV.i)[j]? = some (AV.i (gt (gt l i) j))) := by
  refine ⟨fun i hi => ?_, fun i j hi hj => nat_get _ _ _ (by rw [hlen i hi]; exact hj)⟩
  rw [List.getElem?_map, List.getElem?_range hi]
  simp only [Option.map_some]
  rw [hlen i hi]
def m1 (l : List (List Int)) (u w : Nat) : Int := if w + 1 < (gt l u).length then max (gt (gt l u) w) (gt (gt l u) (w + 1)) else gt (gt l u) w
def m2 (l : List (List Int)) (u w : Nat) : Int := if 0 < u then max (m1 l u w) (gt (gt l (u - 1)) w) else m1 l u w
def wantedS (l : List (List Int)) (u w : Nat) : Int := if 0 < u ∧ u + 1 < l.length then max (m2 l u w) ((gt (gt l (u - 1)) w + gt (gt l (u + 1)) w + 1) / 2) else m2 l u w

theorem wanted_ok (lim lm : Nat) (H : Heap) (b : Nat) (bs : Nat → Nat) (l : List (List Int)) (T : Tab lm H b bs l) (m : Nat) (hlen : ∀ i, i < l.length → (gt l i).length = m) (hn : l.length ≤ 91) (hm : m ≤ 10) (hR : InRange l)
    (u w : Nat) (hu : u < l.length) (hw : w < m) :
    ACall sig lim 27 [.own 1 b 0 l.length, AV.i u, AV.i w] H fun r H' => r = AV.i (wantedS l u w) ∧ H' = H := by
  obtain ⟨cu, hcell⟩ := tab_facts T hlen
  have hT := T.outer
  have hrow := T.row
  have hlu := hlen u hu
  refine ACall_pure (fa := fa27) rfl rfl rfl rfl ?_
  have tr : ∀ a0 a1 a2 : AV, env0 fa27.keep [a0, a1, a2] = [(0, a0), (1, a1), (2, a2), (6, .any), (7, .any), (22, .any), (34, .any), (53, .any)] := fun a0 a1 a2 => rfl
  refine W_to (tr _ _ _) ?_; clear tr
  refine at_seq rfl ?_
  refine rg rfl ?_
  refine Rq ?_
  have tr : ∀ y0 y1 y2 y6 y7 y22 y34 y53 z0 : AV, trim [(6, z0), (0, y0), (1, y1), (2, y2), (6, y6), (7, y7), (22, y22), (34, y34), (53, y53)] [(0, y0), (1, y1), (2, y2), (6, y6), (7, y7), (22, y22), (34, y34), (53, y53)] = [(0, y0), (1, y1), (2, y2), (6, z0), (7, y7), (22, y22), (34, y34), (53, y53)] := fun y0 y1 y2 y6 y7 y22 y34 y53 z0 => rfl
  refine R_nil (tr _ _ _ _ _ _ _ _ _) ?_; clear tr
  refine then_n ?_
  refine at_seq rfl ?_
  refine rg rfl ?_
  refine Rq ?_
  refine Rq ?_
  refine Rq ?_
  refine R_q rfl (by simp (disch := first | omega | (simp only [List.length_map, List.length_append, List.length_set, List.length_cons, List.length_nil, List.length_take, List.length_drop]; omega)) only [go_sem, ↓reduceIte, Nat.reduceEqDiff, reduceCtorEq, hT, cu, hrow, hcell]; rfl) ?_
  refine Rq ?_
  refine Rq ?_
  refine R_q rfl (by simp (disch := first | omega | (simp only [List.length_map, List.length_append, List.length_set, List.length_cons, List.length_nil, List.length_take, List.length_drop]; omega)) only [go_sem, ↓reduceIte, Nat.reduceEqDiff, reduceCtorEq, hT, cu, hrow, hcell]; rfl) ?_
  refine Rq ?_
  have tr : ∀ y0 y1 y2 y6 y7 y22 y34 y53 z0 z1 z2 z3 z4 z5 z6 z7 : AV, trim [(7, z7), (14, z6), (13, z5), (12, z4), (11, z3), (10, z2), (9, z1), (8, z0), (0, y0), (1, y1), (2, y2), (6, y6), (7, y7), (22, y22), (34, y34), (53, y53)] [(0, y0), (1, y1), (2, y2), (6, y6), (7, y7), (22, y22), (34, y34), (53, y53)] = [(0, y0), (1, y1), (2, y2), (6, y6), (7, z7), (22, y22), (34, y34), (53, y53)] := fun y0 y1 y2 y6 y7 y22 y34 y53 z0 z1 z2 z3 z4 z5 z6 z7 => rfl
  refine R_nil (tr _ _ _ _ _ _ _ _ _ _ _ _ _ _ _ _) ?_; clear tr
  refine then_n ?_
  refine at_seq rfl ?_
  refine at_seq rfl ?_
  refine rg rfl ?_
  refine Rq ?_
  refine Rq ?_
  refine Rq ?_
  refine Rq ?_
  refine Rq ?_
  refine R_q rfl (by simp (disch := first | omega | (simp only [List.length_map, List.length_append, List.length_set, List.length_cons, List.length_nil, List.length_take, List.length_drop]; omega)) only [go_sem, ↓reduceIte, Nat.reduceEqDiff, reduceCtorEq, hT, cu, hrow, hcell]; rfl) ?_
  refine Rq ?_
  refine Rq ?_
  have tr : ∀ y0 y1 y2 y6 y7 y22 y34 y53 z0 z1 z2 z3 z4 z5 z6 z7 : AV, trim [(22, z7), (21, z6), (20, z5), (19, z4), (18, z3), (17, z2), (16, z1), (15, z0), (0, y0), (1, y1), (2, y2), (6, y6), (7, y7), (22, y22), (34, y34), (53, y53)] [(0, y0), (1, y1), (2, y2), (6, y6), (7, y7), (22, y22), (34, y34), (53, y53)] = [(0, y0), (1, y1), (2, y2), (6, y6), (7, y7), (22, z7), (34, y34), (53, y53)] := fun y0 y1 y2 y6 y7 y22 y34 y53 z0 z1 z2 z3 z4 z5 z6 z7 => rfl
  refine R_nil (tr _ _ _ _ _ _ _ _ _ _ _ _ _ _ _ _) ?_; clear tr
  refine then_n ?_
  refine cdd (fun h1 => ?_) (fun h1 => ?_)
  · try simp only [decide_eq_true_eq, decide_eq_false_iff_not, Bool.not_eq_true', Bool.not_eq_false', beq_iff_eq, beq_eq_false_iff_ne, ne_eq] at h1
    refine rg rfl ?_
    refine Rq ?_
    refine Rq ?_
    refine Rq ?_
    refine Rq ?_
    refine R_q rfl (by simp (disch := first | omega | (simp only [List.length_map, List.length_append, List.length_set, List.length_cons, List.length_nil, List.length_take, List.length_drop]; omega)) only [go_sem, ↓reduceIte, Nat.reduceEqDiff, reduceCtorEq, hT, cu, hrow, hcell]; rfl) ?_
    refine Rq ?_
    refine Rq ?_
    refine Rq ?_
    refine R_q rfl (by simp (disch := first | omega | (simp only [List.length_map, List.length_append, List.length_set, List.length_cons, List.length_nil, List.length_take, List.length_drop]; omega)) only [go_sem, ↓reduceIte, Nat.reduceEqDiff, reduceCtorEq, hT, cu, hrow, hcell]; rfl) ?_
    refine Rq ?_
    refine Rq ?_
    have tr : ∀ y0 y1 y2 y6 y7 y22 y34 y53 z0 z1 z2 z3 z4 z5 z6 z7 z8 z9 z10 : AV, trim [(7, z10), (32, z9), (31, z8), (30, z7), (29, z6), (28, z5), (27, z4), (26, z3), (25, z2), (24, z1), (23, z0), (0, y0), (1, y1), (2, y2), (6, y6), (7, y7), (22, y22), (34, y34), (53, y53)] [(0, y0), (1, y1), (2, y2), (6, y6), (7, y7), (22, y22), (34, y34), (53, y53)] = [(0, y0), (1, y1), (2, y2), (6, y6), (7, z10), (22, y22), (34, y34), (53, y53)] := fun y0 y1 y2 y6 y7 y22 y34 y53 z0 z1 z2 z3 z4 z5 z6 z7 z8 z9 z10 => rfl
    refine R_nil (tr _ _ _ _ _ _ _ _ _ _ _ _ _ _ _ _ _ _ _) ?_; clear tr
    refine then_n ?_
    refine at_seq rfl ?_
    refine at_seq rfl ?_
    refine rg rfl ?_
    refine Rq ?_
    refine Rq ?_
    have tr : ∀ y0 y1 y2 y6 y7 y22 y34 y53 z0 z1 : AV, trim [(34, z1), (33, z0), (0, y0), (1, y1), (2, y2), (6, y6), (7, y7), (22, y22), (34, y34), (53, y53)] [(0, y0), (1, y1), (2, y2), (6, y6), (7, y7), (22, y22), (34, y34), (53, y53)] = [(0, y0), (1, y1), (2, y2), (6, y6), (7, y7), (22, y22), (34, z1), (53, y53)] := fun y0 y1 y2 y6 y7 y22 y34 y53 z0 z1 => rfl
    refine R_nil (tr _ _ _ _ _ _ _ _ _ _) ?_; clear tr
    refine then_n ?_
    refine cdd (fun h2 => ?_) (fun h2 => ?_)
    · try simp only [decide_eq_true_eq, decide_eq_false_iff_not, Bool.not_eq_true', Bool.not_eq_false', beq_iff_eq, beq_eq_false_iff_ne, ne_eq] at h2
      refine rg rfl ?_
      refine Rq ?_
      refine Rq ?_
      refine Rq ?_
      refine Rq ?_
      refine Rq ?_
      refine R_q rfl (by simp (disch := first | omega | (simp only [List.length_map, List.length_append, List.length_set, List.length_cons, List.length_nil, List.length_take, List.length_drop]; omega)) only [go_sem, ↓reduceIte, Nat.reduceEqDiff, reduceCtorEq, hT, cu, hrow, hcell]; rfl) ?_
      refine Rq ?_
      refine Rq ?_
      refine R_q rfl (by simp (disch := first | omega | (simp only [List.length_map, List.length_append, List.length_set, List.length_cons, List.length_nil, List.length_take, List.length_drop]; omega)) only [go_sem, ↓reduceIte, Nat.reduceEqDiff, reduceCtorEq, hT, cu, hrow, hcell]; rfl) ?_
      refine Rq ?_
      refine Rq ?_
      have tr : ∀ y0 y1 y2 y6 y7 y22 y34 y53 z0 z1 z2 z3 z4 z5 z6 z7 z8 z9 z10 : AV, trim [(7, z10), (44, z9), (43, z8), (42, z7), (41, z6), (40, z5), (39, z4), (38, z3), (37, z2), (36, z1), (35, z0), (0, y0), (1, y1), (2, y2), (6, y6), (7, y7), (22, y22), (34, y34), (53, y53)] [(0, y0), (1, y1), (2, y2), (6, y6), (7, y7), (22, y22), (34, y34), (53, y53)] = [(0, y0), (1, y1), (2, y2), (6, y6), (7, z10), (22, y22), (34, y34), (53, y53)] := fun y0 y1 y2 y6 y7 y22 y34 y53 z0 z1 z2 z3 z4 z5 z6 z7 z8 z9 z10 => rfl
      refine R_nil (tr _ _ _ _ _ _ _ _ _ _ _ _ _ _ _ _ _ _ _) ?_; clear tr
      refine then_n ?_
      refine at_seq rfl ?_
      refine at_seq rfl ?_
      refine rg rfl ?_
      refine Rq ?_
      refine Rq ?_
      refine Rq ?_
      refine Rp_split (fun h3 => ?_) (fun h3 => ?_)
      · try simp only [decide_eq_true_eq, decide_eq_false_iff_not, Bool.not_eq_true', Bool.not_eq_false', beq_iff_eq, beq_eq_false_iff_ne, ne_eq] at h3
        refine Ry ?_
        refine Rq ?_
        refine Ry ?_
        refine Rq ?_
        refine Ry ?_
        refine Rq ?_
        refine Ry ?_
        refine Rq ?_
        refine Ry ?_
        refine Rq ?_
        refine Rq ?_
        have tr : ∀ y0 y1 y2 y6 y7 y22 y34 y53 z0 z1 z2 z3 z4 z5 z6 z7 z8 : AV, trim [(53, z8), (52, z7), (51, z6), (50, z5), (49, z4), (48, z3), (47, z2), (46, z1), (45, z0), (0, y0), (1, y1), (2, y2), (6, y6), (7, y7), (22, y22), (34, y34), (53, y53)] [(0, y0), (1, y1), (2, y2), (6, y6), (7, y7), (22, y22), (34, y34), (53, y53)] = [(0, y0), (1, y1), (2, y2), (6, y6), (7, y7), (22, y22), (34, y34), (53, z8)] := fun y0 y1 y2 y6 y7 y22 y34 y53 z0 z1 z2 z3 z4 z5 z6 z7 z8 => rfl
        refine R_nil (tr _ _ _ _ _ _ _ _ _ _ _ _ _ _ _ _ _) ?_; clear tr
        refine then_n ?_
        refine cdd (fun h4 => ?_) (fun h4 => ?_)
        · try simp only [decide_eq_true_eq, decide_eq_false_iff_not, Bool.not_eq_true', Bool.not_eq_false', beq_iff_eq, beq_eq_false_iff_ne, ne_eq] at h4
          refine rd rfl rfl ?_
          have ra : 0 ≤ gt (gt l (u - 1)) w ∧ gt (gt l (u - 1)) w ≤ 10000 := hR _ (by omega) _ (by rw [hlen _ (by omega)]; exact hw)
          have rb : 0 ≤ gt (gt l (u + 1)) w ∧ gt (gt l (u + 1)) w ≤ 10000 := hR _ (by omega) _ (by rw [hlen _ (by omega)]; exact hw)
          refine Qq ?_
          refine Qq ?_
          refine Qq ?_
          refine Qq ?_
          refine Qq ?_
          refine Q_q rfl (by simp (disch := first | omega | (simp only [List.length_map, List.length_append, List.length_set, List.length_cons, List.length_nil, List.length_take, List.length_drop]; omega)) only [go_sem, ↓reduceIte, Nat.reduceEqDiff, reduceCtorEq, hT, cu, hrow, hcell]; rfl) ?_
          refine Qq ?_
          refine Qq ?_
          refine Q_q rfl (by simp (disch := first | omega | (simp only [List.length_map, List.length_append, List.length_set, List.length_cons, List.length_nil, List.length_take, List.length_drop]; omega)) only [go_sem, ↓reduceIte, Nat.reduceEqDiff, reduceCtorEq, hT, cu, hrow, hcell]; rfl) ?_
          refine Qq ?_
          refine Qq ?_
          refine Qq ?_
          refine Qq ?_
          refine Q_q rfl (by simp (disch := first | omega | (simp only [List.length_map, List.length_append, List.length_set, List.length_cons, List.length_nil, List.length_take, List.length_drop]; omega)) only [go_sem, ↓reduceIte, Nat.reduceEqDiff, reduceCtorEq, hT, cu, hrow, hcell]; rfl) ?_
          refine Qq ?_
          refine Qq ?_
          refine Q_q rfl (by simp (disch := first | omega | (simp only [List.length_map, List.length_append, List.length_set, List.length_cons, List.length_nil, List.length_take, List.length_drop]; omega)) only [go_sem, ↓reduceIte, Nat.reduceEqDiff, reduceCtorEq, hT, cu, hrow, hcell]; rfl) ?_
          refine Qq ?_
          refine Qq ?_
          refine Qq ?_
          refine Qq ?_
          refine Qq ?_
          refine Q_nil ?_
          have tr : ∀ y0 y1 y2 y6 y7 y22 y34 y53 z0 z1 z2 z3 z4 z5 z6 z7 z8 z9 z10 z11 z12 z13 z14 z15 z16 z17 z18 z19 z20 z21 : AV, trim [(7, z21), (74, z20), (73, z19), (72, z18), (71, z17), (70, z16), (69, z15), (68, z14), (67, z13), (66, z12), (65, z11), (64, z10), (63, z9), (62, z8), (61, z7), (60, z6), (59, z5), (58, z4), (57, z3), (56, z2), (55, z1), (54, z0), (0, y0), (1, y1), (2, y2), (6, y6), (7, y7), (22, y22), (34, y34), (53, y53)] [(0, y0), (1, y1), (2, y2), (6, y6), (7, y7), (22, y22), (34, y34), (53, y53)] = [(0, y0), (1, y1), (2, y2), (6, y6), (7, z21), (22, y22), (34, y34), (53, y53)] := fun y0 y1 y2 y6 y7 y22 y34 y53 z0 z1 z2 z3 z4 z5 z6 z7 z8 z9 z10 z11 z12 z13 z14 z15 z16 z17 z18 z19 z20 z21 => rfl
          refine R_nil (tr _ _ _ _ _ _ _ _ _ _ _ _ _ _ _ _ _ _ _ _ _ _ _ _ _ _ _ _ _ _) ?_; clear tr
          refine then_n ?_
          refine at_seq rfl ?_
          refine rg rfl ?_
          refine Rq ?_
          refine Rq ?_
          have tr : ∀ y0 y1 y2 y6 y7 y22 y34 y53 z0 z1 : AV, trim [(6, z1), (75, z0), (0, y0), (1, y1), (2, y2), (6, y6), (7, y7), (22, y22), (34, y34), (53, y53)] [(0, y0), (1, y1), (2, y2), (6, y6), (7, y7), (22, y22), (34, y34), (53, y53)] = [(0, y0), (1, y1), (2, y2), (6, z1), (7, y7), (22, y22), (34, y34), (53, y53)] := fun y0 y1 y2 y6 y7 y22 y34 y53 z0 z1 => rfl
          refine R_nil (tr _ _ _ _ _ _ _ _ _ _) ?_; clear tr
          refine then_n ?_
          refine at_ret rfl ?_
          refine fpure ?_
          refine ⟨?_, rfl⟩
          rw [wantedS, m2, m1]
          (repeat' split) <;> first | rfl | (exfalso; omega)
        · try simp only [decide_eq_true_eq, decide_eq_false_iff_not, Bool.not_eq_true', Bool.not_eq_false', beq_iff_eq, beq_eq_false_iff_ne, ne_eq] at h4
          refine at_skip rfl ?_
          refine then_n ?_
          refine at_seq rfl ?_
          refine rg rfl ?_
          refine Rq ?_
          refine Rq ?_
          have tr : ∀ y0 y1 y2 y6 y7 y22 y34 y53 z0 z1 : AV, trim [(6, z1), (75, z0), (0, y0), (1, y1), (2, y2), (6, y6), (7, y7), (22, y22), (34, y34), (53, y53)] [(0, y0), (1, y1), (2, y2), (6, y6), (7, y7), (22, y22), (34, y34), (53, y53)] = [(0, y0), (1, y1), (2, y2), (6, z1), (7, y7), (22, y22), (34, y34), (53, y53)] := fun y0 y1 y2 y6 y7 y22 y34 y53 z0 z1 => rfl
          refine R_nil (tr _ _ _ _ _ _ _ _ _ _) ?_; clear tr
          refine then_n ?_
          refine at_ret rfl ?_
          refine fpure ?_
          refine ⟨?_, rfl⟩
          rw [wantedS, m2, m1]
          (repeat' split) <;> first | rfl | (exfalso; omega)
      · try simp only [decide_eq_true_eq, decide_eq_false_iff_not, Bool.not_eq_true', Bool.not_eq_false', beq_iff_eq, beq_eq_false_iff_ne, ne_eq] at h3
        refine Rn ?_
        refine Rn ?_
        refine Rn ?_
        refine Rn ?_
        refine Rn ?_
        refine Rq ?_
        have tr : ∀ y0 y1 y2 y6 y7 y22 y34 y53 z0 z1 z2 z3 z4 z5 z6 z7 z8 : AV, trim [(53, z8), (52, z7), (51, z6), (50, z5), (49, z4), (48, z3), (47, z2), (46, z1), (45, z0), (0, y0), (1, y1), (2, y2), (6, y6), (7, y7), (22, y22), (34, y34), (53, y53)] [(0, y0), (1, y1), (2, y2), (6, y6), (7, y7), (22, y22), (34, y34), (53, y53)] = [(0, y0), (1, y1), (2, y2), (6, y6), (7, y7), (22, y22), (34, y34), (53, z8)] := fun y0 y1 y2 y6 y7 y22 y34 y53 z0 z1 z2 z3 z4 z5 z6 z7 z8 => rfl
        refine R_nil (tr _ _ _ _ _ _ _ _ _ _ _ _ _ _ _ _ _) ?_; clear tr
        refine then_n ?_
        refine cdf ?_
        refine at_skip rfl ?_
        refine then_n ?_
        refine at_seq rfl ?_
        refine rg rfl ?_
        refine Rq ?_
        refine Rq ?_
        have tr : ∀ y0 y1 y2 y6 y7 y22 y34 y53 z0 z1 : AV, trim [(6, z1), (75, z0), (0, y0), (1, y1), (2, y2), (6, y6), (7, y7), (22, y22), (34, y34), (53, y53)] [(0, y0), (1, y1), (2, y2), (6, y6), (7, y7), (22, y22), (34, y34), (53, y53)] = [(0, y0), (1, y1), (2, y2), (6, z1), (7, y7), (22, y22), (34, y34), (53, y53)] := fun y0 y1 y2 y6 y7 y22 y34 y53 z0 z1 => rfl
        refine R_nil (tr _ _ _ _ _ _ _ _ _ _) ?_; clear tr
        refine then_n ?_
        refine at_ret rfl ?_
        refine fpure ?_
        refine ⟨?_, rfl⟩
        rw [wantedS, m2, m1]
        (repeat' split) <;> first | rfl | (exfalso; omega)
    · try simp only [decide_eq_true_eq, decide_eq_false_iff_not, Bool.not_eq_true', Bool.not_eq_false', beq_iff_eq, beq_eq_false_iff_ne, ne_eq] at h2
      refine at_skip rfl ?_
      refine then_n ?_
      refine at_seq rfl ?_
      refine at_seq rfl ?_
      refine rg rfl ?_
      refine Rq ?_
      refine Rq ?_
      refine Rq ?_
      refine Rp_split (fun h5 => ?_) (fun h5 => ?_)
      · try simp only [decide_eq_true_eq, decide_eq_false_iff_not, Bool.not_eq_true', Bool.not_eq_false', beq_iff_eq, beq_eq_false_iff_ne, ne_eq] at h5
        refine Ry ?_
        refine Rq ?_
        refine Ry ?_
        refine Rq ?_
        refine Ry ?_
        refine Rq ?_
        refine Ry ?_
        refine Rq ?_
        refine Ry ?_
        refine Rq ?_
        refine Rq ?_
        have tr : ∀ y0 y1 y2 y6 y7 y22 y34 y53 z0 z1 z2 z3 z4 z5 z6 z7 z8 : AV, trim [(53, z8), (52, z7), (51, z6), (50, z5), (49, z4), (48, z3), (47, z2), (46, z1), (45, z0), (0, y0), (1, y1), (2, y2), (6, y6), (7, y7), (22, y22), (34, y34), (53, y53)] [(0, y0), (1, y1), (2, y2), (6, y6), (7, y7), (22, y22), (34, y34), (53, y53)] = [(0, y0), (1, y1), (2, y2), (6, y6), (7, y7), (22, y22), (34, y34), (53, z8)] := fun y0 y1 y2 y6 y7 y22 y34 y53 z0 z1 z2 z3 z4 z5 z6 z7 z8 => rfl
        refine R_nil (tr _ _ _ _ _ _ _ _ _ _ _ _ _ _ _ _ _) ?_; clear tr
        refine then_n ?_
        refine cdd (fun h6 => ?_) (fun h6 => ?_)
        · try simp only [decide_eq_true_eq, decide_eq_false_iff_not, Bool.not_eq_true', Bool.not_eq_false', beq_iff_eq, beq_eq_false_iff_ne, ne_eq] at h6
          refine rd rfl rfl ?_
          have ra : 0 ≤ gt (gt l (u - 1)) w ∧ gt (gt l (u - 1)) w ≤ 10000 := hR _ (by omega) _ (by rw [hlen _ (by omega)]; exact hw)
          have rb : 0 ≤ gt (gt l (u + 1)) w ∧ gt (gt l (u + 1)) w ≤ 10000 := hR _ (by omega) _ (by rw [hlen _ (by omega)]; exact hw)
          refine Qq ?_
          refine Qq ?_
          refine Qq ?_
          refine Qq ?_
          refine Qq ?_
          refine Q_q rfl (by simp (disch := first | omega | (simp only [List.length_map, List.length_append, List.length_set, List.length_cons, List.length_nil, List.length_take, List.length_drop]; omega)) only [go_sem, ↓reduceIte, Nat.reduceEqDiff, reduceCtorEq, hT, cu, hrow, hcell]; rfl) ?_
          refine Qq ?_
          refine Qq ?_
          refine Q_q rfl (by simp (disch := first | omega | (simp only [List.length_map, List.length_append, List.length_set, List.length_cons, List.length_nil, List.length_take, List.length_drop]; omega)) only [go_sem, ↓reduceIte, Nat.reduceEqDiff, reduceCtorEq, hT, cu, hrow, hcell]; rfl) ?_
          refine Qq ?_
          refine Qq ?_
          refine Qq ?_
          refine Qq ?_
          refine Q_q rfl (by simp (disch := first | omega | (simp only [List.length_map, List.length_append, List.length_set, List.length_cons, List.length_nil, List.length_take, List.length_drop]; omega)) only [go_sem, ↓reduceIte, Nat.reduceEqDiff, reduceCtorEq, hT, cu, hrow, hcell]; rfl) ?_
          refine Qq ?_
          refine Qq ?_
          refine Q_q rfl (by simp (disch := first | omega | (simp only [List.length_map, List.length_append, List.length_set, List.length_cons, List.length_nil, List.length_take, List.length_drop]; omega)) only [go_sem, ↓reduceIte, Nat.reduceEqDiff, reduceCtorEq, hT, cu, hrow, hcell]; rfl) ?_
          refine Qq ?_
          refine Qq ?_
          refine Qq ?_
          refine Qq ?_
          refine Qq ?_
          refine Q_nil ?_
          have tr : ∀ y0 y1 y2 y6 y7 y22 y34 y53 z0 z1 z2 z3 z4 z5 z6 z7 z8 z9 z10 z11 z12 z13 z14 z15 z16 z17 z18 z19 z20 z21 : AV, trim [(7, z21), (74, z20), (73, z19), (72, z18), (71, z17), (70, z16), (69, z15), (68, z14), (67, z13), (66, z12), (65, z11), (64, z10), (63, z9), (62, z8), (61, z7), (60, z6), (59, z5), (58, z4), (57, z3), (56, z2), (55, z1), (54, z0), (0, y0), (1, y1), (2, y2), (6, y6), (7, y7), (22, y22), (34, y34), (53, y53)] [(0, y0), (1, y1), (2, y2), (6, y6), (7, y7), (22, y22), (34, y34), (53, y53)] = [(0, y0), (1, y1), (2, y2), (6, y6), (7, z21), (22, y22), (34, y34), (53, y53)] := fun y0 y1 y2 y6 y7 y22 y34 y53 z0 z1 z2 z3 z4 z5 z6 z7 z8 z9 z10 z11 z12 z13 z14 z15 z16 z17 z18 z19 z20 z21 => rfl
          refine R_nil (tr _ _ _ _ _ _ _ _ _ _ _ _ _ _ _ _ _ _ _ _ _ _ _ _ _ _ _ _ _ _) ?_; clear tr
          refine then_n ?_
          refine at_seq rfl ?_
          refine rg rfl ?_
          refine Rq ?_
          refine Rq ?_
          have tr : ∀ y0 y1 y2 y6 y7 y22 y34 y53 z0 z1 : AV, trim [(6, z1), (75, z0), (0, y0), (1, y1), (2, y2), (6, y6), (7, y7), (22, y22), (34, y34), (53, y53)] [(0, y0), (1, y1), (2, y2), (6, y6), (7, y7), (22, y22), (34, y34), (53, y53)] = [(0, y0), (1, y1), (2, y2), (6, z1), (7, y7), (22, y22), (34, y34), (53, y53)] := fun y0 y1 y2 y6 y7 y22 y34 y53 z0 z1 => rfl
          refine R_nil (tr _ _ _ _ _ _ _ _ _ _) ?_; clear tr
          refine then_n ?_
          refine at_ret rfl ?_
          refine fpure ?_
          refine ⟨?_, rfl⟩
          rw [wantedS, m2, m1]
          (repeat' split) <;> first | rfl | (exfalso; omega)
        · try simp only [decide_eq_true_eq, decide_eq_false_iff_not, Bool.not_eq_true', Bool.not_eq_false', beq_iff_eq, beq_eq_false_iff_ne, ne_eq] at h6
          refine at_skip rfl ?_
          refine then_n ?_
          refine at_seq rfl ?_
          refine rg rfl ?_
          refine Rq ?_
          refine Rq ?_
          have tr : ∀ y0 y1 y2 y6 y7 y22 y34 y53 z0 z1 : AV, trim [(6, z1), (75, z0), (0, y0), (1, y1), (2, y2), (6, y6), (7, y7), (22, y22), (34, y34), (53, y53)] [(0, y0), (1, y1), (2, y2), (6, y6), (7, y7), (22, y22), (34, y34), (53, y53)] = [(0, y0), (1, y1), (2, y2), (6, z1), (7, y7), (22, y22), (34, y34), (53, y53)] := fun y0 y1 y2 y6 y7 y22 y34 y53 z0 z1 => rfl
          refine R_nil (tr _ _ _ _ _ _ _ _ _ _) ?_; clear tr
          refine then_n ?_
          refine at_ret rfl ?_
          refine fpure ?_
          refine ⟨?_, rfl⟩
          rw [wantedS, m2, m1]
          (repeat' split) <;> first | rfl | (exfalso; omega)
      · try simp only [decide_eq_true_eq, decide_eq_false_iff_not, Bool.not_eq_true', Bool.not_eq_false', beq_iff_eq, beq_eq_false_iff_ne, ne_eq] at h5
        refine Rn ?_
        refine Rn ?_
        refine Rn ?_
        refine Rn ?_
        refine Rn ?_
        refine Rq ?_
        have tr : ∀ y0 y1 y2 y6 y7 y22 y34 y53 z0 z1 z2 z3 z4 z5 z6 z7 z8 : AV, trim [(53, z8), (52, z7), (51, z6), (50, z5), (49, z4), (48, z3), (47, z2), (46, z1), (45, z0), (0, y0), (1, y1), (2, y2), (6, y6), (7, y7), (22, y22), (34, y34), (53, y53)] [(0, y0), (1, y1), (2, y2), (6, y6), (7, y7), (22, y22), (34, y34), (53, y53)] = [(0, y0), (1, y1), (2, y2), (6, y6), (7, y7), (22, y22), (34, y34), (53, z8)] := fun y0 y1 y2 y6 y7 y22 y34 y53 z0 z1 z2 z3 z4 z5 z6 z7 z8 => rfl
        refine R_nil (tr _ _ _ _ _ _ _ _ _ _ _ _ _ _ _ _ _) ?_; clear tr
        refine then_n ?_
        refine cdf ?_
        refine at_skip rfl ?_
        refine then_n ?_
        refine at_seq rfl ?_
        refine rg rfl ?_
        refine Rq ?_
        refine Rq ?_
        have tr : ∀ y0 y1 y2 y6 y7 y22 y34 y53 z0 z1 : AV, trim [(6, z1), (75, z0), (0, y0), (1, y1), (2, y2), (6, y6), (7, y7), (22, y22), (34, y34), (53, y53)] [(0, y0), (1, y1), (2, y2), (6, y6), (7, y7), (22, y22), (34, y34), (53, y53)] = [(0, y0), (1, y1), (2, y2), (6, z1), (7, y7), (22, y22), (34, y34), (53, y53)] := fun y0 y1 y2 y6 y7 y22 y34 y53 z0 z1 => rfl
        refine R_nil (tr _ _ _ _ _ _ _ _ _ _) ?_; clear tr
        refine then_n ?_
        refine at_ret rfl ?_
        refine fpure ?_
        refine ⟨?_, rfl⟩
        rw [wantedS, m2, m1]
        (repeat' split) <;> first | rfl | (exfalso; omega)
  · try simp only [decide_eq_true_eq, decide_eq_false_iff_not, Bool.not_eq_true', Bool.not_eq_false', beq_iff_eq, beq_eq_false_iff_ne, ne_eq] at h1
    refine at_skip rfl ?_
    refine then_n ?_
    refine at_seq rfl ?_
    refine at_seq rfl ?_
    refine rg rfl ?_
    refine Rq ?_
    refine Rq ?_
    have tr : ∀ y0 y1 y2 y6 y7 y22 y34 y53 z0 z1 : AV, trim [(34, z1), (33, z0), (0, y0), (1, y1), (2, y2), (6, y6), (7, y7), (22, y22), (34, y34), (53, y53)] [(0, y0), (1, y1), (2, y2), (6, y6), (7, y7), (22, y22), (34, y34), (53, y53)] = [(0, y0), (1, y1), (2, y2), (6, y6), (7, y7), (22, y22), (34, z1), (53, y53)] := fun y0 y1 y2 y6 y7 y22 y34 y53 z0 z1 => rfl
    refine R_nil (tr _ _ _ _ _ _ _ _ _ _) ?_; clear tr
    refine then_n ?_
    refine cdd (fun h7 => ?_) (fun h7 => ?_)
    · try simp only [decide_eq_true_eq, decide_eq_false_iff_not, Bool.not_eq_true', Bool.not_eq_false', beq_iff_eq, beq_eq_false_iff_ne, ne_eq] at h7
      refine rg rfl ?_
      refine Rq ?_
      refine Rq ?_
      refine Rq ?_
      refine Rq ?_
      refine Rq ?_
      refine R_q rfl (by simp (disch := first | omega | (simp only [List.length_map, List.length_append, List.length_set, List.length_cons, List.length_nil, List.length_take, List.length_drop]; omega)) only [go_sem, ↓reduceIte, Nat.reduceEqDiff, reduceCtorEq, hT, cu, hrow, hcell]; rfl) ?_
      refine Rq ?_
      refine Rq ?_
      refine R_q rfl (by simp (disch := first | omega | (simp only [List.length_map, List.length_append, List.length_set, List.length_cons, List.length_nil, List.length_take, List.length_drop]; omega)) only [go_sem, ↓reduceIte, Nat.reduceEqDiff, reduceCtorEq, hT, cu, hrow, hcell]; rfl) ?_
      refine Rq ?_
      refine Rq ?_
      have tr : ∀ y0 y1 y2 y6 y7 y22 y34 y53 z0 z1 z2 z3 z4 z5 z6 z7 z8 z9 z10 : AV, trim [(7, z10), (44, z9), (43, z8), (42, z7), (41, z6), (40, z5), (39, z4), (38, z3), (37, z2), (36, z1), (35, z0), (0, y0), (1, y1), (2, y2), (6, y6), (7, y7), (22, y22), (34, y34), (53, y53)] [(0, y0), (1, y1), (2, y2), (6, y6), (7, y7), (22, y22), (34, y34), (53, y53)] = [(0, y0), (1, y1), (2, y2), (6, y6), (7, z10), (22, y22), (34, y34), (53, y53)] := fun y0 y1 y2 y6 y7 y22 y34 y53 z0 z1 z2 z3 z4 z5 z6 z7 z8 z9 z10 => rfl
      refine R_nil (tr _ _ _ _ _ _ _ _ _ _ _ _ _ _ _ _ _ _ _) ?_; clear tr
      refine then_n ?_
      refine at_seq rfl ?_
      refine at_seq rfl ?_
      refine rg rfl ?_
      refine Rq ?_
      refine Rq ?_
      refine Rq ?_
      refine Rp_split (fun h8 => ?_) (fun h8 => ?_)
      · try simp only [decide_eq_true_eq, decide_eq_false_iff_not, Bool.not_eq_true', Bool.not_eq_false', beq_iff_eq, beq_eq_false_iff_ne, ne_eq] at h8
        refine Ry ?_
        refine Rq ?_
        refine Ry ?_
        refine Rq ?_
        refine Ry ?_
        refine Rq ?_
        refine Ry ?_
        refine Rq ?_
        refine Ry ?_
        refine Rq ?_
        refine Rq ?_
        have tr : ∀ y0 y1 y2 y6 y7 y22 y34 y53 z0 z1 z2 z3 z4 z5 z6 z7 z8 : AV, trim [(53, z8), (52, z7), (51, z6), (50, z5), (49, z4), (48, z3), (47, z2), (46, z1), (45, z0), (0, y0), (1, y1), (2, y2), (6, y6), (7, y7), (22, y22), (34, y34), (53, y53)] [(0, y0), (1, y1), (2, y2), (6, y6), (7, y7), (22, y22), (34, y34), (53, y53)] = [(0, y0), (1, y1), (2, y2), (6, y6), (7, y7), (22, y22), (34, y34), (53, z8)] := fun y0 y1 y2 y6 y7 y22 y34 y53 z0 z1 z2 z3 z4 z5 z6 z7 z8 => rfl
        refine R_nil (tr _ _ _ _ _ _ _ _ _ _ _ _ _ _ _ _ _) ?_; clear tr
        refine then_n ?_
        refine cdd (fun h9 => ?_) (fun h9 => ?_)
        · try simp only [decide_eq_true_eq, decide_eq_false_iff_not, Bool.not_eq_true', Bool.not_eq_false', beq_iff_eq, beq_eq_false_iff_ne, ne_eq] at h9
          refine rd rfl rfl ?_
          have ra : 0 ≤ gt (gt l (u - 1)) w ∧ gt (gt l (u - 1)) w ≤ 10000 := hR _ (by omega) _ (by rw [hlen _ (by omega)]; exact hw)
          have rb : 0 ≤ gt (gt l (u + 1)) w ∧ gt (gt l (u + 1)) w ≤ 10000 := hR _ (by omega) _ (by rw [hlen _ (by omega)]; exact hw)
          refine Qq ?_
          refine Qq ?_
          refine Qq ?_
          refine Qq ?_
          refine Qq ?_
          refine Q_q rfl (by simp (disch := first | omega | (simp only [List.length_map, List.length_append, List.length_set, List.length_cons, List.length_nil, List.length_take, List.length_drop]; omega)) only [go_sem, ↓reduceIte, Nat.reduceEqDiff, reduceCtorEq, hT, cu, hrow, hcell]; rfl) ?_
          refine Qq ?_
          refine Qq ?_
          refine Q_q rfl (by simp (disch := first | omega | (simp only [List.length_map, List.length_append, List.length_set, List.length_cons, List.length_nil, List.length_take, List.length_drop]; omega)) only [go_sem, ↓reduceIte, Nat.reduceEqDiff, reduceCtorEq, hT, cu, hrow, hcell]; rfl) ?_
          refine Qq ?_
          refine Qq ?_
          refine Qq ?_
          refine Qq ?_
          refine Q_q rfl (by simp (disch := first | omega | (simp only [List.length_map, List.length_append, List.length_set, List.length_cons, List.length_nil, List.length_take, List.length_drop]; omega)) only [go_sem, ↓reduceIte, Nat.reduceEqDiff, reduceCtorEq, hT, cu, hrow, hcell]; rfl) ?_
          refine Qq ?_
          refine Qq ?_
          refine Q_q rfl (by simp (disch := first | omega | (simp only [List.length_map, List.length_append, List.length_set, List.length_cons, List.length_nil, List.length_take, List.length_drop]; omega)) only [go_sem, ↓reduceIte, Nat.reduceEqDiff, reduceCtorEq, hT, cu, hrow, hcell]; rfl) ?_
          refine Qq ?_
          refine Qq ?_
          refine Qq ?_
          refine Qq ?_
          refine Qq ?_
          refine Q_nil ?_
          have tr : ∀ y0 y1 y2 y6 y7 y22 y34 y53 z0 z1 z2 z3 z4 z5 z6 z7 z8 z9 z10 z11 z12 z13 z14 z15 z16 z17 z18 z19 z20 z21 : AV, trim [(7, z21), (74, z20), (73, z19), (72, z18), (71, z17), (70, z16), (69, z15), (68, z14), (67, z13), (66, z12), (65, z11), (64, z10), (63, z9), (62, z8), (61, z7), (60, z6), (59, z5), (58, z4), (57, z3), (56, z2), (55, z1), (54, z0), (0, y0), (1, y1), (2, y2), (6, y6), (7, y7), (22, y22), (34, y34), (53, y53)] [(0, y0), (1, y1), (2, y2), (6, y6), (7, y7), (22, y22), (34, y34), (53, y53)] = [(0, y0), (1, y1), (2, y2), (6, y6), (7, z21), (22, y22), (34, y34), (53, y53)] := fun y0 y1 y2 y6 y7 y22 y34 y53 z0 z1 z2 z3 z4 z5 z6 z7 z8 z9 z10 z11 z12 z13 z14 z15 z16 z17 z18 z19 z20 z21 => rfl
          refine R_nil (tr _ _ _ _ _ _ _ _ _ _ _ _ _ _ _ _ _ _ _ _ _ _ _ _ _ _ _ _ _ _) ?_; clear tr
          refine then_n ?_
          refine at_seq rfl ?_
          refine rg rfl ?_
          refine Rq ?_
          refine Rq ?_
          have tr : ∀ y0 y1 y2 y6 y7 y22 y34 y53 z0 z1 : AV, trim [(6, z1), (75, z0), (0, y0), (1, y1), (2, y2), (6, y6), (7, y7), (22, y22), (34, y34), (53, y53)] [(0, y0), (1, y1), (2, y2), (6, y6), (7, y7), (22, y22), (34, y34), (53, y53)] = [(0, y0), (1, y1), (2, y2), (6, z1), (7, y7), (22, y22), (34, y34), (53, y53)] := fun y0 y1 y2 y6 y7 y22 y34 y53 z0 z1 => rfl
          refine R_nil (tr _ _ _ _ _ _ _ _ _ _) ?_; clear tr
          refine then_n ?_
          refine at_ret rfl ?_
          refine fpure ?_
          refine ⟨?_, rfl⟩
          rw [wantedS, m2, m1]
          (repeat' split) <;> first | rfl | (exfalso; omega)
        · try simp only [decide_eq_true_eq, decide_eq_false_iff_not, Bool.not_eq_true', Bool.not_eq_false', beq_iff_eq, beq_eq_false_iff_ne, ne_eq] at h9
          refine at_skip rfl ?_
          refine then_n ?_
          refine at_seq rfl ?_
          refine rg rfl ?_
          refine Rq ?_
          refine Rq ?_
          have tr : ∀ y0 y1 y2 y6 y7 y22 y34 y53 z0 z1 : AV, trim [(6, z1), (75, z0), (0, y0), (1, y1), (2, y2), (6, y6), (7, y7), (22, y22), (34, y34), (53, y53)] [(0, y0), (1, y1), (2, y2), (6, y6), (7, y7), (22, y22), (34, y34), (53, y53)] = [(0, y0), (1, y1), (2, y2), (6, z1), (7, y7), (22, y22), (34, y34), (53, y53)] := fun y0 y1 y2 y6 y7 y22 y34 y53 z0 z1 => rfl
          refine R_nil (tr _ _ _ _ _ _ _ _ _ _) ?_; clear tr
          refine then_n ?_
          refine at_ret rfl ?_
          refine fpure ?_
          refine ⟨?_, rfl⟩
          rw [wantedS, m2, m1]
          (repeat' split) <;> first | rfl | (exfalso; omega)
      · try simp only [decide_eq_true_eq, decide_eq_false_iff_not, Bool.not_eq_true', Bool.not_eq_false', beq_iff_eq, beq_eq_false_iff_ne, ne_eq] at h8
        refine Rn ?_
        refine Rn ?_
        refine Rn ?_
        refine Rn ?_
        refine Rn ?_
        refine Rq ?_
        have tr : ∀ y0 y1 y2 y6 y7 y22 y34 y53 z0 z1 z2 z3 z4 z5 z6 z7 z8 : AV, trim [(53, z8), (52, z7), (51, z6), (50, z5), (49, z4), (48, z3), (47, z2), (46, z1), (45, z0), (0, y0), (1, y1), (2, y2), (6, y6), (7, y7), (22, y22), (34, y34), (53, y53)] [(0, y0), (1, y1), (2, y2), (6, y6), (7, y7), (22, y22), (34, y34), (53, y53)] = [(0, y0), (1, y1), (2, y2), (6, y6), (7, y7), (22, y22), (34, y34), (53, z8)] := fun y0 y1 y2 y6 y7 y22 y34 y53 z0 z1 z2 z3 z4 z5 z6 z7 z8 => rfl
        refine R_nil (tr _ _ _ _ _ _ _ _ _ _ _ _ _ _ _ _ _) ?_; clear tr
        refine then_n ?_
        refine cdf ?_
        refine at_skip rfl ?_
        refine then_n ?_
        refine at_seq rfl ?_
        refine rg rfl ?_
        refine Rq ?_
        refine Rq ?_
        have tr : ∀ y0 y1 y2 y6 y7 y22 y34 y53 z0 z1 : AV, trim [(6, z1), (75, z0), (0, y0), (1, y1), (2, y2), (6, y6), (7, y7), (22, y22), (34, y34), (53, y53)] [(0, y0), (1, y1), (2, y2), (6, y6), (7, y7), (22, y22), (34, y34), (53, y53)] = [(0, y0), (1, y1), (2, y2), (6, z1), (7, y7), (22, y22), (34, y34), (53, y53)] := fun y0 y1 y2 y6 y7 y22 y34 y53 z0 z1 => rfl
        refine R_nil (tr _ _ _ _ _ _ _ _ _ _) ?_; clear tr
        refine then_n ?_
        refine at_ret rfl ?_
        refine fpure ?_
        refine ⟨?_, rfl⟩
        rw [wantedS, m2, m1]
        (repeat' split) <;> first | rfl | (exfalso; omega)
    · try simp only [decide_eq_true_eq, decide_eq_false_iff_not, Bool.not_eq_true', Bool.not_eq_false', beq_iff_eq, beq_eq_false_iff_ne, ne_eq] at h7
      refine at_skip rfl ?_
      refine then_n ?_
      refine at_seq rfl ?_
      refine at_seq rfl ?_
      refine rg rfl ?_
      refine Rq ?_
      refine Rq ?_
      refine Rq ?_
      refine Rp_split (fun h10 => ?_) (fun h10 => ?_)
      · try simp only [decide_eq_true_eq, decide_eq_false_iff_not, Bool.not_eq_true', Bool.not_eq_false', beq_iff_eq, beq_eq_false_iff_ne, ne_eq] at h10
        refine Ry ?_
        refine Rq ?_
        refine Ry ?_
        refine Rq ?_
        refine Ry ?_
        refine Rq ?_
        refine Ry ?_
        refine Rq ?_
        refine Ry ?_
        refine Rq ?_
        refine Rq ?_
        have tr : ∀ y0 y1 y2 y6 y7 y22 y34 y53 z0 z1 z2 z3 z4 z5 z6 z7 z8 : AV, trim [(53, z8), (52, z7), (51, z6), (50, z5), (49, z4), (48, z3), (47, z2), (46, z1), (45, z0), (0, y0), (1, y1), (2, y2), (6, y6), (7, y7), (22, y22), (34, y34), (53, y53)] [(0, y0), (1, y1), (2, y2), (6, y6), (7, y7), (22, y22), (34, y34), (53, y53)] = [(0, y0), (1, y1), (2, y2), (6, y6), (7, y7), (22, y22), (34, y34), (53, z8)] := fun y0 y1 y2 y6 y7 y22 y34 y53 z0 z1 z2 z3 z4 z5 z6 z7 z8 => rfl
        refine R_nil (tr _ _ _ _ _ _ _ _ _ _ _ _ _ _ _ _ _) ?_; clear tr
        refine then_n ?_
        refine cdd (fun h11 => ?_) (fun h11 => ?_)
        · try simp only [decide_eq_true_eq, decide_eq_false_iff_not, Bool.not_eq_true', Bool.not_eq_false', beq_iff_eq, beq_eq_false_iff_ne, ne_eq] at h11
          refine rd rfl rfl ?_
          have ra : 0 ≤ gt (gt l (u - 1)) w ∧ gt (gt l (u - 1)) w ≤ 10000 := hR _ (by omega) _ (by rw [hlen _ (by omega)]; exact hw)
          have rb : 0 ≤ gt (gt l (u + 1)) w ∧ gt (gt l (u + 1)) w ≤ 10000 := hR _ (by omega) _ (by rw [hlen _ (by omega)]; exact hw)
          refine Qq ?_
          refine Qq ?_
          refine Qq ?_
          refine Qq ?_
          refine Qq ?_
          refine Q_q rfl (by simp (disch := first | omega | (simp only [List.length_map, List.length_append, List.length_set, List.length_cons, List.length_nil, List.length_take, List.length_drop]; omega)) only [go_sem, ↓reduceIte, Nat.reduceEqDiff, reduceCtorEq, hT, cu, hrow, hcell]; rfl) ?_
          refine Qq ?_
          refine Qq ?_
          refine Q_q rfl (by simp (disch := first | omega | (simp only [List.length_map, List.length_append, List.length_set, List.length_cons, List.length_nil, List.length_take, List.length_drop]; omega)) only [go_sem, ↓reduceIte, Nat.reduceEqDiff, reduceCtorEq, hT, cu, hrow, hcell]; rfl) ?_
          refine Qq ?_
          refine Qq ?_
          refine Qq ?_
          refine Qq ?_
          refine Q_q rfl (by simp (disch := first | omega | (simp only [List.length_map, List.length_append, List.length_set, List.length_cons, List.length_nil, List.length_take, List.length_drop]; omega)) only [go_sem, ↓reduceIte, Nat.reduceEqDiff, reduceCtorEq, hT, cu, hrow, hcell]; rfl) ?_
          refine Qq ?_
          refine Qq ?_
          refine Q_q rfl (by simp (disch := first | omega | (simp only [List.length_map, List.length_append, List.length_set, List.length_cons, List.length_nil, List.length_take, List.length_drop]; omega)) only [go_sem, ↓reduceIte, Nat.reduceEqDiff, reduceCtorEq, hT, cu, hrow, hcell]; rfl) ?_
          refine Qq ?_
          refine Qq ?_
          refine Qq ?_
          refine Qq ?_
          refine Qq ?_
          refine Q_nil ?_
          have tr : ∀ y0 y1 y2 y6 y7 y22 y34 y53 z0 z1 z2 z3 z4 z5 z6 z7 z8 z9 z10 z11 z12 z13 z14 z15 z16 z17 z18 z19 z20 z21 : AV, trim [(7, z21), (74, z20), (73, z19), (72, z18), (71, z17), (70, z16), (69, z15), (68, z14), (67, z13), (66, z12), (65, z11), (64, z10), (63, z9), (62, z8), (61, z7), (60, z6), (59, z5), (58, z4), (57, z3), (56, z2), (55, z1), (54, z0), (0, y0), (1, y1), (2, y2), (6, y6), (7, y7), (22, y22), (34, y34), (53, y53)] [(0, y0), (1, y1), (2, y2), (6, y6), (7, y7), (22, y22), (34, y34), (53, y53)] = [(0, y0), (1, y1), (2, y2), (6, y6), (7, z21), (22, y22), (34, y34), (53, y53)] := fun y0 y1 y2 y6 y7 y22 y34 y53 z0 z1 z2 z3 z4 z5 z6 z7 z8 z9 z10 z11 z12 z13 z14 z15 z16 z17 z18 z19 z20 z21 => rfl
          refine R_nil (tr _ _ _ _ _ _ _ _ _ _ _ _ _ _ _ _ _ _ _ _ _ _ _ _ _ _ _ _ _ _) ?_; clear tr
          refine then_n ?_
          refine at_seq rfl ?_
          refine rg rfl ?_
          refine Rq ?_
          refine Rq ?_
          have tr : ∀ y0 y1 y2 y6 y7 y22 y34 y53 z0 z1 : AV, trim [(6, z1), (75, z0), (0, y0), (1, y1), (2, y2), (6, y6), (7, y7), (22, y22), (34, y34), (53, y53)] [(0, y0), (1, y1), (2, y2), (6, y6), (7, y7), (22, y22), (34, y34), (53, y53)] = [(0, y0), (1, y1), (2, y2), (6, z1), (7, y7), (22, y22), (34, y34), (53, y53)] := fun y0 y1 y2 y6 y7 y22 y34 y53 z0 z1 => rfl
          refine R_nil (tr _ _ _ _ _ _ _ _ _ _) ?_; clear tr
          refine then_n ?_
          refine at_ret rfl ?_
          refine fpure ?_
          refine ⟨?_, rfl⟩
          rw [wantedS, m2, m1]
          (repeat' split) <;> first | rfl | (exfalso; omega)
        · try simp only [decide_eq_true_eq, decide_eq_false_iff_not, Bool.not_eq_true', Bool.not_eq_false', beq_iff_eq, beq_eq_false_iff_ne, ne_eq] at h11
          refine at_skip rfl ?_
          refine then_n ?_
          refine at_seq rfl ?_
          refine rg rfl ?_
          refine Rq ?_
          refine Rq ?_
          have tr : ∀ y0 y1 y2 y6 y7 y22 y34 y53 z0 z1 : AV, trim [(6, z1), (75, z0), (0, y0), (1, y1), (2, y2), (6, y6), (7, y7), (22, y22), (34, y34), (53, y53)] [(0, y0), (1, y1), (2, y2), (6, y6), (7, y7), (22, y22), (34, y34), (53, y53)] = [(0, y0), (1, y1), (2, y2), (6, z1), (7, y7), (22, y22), (34, y34), (53, y53)] := fun y0 y1 y2 y6 y7 y22 y34 y53 z0 z1 => rfl
          refine R_nil (tr _ _ _ _ _ _ _ _ _ _) ?_; clear tr
          refine then_n ?_
          refine at_ret rfl ?_
          refine fpure ?_
          refine ⟨?_, rfl⟩
          rw [wantedS, m2, m1]
          (repeat' split) <;> first | rfl | (exfalso; omega)
      · try simp only [decide_eq_true_eq, decide_eq_false_iff_not, Bool.not_eq_true', Bool.not_eq_false', beq_iff_eq, beq_eq_false_iff_ne, ne_eq] at h10
        refine Rn ?_
        refine Rn ?_
        refine Rn ?_
        refine Rn ?_
        refine Rn ?_
        refine Rq ?_
        have tr : ∀ y0 y1 y2 y6 y7 y22 y34 y53 z0 z1 z2 z3 z4 z5 z6 z7 z8 : AV, trim [(53, z8), (52, z7), (51, z6), (50, z5), (49, z4), (48, z3), (47, z2), (46, z1), (45, z0), (0, y0), (1, y1), (2, y2), (6, y6), (7, y7), (22, y22), (34, y34), (53, y53)] [(0, y0), (1, y1), (2, y2), (6, y6), (7, y7), (22, y22), (34, y34), (53, y53)] = [(0, y0), (1, y1), (2, y2), (6, y6), (7, y7), (22, y22), (34, y34), (53, z8)] := fun y0 y1 y2 y6 y7 y22 y34 y53 z0 z1 z2 z3 z4 z5 z6 z7 z8 => rfl
        refine R_nil (tr _ _ _ _ _ _ _ _ _ _ _ _ _ _ _ _ _) ?_; clear tr
        refine then_n ?_
        refine cdf ?_
        refine at_skip rfl ?_
        refine then_n ?_
        refine at_seq rfl ?_
        refine rg rfl ?_
        refine Rq ?_
        refine Rq ?_
        have tr : ∀ y0 y1 y2 y6 y7 y22 y34 y53 z0 z1 : AV, trim [(6, z1), (75, z0), (0, y0), (1, y1), (2, y2), (6, y6), (7, y7), (22, y22), (34, y34), (53, y53)] [(0, y0), (1, y1), (2, y2), (6, y6), (7, y7), (22, y22), (34, y34), (53, y53)] = [(0, y0), (1, y1), (2, y2), (6, z1), (7, y7), (22, y22), (34, y34), (53, y53)] := fun y0 y1 y2 y6 y7 y22 y34 y53 z0 z1 => rfl
        refine R_nil (tr _ _ _ _ _ _ _ _ _ _) ?_; clear tr
        refine then_n ?_
        refine at_ret rfl ?_
        refine fpure ?_
        refine ⟨?_, rfl⟩
        rw [wantedS, m2, m1]
        (repeat' split) <;> first | rfl | (exfalso; omega)

end Go.Proofs.Ytdkhgpdojjdadaa
