/-
  Walks of chapter 38. The steps are written by program (walk.py).
-/
import Derived.Test.YtdkhgpdojjdadaaS
set_option linter.unusedSimpArgs false
set_option linter.unusedVariables false
set_option maxHeartbeats 40000000
set_option maxRecDepth 4000
namespace Go.Proofs.Ytdkhgpdojjdadaa
open Go Go.Am

theorem raise_ok (lim lm : Nat) (hl : lim ≤ lm) (H : Heap) (b : Nat) (bs : Nat → Nat) (raw l : Tb) (m : Nat) (hrect : Rect raw m) (hn : raw.length ≤ 91) (hn2 : 2 ≤ raw.length) (hm : m ≤ 10)
    (T : Tab lm H b bs l) (inv : Inv raw l) :
    ACall sig lim 30 [.agg [.own 1 b 0 l.length]] H fun r H' => ∃ l' ch, r = .v (.bool ch) ∧ RJ raw l lm b H.length bs m (fun u _ => 0 < u) (H ++ [some [.own 1 b 0 l.length]]) H' l' ch := by
  have hrl0 := inv.same.len
  have hp : ∀ i, i < l.length → H.length ≠ bs i := fun i hi => by have := hget_lt (T.row i hi); omega
  have hp2 : True := trivial
  have hT := hp2
  have cu := hp2
  have hrow := hp2
  have hcell := hp2
  refine ACall_own (fa := fa30) rfl rfl rfl rfl ?_
  have tr : ∀ a0 : AV, env0 fa30.keep [a0] = [(0, a0), (1, .any), (2, .any), (3, .any), (4, .any), (5, .any), (6, .any), (7, .any), (14, .any), (22, .any), (23, .any), (24, .any), (52, .any), (66, .any), (99, .any)] := fun a0 => rfl
  refine W_to (tr _) ?_; clear tr
  refine at_seq rfl ?_
  refine rg rfl ?_
  refine R_box rfl (by simp (disch := first | omega | (simp only [List.length_map, List.length_append, List.length_set, List.length_cons, List.length_nil, List.length_take, List.length_drop]; omega)) only [go_sem, ↓reduceIte, Nat.reduceEqDiff, reduceCtorEq, hT, cu, hrow, hcell, hp2]; rfl) rfl rfl ?_
  refine Rq ?_
  have tr : ∀ y0 y1 y2 y3 y4 y5 y6 y7 y14 y22 y23 y24 y52 y66 y99 z0 z1 : AV, trim [(2, z1), (1, z0), (0, y0), (1, y1), (2, y2), (3, y3), (4, y4), (5, y5), (6, y6), (7, y7), (14, y14), (22, y22), (23, y23), (24, y24), (52, y52), (66, y66), (99, y99)] [(0, y0), (1, y1), (2, y2), (3, y3), (4, y4), (5, y5), (6, y6), (7, y7), (14, y14), (22, y22), (23, y23), (24, y24), (52, y52), (66, y66), (99, y99)] = [(0, y0), (1, z0), (2, z1), (3, y3), (4, y4), (5, y5), (6, y6), (7, y7), (14, y14), (22, y22), (23, y23), (24, y24), (52, y52), (66, y66), (99, y99)] := fun y0 y1 y2 y3 y4 y5 y6 y7 y14 y22 y23 y24 y52 y66 y99 z0 z1 => rfl
  refine R_nil (tr _ _ _ _ _ _ _ _ _ _ _ _ _ _ _ _ _) ?_; clear tr
  refine then_n ?_
  refine at_seq rfl ?_
  refine rg rfl ?_
  refine Rq ?_
  have tr : ∀ y0 y1 y2 y3 y4 y5 y6 y7 y14 y22 y23 y24 y52 y66 y99 z0 : AV, trim [(3, z0), (0, y0), (1, y1), (2, y2), (3, y3), (4, y4), (5, y5), (6, y6), (7, y7), (14, y14), (22, y22), (23, y23), (24, y24), (52, y52), (66, y66), (99, y99)] [(0, y0), (1, y1), (2, y2), (3, y3), (4, y4), (5, y5), (6, y6), (7, y7), (14, y14), (22, y22), (23, y23), (24, y24), (52, y52), (66, y66), (99, y99)] = [(0, y0), (1, y1), (2, y2), (3, z0), (4, y4), (5, y5), (6, y6), (7, y7), (14, y14), (22, y22), (23, y23), (24, y24), (52, y52), (66, y66), (99, y99)] := fun y0 y1 y2 y3 y4 y5 y6 y7 y14 y22 y23 y24 y52 y66 y99 z0 => rfl
  refine R_nil (tr _ _ _ _ _ _ _ _ _ _ _ _ _ _ _ _) ?_; clear tr
  refine then_n ?_
  refine at_seq rfl ?_
  refine rg rfl ?_
  refine Rq ?_
  refine R_q rfl (by simp (disch := first | omega | (simp only [List.length_map, List.length_append, List.length_set, List.length_cons, List.length_nil, List.length_take, List.length_drop]; omega)) only [go_sem, ↓reduceIte, Nat.reduceEqDiff, reduceCtorEq, hT, cu, hrow, hcell, hp2]; rfl) ?_
  refine Rq ?_
  refine Rq ?_
  refine Rq ?_
  have tr : ∀ y0 y1 y2 y3 y4 y5 y6 y7 y14 y22 y23 y24 y52 y66 y99 z0 z1 z2 z3 z4 : AV, trim [(4, z4), (11, z3), (10, z2), (9, z1), (8, z0), (0, y0), (1, y1), (2, y2), (3, y3), (4, y4), (5, y5), (6, y6), (7, y7), (14, y14), (22, y22), (23, y23), (24, y24), (52, y52), (66, y66), (99, y99)] [(0, y0), (1, y1), (2, y2), (3, y3), (4, y4), (5, y5), (6, y6), (7, y7), (14, y14), (22, y22), (23, y23), (24, y24), (52, y52), (66, y66), (99, y99)] = [(0, y0), (1, y1), (2, y2), (3, y3), (4, z4), (5, y5), (6, y6), (7, y7), (14, y14), (22, y22), (23, y23), (24, y24), (52, y52), (66, y66), (99, y99)] := fun y0 y1 y2 y3 y4 y5 y6 y7 y14 y22 y23 y24 y52 y66 y99 z0 z1 z2 z3 z4 => rfl
  refine R_nil (tr _ _ _ _ _ _ _ _ _ _ _ _ _ _ _ _ _ _ _ _) ?_; clear tr
  refine then_n ?_
  refine at_seq rfl ?_
  refine at_seq rfl ?_
  refine rg rfl ?_
  refine Rq ?_
  have tr : ∀ y0 y1 y2 y3 y4 y5 y6 y7 y14 y22 y23 y24 y52 y66 y99 z0 : AV, trim [(5, z0), (0, y0), (1, y1), (2, y2), (3, y3), (4, y4), (5, y5), (6, y6), (7, y7), (14, y14), (22, y22), (23, y23), (24, y24), (52, y52), (66, y66), (99, y99)] [(0, y0), (1, y1), (2, y2), (3, y3), (4, y4), (5, y5), (6, y6), (7, y7), (14, y14), (22, y22), (23, y23), (24, y24), (52, y52), (66, y66), (99, y99)] = [(0, y0), (1, y1), (2, y2), (3, y3), (4, y4), (5, z0), (6, y6), (7, y7), (14, y14), (22, y22), (23, y23), (24, y24), (52, y52), (66, y66), (99, y99)] := fun y0 y1 y2 y3 y4 y5 y6 y7 y14 y22 y23 y24 y52 y66 y99 z0 => rfl
  refine R_nil (tr _ _ _ _ _ _ _ _ _ _ _ _ _ _ _ _) ?_; clear tr
  refine then_n ?_
  refine at_block rfl ?_
  refine loop_n rfl (fun mm kv H' => ∃ u : Nat, ∃ l1 : Tb, ∃ c1 : Bool, ∃ x6 x7 x14 x22 x23 x24 x52 x66 x99 : AV, (kv = [(3, AV.v (.bool c1)), (5, AV.i u), (6, x6), (7, x7), (14, x14), (22, x22), (23, x23), (24, x24), (52, x52), (66, x66), (99, x99)]) ∧ (mm = l.length - u) ∧ (1 ≤ u) ∧ (u ≤ l.length) ∧ (RJ raw l lm b H.length bs m (fun i _ => 0 < i ∧ i < u) (H ++ [some [AV.own 1 b 0 l.length]]) H' l1 c1)) ⟨1, l, false, _, _, _, _, _, _, _, _, _, rfl, rfl, by omega, by omega, by exact RJ.start (T.grow _) (by rw [hget_app]; rfl) inv (fun _ _ h _ _ => by omega)⟩ (by rfl) ?_
  rintro mm kv H1 ⟨u, l1, c1, x6, x7, x14, x22, x23, x24, x52, x66, x99, rfl, rfl, hu1, hu, J1⟩
  have tr : ∀ y0 y1 y2 y3 y4 y5 y6 y7 y14 y22 y23 y24 y52 y66 y99 z3 z5 z6 z7 z14 z22 z23 z24 z52 z66 z99 : AV, upd [(0, y0), (1, y1), (2, y2), (3, y3), (4, y4), (5, y5), (6, y6), (7, y7), (14, y14), (22, y22), (23, y23), (24, y24), (52, y52), (66, y66), (99, y99)] [(3, z3), (5, z5), (6, z6), (7, z7), (14, z14), (22, z22), (23, z23), (24, z24), (52, z52), (66, z66), (99, z99)] = [(0, y0), (1, y1), (2, y2), (3, z3), (4, y4), (5, z5), (6, z6), (7, z7), (14, z14), (22, z22), (23, z23), (24, z24), (52, z52), (66, z66), (99, z99)] := fun y0 y1 y2 y3 y4 y5 y6 y7 y14 y22 y23 y24 y52 y66 y99 z3 z5 z6 z7 z14 z22 z23 z24 z52 z66 z99 => rfl
  refine W_to (tr _ _ _ _ _ _ _ _ _ _ _ _ _ _ _ _ _ _ _ _ _ _ _ _ _ _) ?_; clear tr
  have T2 := J1.tab
  have hT := T2.outer
  have hrow := T2.row
  have hp2 := J1.cell
  have hrect2 : Rect l1 m := J1.inv.same.rect hrect
  obtain ⟨cu, hcell⟩ := tab_facts T2 hrect2
  have hln := J1.len
  have hrl := J1.inv.same.len
  refine at_seq rfl ?_
  refine at_seq rfl ?_
  refine rg rfl ?_
  refine Rq ?_
  refine Rq ?_
  refine Rq ?_
  have tr : ∀ y0 y1 y2 y3 y4 y5 y6 y7 y14 y22 y23 y24 y52 y66 y99 z0 z1 z2 : AV, trim [(14, z2), (13, z1), (12, z0), (0, y0), (1, y1), (2, y2), (3, y3), (4, y4), (5, y5), (6, y6), (7, y7), (14, y14), (22, y22), (23, y23), (24, y24), (52, y52), (66, y66), (99, y99)] [(0, y0), (1, y1), (2, y2), (3, y3), (4, y4), (5, y5), (6, y6), (7, y7), (14, y14), (22, y22), (23, y23), (24, y24), (52, y52), (66, y66), (99, y99)] = [(0, y0), (1, y1), (2, y2), (3, y3), (4, y4), (5, y5), (6, y6), (7, y7), (14, z2), (22, y22), (23, y23), (24, y24), (52, y52), (66, y66), (99, y99)] := fun y0 y1 y2 y3 y4 y5 y6 y7 y14 y22 y23 y24 y52 y66 y99 z0 z1 z2 => rfl
  refine R_nil (tr _ _ _ _ _ _ _ _ _ _ _ _ _ _ _ _ _ _) ?_; clear tr
  refine then_n ?_
  refine cdd (fun h1 => ?_) (fun h1 => ?_)
  · try simp only [decide_eq_true_eq, decide_eq_false_iff_not, Bool.not_eq_true', Bool.not_eq_false', beq_iff_eq, beq_eq_false_iff_ne, ne_eq] at h1
    refine at_skip rfl ?_
    refine then_n ?_
    refine at_seq rfl ?_
    refine at_block rfl ?_
    refine at_seq rfl ?_
    refine rg rfl ?_
    have hlu1 := hrect2 u (by omega)
    refine Rq ?_
    refine R_q rfl (by simp (disch := first | omega | (simp only [List.length_map, List.length_append, List.length_set, List.length_cons, List.length_nil, List.length_take, List.length_drop]; omega)) only [go_sem, ↓reduceIte, Nat.reduceEqDiff, reduceCtorEq, hT, cu, hrow, hcell, hp2]; rfl) ?_
    refine Rq ?_
    refine Rq ?_
    refine R_q rfl (by simp (disch := first | omega | (simp only [List.length_map, List.length_append, List.length_set, List.length_cons, List.length_nil, List.length_take, List.length_drop]; omega)) only [go_sem, ↓reduceIte, Nat.reduceEqDiff, reduceCtorEq, hT, cu, hrow, hcell, hp2]; rfl) ?_
    refine Rq ?_
    refine Rq ?_
    have tr : ∀ y0 y1 y2 y3 y4 y5 y6 y7 y14 y22 y23 y24 y52 y66 y99 z0 z1 z2 z3 z4 z5 z6 : AV, trim [(23, z6), (22, z5), (21, z4), (20, z3), (19, z2), (18, z1), (17, z0), (0, y0), (1, y1), (2, y2), (3, y3), (4, y4), (5, y5), (6, y6), (7, y7), (14, y14), (22, y22), (23, y23), (24, y24), (52, y52), (66, y66), (99, y99)] [(0, y0), (1, y1), (2, y2), (3, y3), (4, y4), (5, y5), (6, y6), (7, y7), (14, y14), (22, y22), (23, y23), (24, y24), (52, y52), (66, y66), (99, y99)] = [(0, y0), (1, y1), (2, y2), (3, y3), (4, y4), (5, y5), (6, y6), (7, y7), (14, y14), (22, z5), (23, z6), (24, y24), (52, y52), (66, y66), (99, y99)] := fun y0 y1 y2 y3 y4 y5 y6 y7 y14 y22 y23 y24 y52 y66 y99 z0 z1 z2 z3 z4 z5 z6 => rfl
    refine R_nil (tr _ _ _ _ _ _ _ _ _ _ _ _ _ _ _ _ _ _ _ _ _ _) ?_; clear tr
    refine then_n ?_
    refine at_block rfl ?_
    refine loop_n rfl (fun mm kv H' => ∃ w : Nat, ∃ l2 : Tb, ∃ c2 : Bool, ∃ x6 x7 x24 x52 x66 x99 : AV, (kv = [(3, AV.v (.bool c2)), (6, x6), (7, x7), (23, AV.i w), (24, x24), (52, x52), (66, x66), (99, x99)]) ∧ (mm = m - w) ∧ (w ≤ m) ∧ (RJ raw l lm b H.length bs m (fun i j => (0 < i ∧ i < u) ∨ (i = u ∧ j < w)) (H ++ [some [AV.own 1 b 0 l.length]]) H' l2 c2)) ⟨0, l1, c1, _, _, _, _, _, _, rfl, rfl, by omega, by exact J1.mono (fun _ _ h _ _ => by omega)⟩ (by rfl) ?_
    rintro mm kv H2 ⟨w, l2, c2, x6, x7, x24, x52, x66, x99, rfl, rfl, hw, J2⟩
    have tr : ∀ y0 y1 y2 y3 y4 y5 y6 y7 y14 y22 y23 y24 y52 y66 y99 z3 z6 z7 z23 z24 z52 z66 z99 : AV, upd [(0, y0), (1, y1), (2, y2), (3, y3), (4, y4), (5, y5), (6, y6), (7, y7), (14, y14), (22, y22), (23, y23), (24, y24), (52, y52), (66, y66), (99, y99)] [(3, z3), (6, z6), (7, z7), (23, z23), (24, z24), (52, z52), (66, z66), (99, z99)] = [(0, y0), (1, y1), (2, y2), (3, z3), (4, y4), (5, y5), (6, z6), (7, z7), (14, y14), (22, y22), (23, z23), (24, z24), (52, z52), (66, z66), (99, z99)] := fun y0 y1 y2 y3 y4 y5 y6 y7 y14 y22 y23 y24 y52 y66 y99 z3 z6 z7 z23 z24 z52 z66 z99 => rfl
    refine W_to (tr _ _ _ _ _ _ _ _ _ _ _ _ _ _ _ _ _ _ _ _ _ _ _) ?_; clear tr
    have T2 := J2.tab
    have hT := T2.outer
    have hrow := T2.row
    have hp2 := J2.cell
    have hrect2 : Rect l2 m := J2.inv.same.rect hrect
    obtain ⟨cu, hcell⟩ := tab_facts T2 hrect2
    have hln := J2.len
    have hrl := J2.inv.same.len
    have hlu2 := hrect2 u (by omega)
    refine at_seq rfl ?_
    refine rg rfl ?_
    refine Rq ?_
    have tr : ∀ y0 y1 y2 y3 y4 y5 y6 y7 y14 y22 y23 y24 y52 y66 y99 z0 : AV, trim [(24, z0), (0, y0), (1, y1), (2, y2), (3, y3), (4, y4), (5, y5), (6, y6), (7, y7), (14, y14), (22, y22), (23, y23), (24, y24), (52, y52), (66, y66), (99, y99)] [(0, y0), (1, y1), (2, y2), (3, y3), (4, y4), (5, y5), (6, y6), (7, y7), (14, y14), (22, y22), (23, y23), (24, y24), (52, y52), (66, y66), (99, y99)] = [(0, y0), (1, y1), (2, y2), (3, y3), (4, y4), (5, y5), (6, y6), (7, y7), (14, y14), (22, y22), (23, y23), (24, z0), (52, y52), (66, y66), (99, y99)] := fun y0 y1 y2 y3 y4 y5 y6 y7 y14 y22 y23 y24 y52 y66 y99 z0 => rfl
    refine R_nil (tr _ _ _ _ _ _ _ _ _ _ _ _ _ _ _ _) ?_; clear tr
    refine then_n ?_
    refine at_seq rfl ?_
    refine cdd (fun h2 => ?_) (fun h2 => ?_)
    · try simp only [decide_eq_true_eq, decide_eq_false_iff_not, Bool.not_eq_true', Bool.not_eq_false', beq_iff_eq, beq_eq_false_iff_ne, ne_eq] at h2
      refine at_skip rfl ?_
      refine then_n ?_
      refine at_seq rfl ?_
      refine at_block rfl ?_
      refine at_seq rfl ?_
      refine rg rfl ?_
      refine Rq ?_
      refine Rq ?_
      have tr : ∀ y0 y1 y2 y3 y4 y5 y6 y7 y14 y22 y23 y24 y52 y66 y99 z0 z1 : AV, trim [(6, z1), (25, z0), (0, y0), (1, y1), (2, y2), (3, y3), (4, y4), (5, y5), (6, y6), (7, y7), (14, y14), (22, y22), (23, y23), (24, y24), (52, y52), (66, y66), (99, y99)] [(0, y0), (1, y1), (2, y2), (3, y3), (4, y4), (5, y5), (6, y6), (7, y7), (14, y14), (22, y22), (23, y23), (24, y24), (52, y52), (66, y66), (99, y99)] = [(0, y0), (1, y1), (2, y2), (3, y3), (4, y4), (5, y5), (6, z1), (7, y7), (14, y14), (22, y22), (23, y23), (24, y24), (52, y52), (66, y66), (99, y99)] := fun y0 y1 y2 y3 y4 y5 y6 y7 y14 y22 y23 y24 y52 y66 y99 z0 z1 => rfl
      refine R_nil (tr _ _ _ _ _ _ _ _ _ _ _ _ _ _ _ _ _) ?_; clear tr
      refine then_n ?_
      refine at_seq rfl ?_
      refine rd rfl rfl ?_
      refine Qq ?_
      refine Q_q rfl (by simp (disch := first | omega | (simp only [List.length_map, List.length_append, List.length_set, List.length_cons, List.length_nil, List.length_take, List.length_drop]; omega)) only [go_sem, ↓reduceIte, Nat.reduceEqDiff, reduceCtorEq, hT, cu, hrow, hcell, hp2]; rfl) ?_
      refine Qq ?_
      refine Qq ?_
      refine Q_q rfl (by simp (disch := first | omega | (simp only [List.length_map, List.length_append, List.length_set, List.length_cons, List.length_nil, List.length_take, List.length_drop]; omega)) only [go_sem, ↓reduceIte, Nat.reduceEqDiff, reduceCtorEq, hT, cu, hrow, hcell, hp2]; rfl) ?_
      refine Qq ?_
      refine Qq ?_
      refine Q_q rfl (by simp (disch := first | omega | (simp only [List.length_map, List.length_append, List.length_set, List.length_cons, List.length_nil, List.length_take, List.length_drop]; omega)) only [go_sem, ↓reduceIte, Nat.reduceEqDiff, reduceCtorEq, hT, cu, hrow, hcell, hp2]; rfl) ?_
      refine Qq ?_
      refine Q_q rfl (by simp (disch := first | omega | (simp only [List.length_map, List.length_append, List.length_set, List.length_cons, List.length_nil, List.length_take, List.length_drop]; omega)) only [go_sem, ↓reduceIte, Nat.reduceEqDiff, reduceCtorEq, hT, cu, hrow, hcell, hp2]; rfl) ?_
      refine Qq ?_
      refine Qq ?_
      refine Qq ?_
      refine Q_q rfl (by simp (disch := first | omega | (simp only [List.length_map, List.length_append, List.length_set, List.length_cons, List.length_nil, List.length_take, List.length_drop]; omega)) only [go_sem, ↓reduceIte, Nat.reduceEqDiff, reduceCtorEq, hT, cu, hrow, hcell, hp2]; rfl) ?_
      refine Qq ?_
      refine Qq ?_
      refine Q_q rfl (by simp (disch := first | omega | (simp only [List.length_map, List.length_append, List.length_set, List.length_cons, List.length_nil, List.length_take, List.length_drop]; omega)) only [go_sem, ↓reduceIte, Nat.reduceEqDiff, reduceCtorEq, hT, cu, hrow, hcell, hp2]; rfl) ?_
      refine Qq ?_
      refine Qq ?_
      refine Q_nil ?_
      have tr : ∀ y0 y1 y2 y3 y4 y5 y6 y7 y14 y22 y23 y24 y52 y66 y99 z0 z1 z2 z3 z4 z5 z6 z7 z8 z9 z10 z11 z12 z13 z14 z15 z16 z17 z18 : AV, trim [(7, z18), (43, z17), (42, z16), (41, z15), (40, z14), (39, z13), (38, z12), (37, z11), (36, z10), (35, z9), (34, z8), (33, z7), (32, z6), (31, z5), (30, z4), (29, z3), (28, z2), (27, z1), (26, z0), (0, y0), (1, y1), (2, y2), (3, y3), (4, y4), (5, y5), (6, y6), (7, y7), (14, y14), (22, y22), (23, y23), (24, y24), (52, y52), (66, y66), (99, y99)] [(0, y0), (1, y1), (2, y2), (3, y3), (4, y4), (5, y5), (6, y6), (7, y7), (14, y14), (22, y22), (23, y23), (24, y24), (52, y52), (66, y66), (99, y99)] = [(0, y0), (1, y1), (2, y2), (3, y3), (4, y4), (5, y5), (6, y6), (7, z18), (14, y14), (22, y22), (23, y23), (24, y24), (52, y52), (66, y66), (99, y99)] := fun y0 y1 y2 y3 y4 y5 y6 y7 y14 y22 y23 y24 y52 y66 y99 z0 z1 z2 z3 z4 z5 z6 z7 z8 z9 z10 z11 z12 z13 z14 z15 z16 z17 z18 => rfl
      refine R_nil (tr _ _ _ _ _ _ _ _ _ _ _ _ _ _ _ _ _ _ _ _ _ _ _ _ _ _ _ _ _ _ _ _ _ _) ?_; clear tr
      refine then_n ?_
      refine at_seq rfl ?_
      refine at_seq rfl ?_
      refine rg rfl ?_
      refine Rq ?_
      refine Rq ?_
      refine Rq ?_
      refine R_q rfl (by simp (disch := first | omega | (simp only [List.length_map, List.length_append, List.length_set, List.length_cons, List.length_nil, List.length_take, List.length_drop]; omega)) only [go_sem, ↓reduceIte, Nat.reduceEqDiff, reduceCtorEq, hT, cu, hrow, hcell, hp2]; rfl) ?_
      refine Rq ?_
      refine Rq ?_
      refine R_q rfl (by simp (disch := first | omega | (simp only [List.length_map, List.length_append, List.length_set, List.length_cons, List.length_nil, List.length_take, List.length_drop]; omega)) only [go_sem, ↓reduceIte, Nat.reduceEqDiff, reduceCtorEq, hT, cu, hrow, hcell, hp2]; rfl) ?_
      refine Rq ?_
      refine Rq ?_
      have tr : ∀ y0 y1 y2 y3 y4 y5 y6 y7 y14 y22 y23 y24 y52 y66 y99 z0 z1 z2 z3 z4 z5 z6 z7 z8 : AV, trim [(52, z8), (51, z7), (50, z6), (49, z5), (48, z4), (47, z3), (46, z2), (45, z1), (44, z0), (0, y0), (1, y1), (2, y2), (3, y3), (4, y4), (5, y5), (6, y6), (7, y7), (14, y14), (22, y22), (23, y23), (24, y24), (52, y52), (66, y66), (99, y99)] [(0, y0), (1, y1), (2, y2), (3, y3), (4, y4), (5, y5), (6, y6), (7, y7), (14, y14), (22, y22), (23, y23), (24, y24), (52, y52), (66, y66), (99, y99)] = [(0, y0), (1, y1), (2, y2), (3, y3), (4, y4), (5, y5), (6, y6), (7, y7), (14, y14), (22, y22), (23, y23), (24, y24), (52, z8), (66, y66), (99, y99)] := fun y0 y1 y2 y3 y4 y5 y6 y7 y14 y22 y23 y24 y52 y66 y99 z0 z1 z2 z3 z4 z5 z6 z7 z8 => rfl
      refine R_nil (tr _ _ _ _ _ _ _ _ _ _ _ _ _ _ _ _ _ _ _ _ _ _ _ _) ?_; clear tr
      refine then_n ?_
      refine cdd (fun h3 => ?_) (fun h3 => ?_)
      · try simp only [decide_eq_true_eq, decide_eq_false_iff_not, Bool.not_eq_true', Bool.not_eq_false', beq_iff_eq, beq_eq_false_iff_ne, ne_eq] at h3
        refine rg rfl ?_
        refine Rq ?_
        refine Rq ?_
        refine R_q rfl (by simp (disch := first | omega | (simp only [List.length_map, List.length_append, List.length_set, List.length_cons, List.length_nil, List.length_take, List.length_drop]; omega)) only [go_sem, ↓reduceIte, Nat.reduceEqDiff, reduceCtorEq, hT, cu, hrow, hcell, hp2]; rfl) ?_
        refine Rq ?_
        refine Rq ?_
        refine R_q rfl (by simp (disch := first | omega | (simp only [List.length_map, List.length_append, List.length_set, List.length_cons, List.length_nil, List.length_take, List.length_drop]; omega)) only [go_sem, ↓reduceIte, Nat.reduceEqDiff, reduceCtorEq, hT, cu, hrow, hcell, hp2]; rfl) ?_
        refine Rq ?_
        refine Rq ?_
        refine Rq ?_
        refine R_q rfl (by simp (disch := first | omega | (simp only [List.length_map, List.length_append, List.length_set, List.length_cons, List.length_nil, List.length_take, List.length_drop]; omega)) only [go_sem, ↓reduceIte, Nat.reduceEqDiff, reduceCtorEq, hT, cu, hrow, hcell, hp2]; rfl) ?_
        refine Rq ?_
        refine Rq ?_
        have tr : ∀ y0 y1 y2 y3 y4 y5 y6 y7 y14 y22 y23 y24 y52 y66 y99 z0 z1 z2 z3 z4 z5 z6 z7 z8 z9 z10 z11 : AV, trim [(7, z11), (63, z10), (62, z9), (61, z8), (60, z7), (59, z6), (58, z5), (57, z4), (56, z3), (55, z2), (54, z1), (53, z0), (0, y0), (1, y1), (2, y2), (3, y3), (4, y4), (5, y5), (6, y6), (7, y7), (14, y14), (22, y22), (23, y23), (24, y24), (52, y52), (66, y66), (99, y99)] [(0, y0), (1, y1), (2, y2), (3, y3), (4, y4), (5, y5), (6, y6), (7, y7), (14, y14), (22, y22), (23, y23), (24, y24), (52, y52), (66, y66), (99, y99)] = [(0, y0), (1, y1), (2, y2), (3, y3), (4, y4), (5, y5), (6, y6), (7, z11), (14, y14), (22, y22), (23, y23), (24, y24), (52, y52), (66, y66), (99, y99)] := fun y0 y1 y2 y3 y4 y5 y6 y7 y14 y22 y23 y24 y52 y66 y99 z0 z1 z2 z3 z4 z5 z6 z7 z8 z9 z10 z11 => rfl
        refine R_nil (tr _ _ _ _ _ _ _ _ _ _ _ _ _ _ _ _ _ _ _ _ _ _ _ _ _ _ _) ?_; clear tr
        refine then_n ?_
        refine at_seq rfl ?_
        refine at_seq rfl ?_
        refine rg rfl ?_
        refine Rq ?_
        refine Rq ?_
        refine Rq ?_
        have tr : ∀ y0 y1 y2 y3 y4 y5 y6 y7 y14 y22 y23 y24 y52 y66 y99 z0 z1 z2 : AV, trim [(66, z2), (65, z1), (64, z0), (0, y0), (1, y1), (2, y2), (3, y3), (4, y4), (5, y5), (6, y6), (7, y7), (14, y14), (22, y22), (23, y23), (24, y24), (52, y52), (66, y66), (99, y99)] [(0, y0), (1, y1), (2, y2), (3, y3), (4, y4), (5, y5), (6, y6), (7, y7), (14, y14), (22, y22), (23, y23), (24, y24), (52, y52), (66, y66), (99, y99)] = [(0, y0), (1, y1), (2, y2), (3, y3), (4, y4), (5, y5), (6, y6), (7, y7), (14, y14), (22, y22), (23, y23), (24, y24), (52, y52), (66, z2), (99, y99)] := fun y0 y1 y2 y3 y4 y5 y6 y7 y14 y22 y23 y24 y52 y66 y99 z0 z1 z2 => rfl
        refine R_nil (tr _ _ _ _ _ _ _ _ _ _ _ _ _ _ _ _ _ _) ?_; clear tr
        refine then_n ?_
        refine cdd (fun h4 => ?_) (fun h4 => ?_)
        · try simp only [decide_eq_true_eq, decide_eq_false_iff_not, Bool.not_eq_true', Bool.not_eq_false', beq_iff_eq, beq_eq_false_iff_ne, ne_eq] at h4
          refine rd rfl rfl ?_
          have ra : 0 ≤ gt (gt l2 (u - 1)) w ∧ gt (gt l2 (u - 1)) w ≤ 10000 := J2.inv.rng _ (by omega) _ (by rw [hrect2 _ (by omega)]; omega)
          have rb : 0 ≤ gt (gt l2 (u + 1)) w ∧ gt (gt l2 (u + 1)) w ≤ 10000 := J2.inv.rng _ (by omega) _ (by rw [hrect2 _ (by omega)]; omega)
          refine Qq ?_
          refine Qq ?_
          refine Q_q rfl (by simp (disch := first | omega | (simp only [List.length_map, List.length_append, List.length_set, List.length_cons, List.length_nil, List.length_take, List.length_drop]; omega)) only [go_sem, ↓reduceIte, Nat.reduceEqDiff, reduceCtorEq, hT, cu, hrow, hcell, hp2]; rfl) ?_
          refine Qq ?_
          refine Qq ?_
          refine Qq ?_
          refine Q_q rfl (by simp (disch := first | omega | (simp only [List.length_map, List.length_append, List.length_set, List.length_cons, List.length_nil, List.length_take, List.length_drop]; omega)) only [go_sem, ↓reduceIte, Nat.reduceEqDiff, reduceCtorEq, hT, cu, hrow, hcell, hp2]; rfl) ?_
          refine Qq ?_
          refine Qq ?_
          refine Q_q rfl (by simp (disch := first | omega | (simp only [List.length_map, List.length_append, List.length_set, List.length_cons, List.length_nil, List.length_take, List.length_drop]; omega)) only [go_sem, ↓reduceIte, Nat.reduceEqDiff, reduceCtorEq, hT, cu, hrow, hcell, hp2]; rfl) ?_
          refine Qq ?_
          refine Q_q rfl (by simp (disch := first | omega | (simp only [List.length_map, List.length_append, List.length_set, List.length_cons, List.length_nil, List.length_take, List.length_drop]; omega)) only [go_sem, ↓reduceIte, Nat.reduceEqDiff, reduceCtorEq, hT, cu, hrow, hcell, hp2]; rfl) ?_
          refine Qq ?_
          refine Qq ?_
          refine Qq ?_
          refine Q_q rfl (by simp (disch := first | omega | (simp only [List.length_map, List.length_append, List.length_set, List.length_cons, List.length_nil, List.length_take, List.length_drop]; omega)) only [go_sem, ↓reduceIte, Nat.reduceEqDiff, reduceCtorEq, hT, cu, hrow, hcell, hp2]; rfl) ?_
          refine Qq ?_
          refine Qq ?_
          refine Q_q rfl (by simp (disch := first | omega | (simp only [List.length_map, List.length_append, List.length_set, List.length_cons, List.length_nil, List.length_take, List.length_drop]; omega)) only [go_sem, ↓reduceIte, Nat.reduceEqDiff, reduceCtorEq, hT, cu, hrow, hcell, hp2]; rfl) ?_
          refine Qq ?_
          refine Qq ?_
          refine Qq ?_
          refine Qq ?_
          refine Qq ?_
          refine Q_nil ?_
          have tr : ∀ y0 y1 y2 y3 y4 y5 y6 y7 y14 y22 y23 y24 y52 y66 y99 z0 z1 z2 z3 z4 z5 z6 z7 z8 z9 z10 z11 z12 z13 z14 z15 z16 z17 z18 z19 z20 z21 z22 z23 : AV, trim [(7, z23), (89, z22), (88, z21), (87, z20), (86, z19), (85, z18), (84, z17), (83, z16), (82, z15), (81, z14), (80, z13), (79, z12), (78, z11), (77, z10), (76, z9), (75, z8), (74, z7), (73, z6), (72, z5), (71, z4), (70, z3), (69, z2), (68, z1), (67, z0), (0, y0), (1, y1), (2, y2), (3, y3), (4, y4), (5, y5), (6, y6), (7, y7), (14, y14), (22, y22), (23, y23), (24, y24), (52, y52), (66, y66), (99, y99)] [(0, y0), (1, y1), (2, y2), (3, y3), (4, y4), (5, y5), (6, y6), (7, y7), (14, y14), (22, y22), (23, y23), (24, y24), (52, y52), (66, y66), (99, y99)] = [(0, y0), (1, y1), (2, y2), (3, y3), (4, y4), (5, y5), (6, y6), (7, z23), (14, y14), (22, y22), (23, y23), (24, y24), (52, y52), (66, y66), (99, y99)] := fun y0 y1 y2 y3 y4 y5 y6 y7 y14 y22 y23 y24 y52 y66 y99 z0 z1 z2 z3 z4 z5 z6 z7 z8 z9 z10 z11 z12 z13 z14 z15 z16 z17 z18 z19 z20 z21 z22 z23 => rfl
          refine R_nil (tr _ _ _ _ _ _ _ _ _ _ _ _ _ _ _ _ _ _ _ _ _ _ _ _ _ _ _ _ _ _ _ _ _ _ _ _ _ _ _) ?_; clear tr
          refine then_n ?_
          refine at_seq rfl ?_
          refine rg rfl ?_
          refine Rq ?_
          refine Rq ?_
          refine R_q rfl (by simp (disch := first | omega | (simp only [List.length_map, List.length_append, List.length_set, List.length_cons, List.length_nil, List.length_take, List.length_drop]; omega)) only [go_sem, ↓reduceIte, Nat.reduceEqDiff, reduceCtorEq, hT, cu, hrow, hcell, hp2]; rfl) ?_
          refine Rq ?_
          refine Rq ?_
          refine R_q rfl (by simp (disch := first | omega | (simp only [List.length_map, List.length_append, List.length_set, List.length_cons, List.length_nil, List.length_take, List.length_drop]; omega)) only [go_sem, ↓reduceIte, Nat.reduceEqDiff, reduceCtorEq, hT, cu, hrow, hcell, hp2]; rfl) ?_
          refine Rq ?_
          refine Rq ?_
          refine R_q rfl (by simp (disch := first | omega | (simp only [List.length_map, List.length_append, List.length_set, List.length_cons, List.length_nil, List.length_take, List.length_drop]; omega)) only [go_sem, ↓reduceIte, Nat.reduceEqDiff, reduceCtorEq, hT, cu, hrow, hcell, hp2]; rfl) ?_
          refine Rq ?_
          have tr : ∀ y0 y1 y2 y3 y4 y5 y6 y7 y14 y22 y23 y24 y52 y66 y99 z0 z1 z2 z3 z4 z5 z6 z7 z8 z9 : AV, trim [(99, z9), (98, z8), (97, z7), (96, z6), (95, z5), (94, z4), (93, z3), (92, z2), (91, z1), (90, z0), (0, y0), (1, y1), (2, y2), (3, y3), (4, y4), (5, y5), (6, y6), (7, y7), (14, y14), (22, y22), (23, y23), (24, y24), (52, y52), (66, y66), (99, y99)] [(0, y0), (1, y1), (2, y2), (3, y3), (4, y4), (5, y5), (6, y6), (7, y7), (14, y14), (22, y22), (23, y23), (24, y24), (52, y52), (66, y66), (99, y99)] = [(0, y0), (1, y1), (2, y2), (3, y3), (4, y4), (5, y5), (6, y6), (7, y7), (14, y14), (22, y22), (23, y23), (24, y24), (52, y52), (66, y66), (99, z9)] := fun y0 y1 y2 y3 y4 y5 y6 y7 y14 y22 y23 y24 y52 y66 y99 z0 z1 z2 z3 z4 z5 z6 z7 z8 z9 => rfl
          refine R_nil (tr _ _ _ _ _ _ _ _ _ _ _ _ _ _ _ _ _ _ _ _ _ _ _ _ _) ?_; clear tr
          refine then_n ?_
          refine cdd (fun h5 => ?_) (fun h5 => ?_)
          · try simp only [decide_eq_true_eq, decide_eq_false_iff_not, Bool.not_eq_true', Bool.not_eq_false', beq_iff_eq, beq_eq_false_iff_ne, ne_eq] at h5
            refine at_seq rfl ?_
            refine rg rfl ?_
            refine Rq ?_
            refine R_q rfl (by simp (disch := first | omega | (simp only [List.length_map, List.length_append, List.length_set, List.length_cons, List.length_nil, List.length_take, List.length_drop]; omega)) only [go_sem, ↓reduceIte, Nat.reduceEqDiff, reduceCtorEq, hT, cu, hrow, hcell, hp2]; rfl) ?_
            refine Rq ?_
            refine Rq ?_
            refine R_q rfl (by simp (disch := first | omega | (simp only [List.length_map, List.length_append, List.length_set, List.length_cons, List.length_nil, List.length_take, List.length_drop]; omega)) only [go_sem, ↓reduceIte, Nat.reduceEqDiff, reduceCtorEq, hT, cu, hrow, hcell, hp2]; rfl) ?_
            refine Rq ?_
            refine Rq ?_
            refine Rq ?_
            refine R_store ty2 (by simp (disch := first | omega | (simp only [List.length_map, List.length_append, List.length_set, List.length_cons, List.length_nil, List.length_take, List.length_drop]; omega)) only [go_sem, ↓reduceIte, Nat.reduceEqDiff, reduceCtorEq, hT, cu, hrow, hcell, hp2]; rfl) (by simp (disch := first | omega | (simp only [List.length_map, List.length_append, List.length_set, List.length_cons, List.length_nil, List.length_take, List.length_drop]; omega)) only [go_sem, ↓reduceIte, Nat.reduceEqDiff, reduceCtorEq, hT, cu, hrow, hcell, hp2]; rfl) (hrow u (by omega)) ⟨Nat.le_trans hl (T2.low u (by omega)), rfl, by simp only [List.length_map, hrect2 u (by omega)]; omega⟩ (setL_map _ _ _) rfl ?_
            have tr : ∀ y0 y1 y2 y3 y4 y5 y6 y7 y14 y22 y23 y24 y52 y66 y99 z0 z1 z2 z3 z4 z5 z6 z7 : AV, trim [(107, z7), (106, z6), (105, z5), (104, z4), (103, z3), (102, z2), (101, z1), (100, z0), (0, y0), (1, y1), (2, y2), (3, y3), (4, y4), (5, y5), (6, y6), (7, y7), (14, y14), (22, y22), (23, y23), (24, y24), (52, y52), (66, y66), (99, y99)] [(0, y0), (1, y1), (2, y2), (3, y3), (4, y4), (5, y5), (6, y6), (7, y7), (14, y14), (22, y22), (23, y23), (24, y24), (52, y52), (66, y66), (99, y99)] = [(0, y0), (1, y1), (2, y2), (3, y3), (4, y4), (5, y5), (6, y6), (7, y7), (14, y14), (22, y22), (23, y23), (24, y24), (52, y52), (66, y66), (99, y99)] := fun y0 y1 y2 y3 y4 y5 y6 y7 y14 y22 y23 y24 y52 y66 y99 z0 z1 z2 z3 z4 z5 z6 z7 => rfl
            refine R_nil (tr _ _ _ _ _ _ _ _ _ _ _ _ _ _ _ _ _ _ _ _ _ _ _) ?_; clear tr
            refine then_n ?_
            refine rg rfl ?_
            refine Rq ?_
            have tr : ∀ y0 y1 y2 y3 y4 y5 y6 y7 y14 y22 y23 y24 y52 y66 y99 z0 : AV, trim [(3, z0), (0, y0), (1, y1), (2, y2), (3, y3), (4, y4), (5, y5), (6, y6), (7, y7), (14, y14), (22, y22), (23, y23), (24, y24), (52, y52), (66, y66), (99, y99)] [(0, y0), (1, y1), (2, y2), (3, y3), (4, y4), (5, y5), (6, y6), (7, y7), (14, y14), (22, y22), (23, y23), (24, y24), (52, y52), (66, y66), (99, y99)] = [(0, y0), (1, y1), (2, y2), (3, z0), (4, y4), (5, y5), (6, y6), (7, y7), (14, y14), (22, y22), (23, y23), (24, y24), (52, y52), (66, y66), (99, y99)] := fun y0 y1 y2 y3 y4 y5 y6 y7 y14 y22 y23 y24 y52 y66 y99 z0 => rfl
            refine R_nil (tr _ _ _ _ _ _ _ _ _ _ _ _ _ _ _ _) ?_; clear tr
            refine blk_n ?_
            refine then_n ?_
            refine rg rfl ?_
            refine Rq ?_
            refine Rq ?_
            have tr : ∀ y0 y1 y2 y3 y4 y5 y6 y7 y14 y22 y23 y24 y52 y66 y99 z0 z1 : AV, trim [(23, z1), (108, z0), (0, y0), (1, y1), (2, y2), (3, y3), (4, y4), (5, y5), (6, y6), (7, y7), (14, y14), (22, y22), (23, y23), (24, y24), (52, y52), (66, y66), (99, y99)] [(0, y0), (1, y1), (2, y2), (3, y3), (4, y4), (5, y5), (6, y6), (7, y7), (14, y14), (22, y22), (23, y23), (24, y24), (52, y52), (66, y66), (99, y99)] = [(0, y0), (1, y1), (2, y2), (3, y3), (4, y4), (5, y5), (6, y6), (7, y7), (14, y14), (22, y22), (23, z1), (24, y24), (52, y52), (66, y66), (99, y99)] := fun y0 y1 y2 y3 y4 y5 y6 y7 y14 y22 y23 y24 y52 y66 y99 z0 z1 => rfl
            refine R_nil (tr _ _ _ _ _ _ _ _ _ _ _ _ _ _ _ _ _) ?_; clear tr
            refine then_n ?_
            exact ⟨_, _, ⟨w + 1, _, _, _, _, _, _, _, _, rfl, rfl, by omega, by first | exact J2.raise2 hrect (by omega) (by omega) (hp u (by omega)) (by rewrite [wantedS, m2, m1, hlu2]; (repeat' split) <;> omega) (by omega) _ | exact J2.keep2 (u := u) (w := w) (by rw [wantedS, m2, m1, hlu2]; (repeat' split) <;> omega) (fun i j hd => by omega)⟩, by rfl, by omega⟩
          · try simp only [decide_eq_true_eq, decide_eq_false_iff_not, Bool.not_eq_true', Bool.not_eq_false', beq_iff_eq, beq_eq_false_iff_ne, ne_eq] at h5
            refine at_skip rfl ?_
            refine blk_n ?_
            refine then_n ?_
            refine rg rfl ?_
            refine Rq ?_
            refine Rq ?_
            have tr : ∀ y0 y1 y2 y3 y4 y5 y6 y7 y14 y22 y23 y24 y52 y66 y99 z0 z1 : AV, trim [(23, z1), (108, z0), (0, y0), (1, y1), (2, y2), (3, y3), (4, y4), (5, y5), (6, y6), (7, y7), (14, y14), (22, y22), (23, y23), (24, y24), (52, y52), (66, y66), (99, y99)] [(0, y0), (1, y1), (2, y2), (3, y3), (4, y4), (5, y5), (6, y6), (7, y7), (14, y14), (22, y22), (23, y23), (24, y24), (52, y52), (66, y66), (99, y99)] = [(0, y0), (1, y1), (2, y2), (3, y3), (4, y4), (5, y5), (6, y6), (7, y7), (14, y14), (22, y22), (23, z1), (24, y24), (52, y52), (66, y66), (99, y99)] := fun y0 y1 y2 y3 y4 y5 y6 y7 y14 y22 y23 y24 y52 y66 y99 z0 z1 => rfl
            refine R_nil (tr _ _ _ _ _ _ _ _ _ _ _ _ _ _ _ _ _) ?_; clear tr
            refine then_n ?_
            exact ⟨_, _, ⟨w + 1, _, _, _, _, _, _, _, _, rfl, rfl, by omega, by first | exact J2.raise2 hrect (by omega) (by omega) (hp u (by omega)) (by rewrite [wantedS, m2, m1, hlu2]; (repeat' split) <;> omega) (by omega) _ | exact J2.keep2 (u := u) (w := w) (by rw [wantedS, m2, m1, hlu2]; (repeat' split) <;> omega) (fun i j hd => by omega)⟩, by rfl, by omega⟩
        · try simp only [decide_eq_true_eq, decide_eq_false_iff_not, Bool.not_eq_true', Bool.not_eq_false', beq_iff_eq, beq_eq_false_iff_ne, ne_eq] at h4
          refine at_skip rfl ?_
          refine then_n ?_
          refine at_seq rfl ?_
          refine rg rfl ?_
          refine Rq ?_
          refine Rq ?_
          refine R_q rfl (by simp (disch := first | omega | (simp only [List.length_map, List.length_append, List.length_set, List.length_cons, List.length_nil, List.length_take, List.length_drop]; omega)) only [go_sem, ↓reduceIte, Nat.reduceEqDiff, reduceCtorEq, hT, cu, hrow, hcell, hp2]; rfl) ?_
          refine Rq ?_
          refine Rq ?_
          refine R_q rfl (by simp (disch := first | omega | (simp only [List.length_map, List.length_append, List.length_set, List.length_cons, List.length_nil, List.length_take, List.length_drop]; omega)) only [go_sem, ↓reduceIte, Nat.reduceEqDiff, reduceCtorEq, hT, cu, hrow, hcell, hp2]; rfl) ?_
          refine Rq ?_
          refine Rq ?_
          refine R_q rfl (by simp (disch := first | omega | (simp only [List.length_map, List.length_append, List.length_set, List.length_cons, List.length_nil, List.length_take, List.length_drop]; omega)) only [go_sem, ↓reduceIte, Nat.reduceEqDiff, reduceCtorEq, hT, cu, hrow, hcell, hp2]; rfl) ?_
          refine Rq ?_
          have tr : ∀ y0 y1 y2 y3 y4 y5 y6 y7 y14 y22 y23 y24 y52 y66 y99 z0 z1 z2 z3 z4 z5 z6 z7 z8 z9 : AV, trim [(99, z9), (98, z8), (97, z7), (96, z6), (95, z5), (94, z4), (93, z3), (92, z2), (91, z1), (90, z0), (0, y0), (1, y1), (2, y2), (3, y3), (4, y4), (5, y5), (6, y6), (7, y7), (14, y14), (22, y22), (23, y23), (24, y24), (52, y52), (66, y66), (99, y99)] [(0, y0), (1, y1), (2, y2), (3, y3), (4, y4), (5, y5), (6, y6), (7, y7), (14, y14), (22, y22), (23, y23), (24, y24), (52, y52), (66, y66), (99, y99)] = [(0, y0), (1, y1), (2, y2), (3, y3), (4, y4), (5, y5), (6, y6), (7, y7), (14, y14), (22, y22), (23, y23), (24, y24), (52, y52), (66, y66), (99, z9)] := fun y0 y1 y2 y3 y4 y5 y6 y7 y14 y22 y23 y24 y52 y66 y99 z0 z1 z2 z3 z4 z5 z6 z7 z8 z9 => rfl
          refine R_nil (tr _ _ _ _ _ _ _ _ _ _ _ _ _ _ _ _ _ _ _ _ _ _ _ _ _) ?_; clear tr
          refine then_n ?_
          refine cdd (fun h6 => ?_) (fun h6 => ?_)
          · try simp only [decide_eq_true_eq, decide_eq_false_iff_not, Bool.not_eq_true', Bool.not_eq_false', beq_iff_eq, beq_eq_false_iff_ne, ne_eq] at h6
            refine at_seq rfl ?_
            refine rg rfl ?_
            refine Rq ?_
            refine R_q rfl (by simp (disch := first | omega | (simp only [List.length_map, List.length_append, List.length_set, List.length_cons, List.length_nil, List.length_take, List.length_drop]; omega)) only [go_sem, ↓reduceIte, Nat.reduceEqDiff, reduceCtorEq, hT, cu, hrow, hcell, hp2]; rfl) ?_
            refine Rq ?_
            refine Rq ?_
            refine R_q rfl (by simp (disch := first | omega | (simp only [List.length_map, List.length_append, List.length_set, List.length_cons, List.length_nil, List.length_take, List.length_drop]; omega)) only [go_sem, ↓reduceIte, Nat.reduceEqDiff, reduceCtorEq, hT, cu, hrow, hcell, hp2]; rfl) ?_
            refine Rq ?_
            refine Rq ?_
            refine Rq ?_
            refine R_store ty2 (by simp (disch := first | omega | (simp only [List.length_map, List.length_append, List.length_set, List.length_cons, List.length_nil, List.length_take, List.length_drop]; omega)) only [go_sem, ↓reduceIte, Nat.reduceEqDiff, reduceCtorEq, hT, cu, hrow, hcell, hp2]; rfl) (by simp (disch := first | omega | (simp only [List.length_map, List.length_append, List.length_set, List.length_cons, List.length_nil, List.length_take, List.length_drop]; omega)) only [go_sem, ↓reduceIte, Nat.reduceEqDiff, reduceCtorEq, hT, cu, hrow, hcell, hp2]; rfl) (hrow u (by omega)) ⟨Nat.le_trans hl (T2.low u (by omega)), rfl, by simp only [List.length_map, hrect2 u (by omega)]; omega⟩ (setL_map _ _ _) rfl ?_
            have tr : ∀ y0 y1 y2 y3 y4 y5 y6 y7 y14 y22 y23 y24 y52 y66 y99 z0 z1 z2 z3 z4 z5 z6 z7 : AV, trim [(107, z7), (106, z6), (105, z5), (104, z4), (103, z3), (102, z2), (101, z1), (100, z0), (0, y0), (1, y1), (2, y2), (3, y3), (4, y4), (5, y5), (6, y6), (7, y7), (14, y14), (22, y22), (23, y23), (24, y24), (52, y52), (66, y66), (99, y99)] [(0, y0), (1, y1), (2, y2), (3, y3), (4, y4), (5, y5), (6, y6), (7, y7), (14, y14), (22, y22), (23, y23), (24, y24), (52, y52), (66, y66), (99, y99)] = [(0, y0), (1, y1), (2, y2), (3, y3), (4, y4), (5, y5), (6, y6), (7, y7), (14, y14), (22, y22), (23, y23), (24, y24), (52, y52), (66, y66), (99, y99)] := fun y0 y1 y2 y3 y4 y5 y6 y7 y14 y22 y23 y24 y52 y66 y99 z0 z1 z2 z3 z4 z5 z6 z7 => rfl
            refine R_nil (tr _ _ _ _ _ _ _ _ _ _ _ _ _ _ _ _ _ _ _ _ _ _ _) ?_; clear tr
            refine then_n ?_
            refine rg rfl ?_
            refine Rq ?_
            have tr : ∀ y0 y1 y2 y3 y4 y5 y6 y7 y14 y22 y23 y24 y52 y66 y99 z0 : AV, trim [(3, z0), (0, y0), (1, y1), (2, y2), (3, y3), (4, y4), (5, y5), (6, y6), (7, y7), (14, y14), (22, y22), (23, y23), (24, y24), (52, y52), (66, y66), (99, y99)] [(0, y0), (1, y1), (2, y2), (3, y3), (4, y4), (5, y5), (6, y6), (7, y7), (14, y14), (22, y22), (23, y23), (24, y24), (52, y52), (66, y66), (99, y99)] = [(0, y0), (1, y1), (2, y2), (3, z0), (4, y4), (5, y5), (6, y6), (7, y7), (14, y14), (22, y22), (23, y23), (24, y24), (52, y52), (66, y66), (99, y99)] := fun y0 y1 y2 y3 y4 y5 y6 y7 y14 y22 y23 y24 y52 y66 y99 z0 => rfl
            refine R_nil (tr _ _ _ _ _ _ _ _ _ _ _ _ _ _ _ _) ?_; clear tr
            refine blk_n ?_
            refine then_n ?_
            refine rg rfl ?_
            refine Rq ?_
            refine Rq ?_
            have tr : ∀ y0 y1 y2 y3 y4 y5 y6 y7 y14 y22 y23 y24 y52 y66 y99 z0 z1 : AV, trim [(23, z1), (108, z0), (0, y0), (1, y1), (2, y2), (3, y3), (4, y4), (5, y5), (6, y6), (7, y7), (14, y14), (22, y22), (23, y23), (24, y24), (52, y52), (66, y66), (99, y99)] [(0, y0), (1, y1), (2, y2), (3, y3), (4, y4), (5, y5), (6, y6), (7, y7), (14, y14), (22, y22), (23, y23), (24, y24), (52, y52), (66, y66), (99, y99)] = [(0, y0), (1, y1), (2, y2), (3, y3), (4, y4), (5, y5), (6, y6), (7, y7), (14, y14), (22, y22), (23, z1), (24, y24), (52, y52), (66, y66), (99, y99)] := fun y0 y1 y2 y3 y4 y5 y6 y7 y14 y22 y23 y24 y52 y66 y99 z0 z1 => rfl
            refine R_nil (tr _ _ _ _ _ _ _ _ _ _ _ _ _ _ _ _ _) ?_; clear tr
            refine then_n ?_
            exact ⟨_, _, ⟨w + 1, _, _, _, _, _, _, _, _, rfl, rfl, by omega, by first | exact J2.raise2 hrect (by omega) (by omega) (hp u (by omega)) (by rewrite [wantedS, m2, m1, hlu2]; (repeat' split) <;> omega) (by omega) _ | exact J2.keep2 (u := u) (w := w) (by rw [wantedS, m2, m1, hlu2]; (repeat' split) <;> omega) (fun i j hd => by omega)⟩, by rfl, by omega⟩
          · try simp only [decide_eq_true_eq, decide_eq_false_iff_not, Bool.not_eq_true', Bool.not_eq_false', beq_iff_eq, beq_eq_false_iff_ne, ne_eq] at h6
            refine at_skip rfl ?_
            refine blk_n ?_
            refine then_n ?_
            refine rg rfl ?_
            refine Rq ?_
            refine Rq ?_
            have tr : ∀ y0 y1 y2 y3 y4 y5 y6 y7 y14 y22 y23 y24 y52 y66 y99 z0 z1 : AV, trim [(23, z1), (108, z0), (0, y0), (1, y1), (2, y2), (3, y3), (4, y4), (5, y5), (6, y6), (7, y7), (14, y14), (22, y22), (23, y23), (24, y24), (52, y52), (66, y66), (99, y99)] [(0, y0), (1, y1), (2, y2), (3, y3), (4, y4), (5, y5), (6, y6), (7, y7), (14, y14), (22, y22), (23, y23), (24, y24), (52, y52), (66, y66), (99, y99)] = [(0, y0), (1, y1), (2, y2), (3, y3), (4, y4), (5, y5), (6, y6), (7, y7), (14, y14), (22, y22), (23, z1), (24, y24), (52, y52), (66, y66), (99, y99)] := fun y0 y1 y2 y3 y4 y5 y6 y7 y14 y22 y23 y24 y52 y66 y99 z0 z1 => rfl
            refine R_nil (tr _ _ _ _ _ _ _ _ _ _ _ _ _ _ _ _ _) ?_; clear tr
            refine then_n ?_
            exact ⟨_, _, ⟨w + 1, _, _, _, _, _, _, _, _, rfl, rfl, by omega, by first | exact J2.raise2 hrect (by omega) (by omega) (hp u (by omega)) (by rewrite [wantedS, m2, m1, hlu2]; (repeat' split) <;> omega) (by omega) _ | exact J2.keep2 (u := u) (w := w) (by rw [wantedS, m2, m1, hlu2]; (repeat' split) <;> omega) (fun i j hd => by omega)⟩, by rfl, by omega⟩
      · try simp only [decide_eq_true_eq, decide_eq_false_iff_not, Bool.not_eq_true', Bool.not_eq_false', beq_iff_eq, beq_eq_false_iff_ne, ne_eq] at h3
        refine at_skip rfl ?_
        refine then_n ?_
        refine at_seq rfl ?_
        refine at_seq rfl ?_
        refine rg rfl ?_
        refine Rq ?_
        refine Rq ?_
        refine Rq ?_
        have tr : ∀ y0 y1 y2 y3 y4 y5 y6 y7 y14 y22 y23 y24 y52 y66 y99 z0 z1 z2 : AV, trim [(66, z2), (65, z1), (64, z0), (0, y0), (1, y1), (2, y2), (3, y3), (4, y4), (5, y5), (6, y6), (7, y7), (14, y14), (22, y22), (23, y23), (24, y24), (52, y52), (66, y66), (99, y99)] [(0, y0), (1, y1), (2, y2), (3, y3), (4, y4), (5, y5), (6, y6), (7, y7), (14, y14), (22, y22), (23, y23), (24, y24), (52, y52), (66, y66), (99, y99)] = [(0, y0), (1, y1), (2, y2), (3, y3), (4, y4), (5, y5), (6, y6), (7, y7), (14, y14), (22, y22), (23, y23), (24, y24), (52, y52), (66, z2), (99, y99)] := fun y0 y1 y2 y3 y4 y5 y6 y7 y14 y22 y23 y24 y52 y66 y99 z0 z1 z2 => rfl
        refine R_nil (tr _ _ _ _ _ _ _ _ _ _ _ _ _ _ _ _ _ _) ?_; clear tr
        refine then_n ?_
        refine cdd (fun h7 => ?_) (fun h7 => ?_)
        · try simp only [decide_eq_true_eq, decide_eq_false_iff_not, Bool.not_eq_true', Bool.not_eq_false', beq_iff_eq, beq_eq_false_iff_ne, ne_eq] at h7
          refine rd rfl rfl ?_
          have ra : 0 ≤ gt (gt l2 (u - 1)) w ∧ gt (gt l2 (u - 1)) w ≤ 10000 := J2.inv.rng _ (by omega) _ (by rw [hrect2 _ (by omega)]; omega)
          have rb : 0 ≤ gt (gt l2 (u + 1)) w ∧ gt (gt l2 (u + 1)) w ≤ 10000 := J2.inv.rng _ (by omega) _ (by rw [hrect2 _ (by omega)]; omega)
          refine Qq ?_
          refine Qq ?_
          refine Q_q rfl (by simp (disch := first | omega | (simp only [List.length_map, List.length_append, List.length_set, List.length_cons, List.length_nil, List.length_take, List.length_drop]; omega)) only [go_sem, ↓reduceIte, Nat.reduceEqDiff, reduceCtorEq, hT, cu, hrow, hcell, hp2]; rfl) ?_
          refine Qq ?_
          refine Qq ?_
          refine Qq ?_
          refine Q_q rfl (by simp (disch := first | omega | (simp only [List.length_map, List.length_append, List.length_set, List.length_cons, List.length_nil, List.length_take, List.length_drop]; omega)) only [go_sem, ↓reduceIte, Nat.reduceEqDiff, reduceCtorEq, hT, cu, hrow, hcell, hp2]; rfl) ?_
          refine Qq ?_
          refine Qq ?_
          refine Q_q rfl (by simp (disch := first | omega | (simp only [List.length_map, List.length_append, List.length_set, List.length_cons, List.length_nil, List.length_take, List.length_drop]; omega)) only [go_sem, ↓reduceIte, Nat.reduceEqDiff, reduceCtorEq, hT, cu, hrow, hcell, hp2]; rfl) ?_
          refine Qq ?_
          refine Q_q rfl (by simp (disch := first | omega | (simp only [List.length_map, List.length_append, List.length_set, List.length_cons, List.length_nil, List.length_take, List.length_drop]; omega)) only [go_sem, ↓reduceIte, Nat.reduceEqDiff, reduceCtorEq, hT, cu, hrow, hcell, hp2]; rfl) ?_
          refine Qq ?_
          refine Qq ?_
          refine Qq ?_
          refine Q_q rfl (by simp (disch := first | omega | (simp only [List.length_map, List.length_append, List.length_set, List.length_cons, List.length_nil, List.length_take, List.length_drop]; omega)) only [go_sem, ↓reduceIte, Nat.reduceEqDiff, reduceCtorEq, hT, cu, hrow, hcell, hp2]; rfl) ?_
          refine Qq ?_
          refine Qq ?_
          refine Q_q rfl (by simp (disch := first | omega | (simp only [List.length_map, List.length_append, List.length_set, List.length_cons, List.length_nil, List.length_take, List.length_drop]; omega)) only [go_sem, ↓reduceIte, Nat.reduceEqDiff, reduceCtorEq, hT, cu, hrow, hcell, hp2]; rfl) ?_
          refine Qq ?_
          refine Qq ?_
          refine Qq ?_
          refine Qq ?_
          refine Qq ?_
          refine Q_nil ?_
          have tr : ∀ y0 y1 y2 y3 y4 y5 y6 y7 y14 y22 y23 y24 y52 y66 y99 z0 z1 z2 z3 z4 z5 z6 z7 z8 z9 z10 z11 z12 z13 z14 z15 z16 z17 z18 z19 z20 z21 z22 z23 : AV, trim [(7, z23), (89, z22), (88, z21), (87, z20), (86, z19), (85, z18), (84, z17), (83, z16), (82, z15), (81, z14), (80, z13), (79, z12), (78, z11), (77, z10), (76, z9), (75, z8), (74, z7), (73, z6), (72, z5), (71, z4), (70, z3), (69, z2), (68, z1), (67, z0), (0, y0), (1, y1), (2, y2), (3, y3), (4, y4), (5, y5), (6, y6), (7, y7), (14, y14), (22, y22), (23, y23), (24, y24), (52, y52), (66, y66), (99, y99)] [(0, y0), (1, y1), (2, y2), (3, y3), (4, y4), (5, y5), (6, y6), (7, y7), (14, y14), (22, y22), (23, y23), (24, y24), (52, y52), (66, y66), (99, y99)] = [(0, y0), (1, y1), (2, y2), (3, y3), (4, y4), (5, y5), (6, y6), (7, z23), (14, y14), (22, y22), (23, y23), (24, y24), (52, y52), (66, y66), (99, y99)] := fun y0 y1 y2 y3 y4 y5 y6 y7 y14 y22 y23 y24 y52 y66 y99 z0 z1 z2 z3 z4 z5 z6 z7 z8 z9 z10 z11 z12 z13 z14 z15 z16 z17 z18 z19 z20 z21 z22 z23 => rfl
          refine R_nil (tr _ _ _ _ _ _ _ _ _ _ _ _ _ _ _ _ _ _ _ _ _ _ _ _ _ _ _ _ _ _ _ _ _ _ _ _ _ _ _) ?_; clear tr
          refine then_n ?_
          refine at_seq rfl ?_
          refine rg rfl ?_
          refine Rq ?_
          refine Rq ?_
          refine R_q rfl (by simp (disch := first | omega | (simp only [List.length_map, List.length_append, List.length_set, List.length_cons, List.length_nil, List.length_take, List.length_drop]; omega)) only [go_sem, ↓reduceIte, Nat.reduceEqDiff, reduceCtorEq, hT, cu, hrow, hcell, hp2]; rfl) ?_
          refine Rq ?_
          refine Rq ?_
          refine R_q rfl (by simp (disch := first | omega | (simp only [List.length_map, List.length_append, List.length_set, List.length_cons, List.length_nil, List.length_take, List.length_drop]; omega)) only [go_sem, ↓reduceIte, Nat.reduceEqDiff, reduceCtorEq, hT, cu, hrow, hcell, hp2]; rfl) ?_
          refine Rq ?_
          refine Rq ?_
          refine R_q rfl (by simp (disch := first | omega | (simp only [List.length_map, List.length_append, List.length_set, List.length_cons, List.length_nil, List.length_take, List.length_drop]; omega)) only [go_sem, ↓reduceIte, Nat.reduceEqDiff, reduceCtorEq, hT, cu, hrow, hcell, hp2]; rfl) ?_
          refine Rq ?_
          have tr : ∀ y0 y1 y2 y3 y4 y5 y6 y7 y14 y22 y23 y24 y52 y66 y99 z0 z1 z2 z3 z4 z5 z6 z7 z8 z9 : AV, trim [(99, z9), (98, z8), (97, z7), (96, z6), (95, z5), (94, z4), (93, z3), (92, z2), (91, z1), (90, z0), (0, y0), (1, y1), (2, y2), (3, y3), (4, y4), (5, y5), (6, y6), (7, y7), (14, y14), (22, y22), (23, y23), (24, y24), (52, y52), (66, y66), (99, y99)] [(0, y0), (1, y1), (2, y2), (3, y3), (4, y4), (5, y5), (6, y6), (7, y7), (14, y14), (22, y22), (23, y23), (24, y24), (52, y52), (66, y66), (99, y99)] = [(0, y0), (1, y1), (2, y2), (3, y3), (4, y4), (5, y5), (6, y6), (7, y7), (14, y14), (22, y22), (23, y23), (24, y24), (52, y52), (66, y66), (99, z9)] := fun y0 y1 y2 y3 y4 y5 y6 y7 y14 y22 y23 y24 y52 y66 y99 z0 z1 z2 z3 z4 z5 z6 z7 z8 z9 => rfl
          refine R_nil (tr _ _ _ _ _ _ _ _ _ _ _ _ _ _ _ _ _ _ _ _ _ _ _ _ _) ?_; clear tr
          refine then_n ?_
          refine cdd (fun h8 => ?_) (fun h8 => ?_)
          · try simp only [decide_eq_true_eq, decide_eq_false_iff_not, Bool.not_eq_true', Bool.not_eq_false', beq_iff_eq, beq_eq_false_iff_ne, ne_eq] at h8
            refine at_seq rfl ?_
            refine rg rfl ?_
            refine Rq ?_
            refine R_q rfl (by simp (disch := first | omega | (simp only [List.length_map, List.length_append, List.length_set, List.length_cons, List.length_nil, List.length_take, List.length_drop]; omega)) only [go_sem, ↓reduceIte, Nat.reduceEqDiff, reduceCtorEq, hT, cu, hrow, hcell, hp2]; rfl) ?_
            refine Rq ?_
            refine Rq ?_
            refine R_q rfl (by simp (disch := first | omega | (simp only [List.length_map, List.length_append, List.length_set, List.length_cons, List.length_nil, List.length_take, List.length_drop]; omega)) only [go_sem, ↓reduceIte, Nat.reduceEqDiff, reduceCtorEq, hT, cu, hrow, hcell, hp2]; rfl) ?_
            refine Rq ?_
            refine Rq ?_
            refine Rq ?_
            refine R_store ty2 (by simp (disch := first | omega | (simp only [List.length_map, List.length_append, List.length_set, List.length_cons, List.length_nil, List.length_take, List.length_drop]; omega)) only [go_sem, ↓reduceIte, Nat.reduceEqDiff, reduceCtorEq, hT, cu, hrow, hcell, hp2]; rfl) (by simp (disch := first | omega | (simp only [List.length_map, List.length_append, List.length_set, List.length_cons, List.length_nil, List.length_take, List.length_drop]; omega)) only [go_sem, ↓reduceIte, Nat.reduceEqDiff, reduceCtorEq, hT, cu, hrow, hcell, hp2]; rfl) (hrow u (by omega)) ⟨Nat.le_trans hl (T2.low u (by omega)), rfl, by simp only [List.length_map, hrect2 u (by omega)]; omega⟩ (setL_map _ _ _) rfl ?_
            have tr : ∀ y0 y1 y2 y3 y4 y5 y6 y7 y14 y22 y23 y24 y52 y66 y99 z0 z1 z2 z3 z4 z5 z6 z7 : AV, trim [(107, z7), (106, z6), (105, z5), (104, z4), (103, z3), (102, z2), (101, z1), (100, z0), (0, y0), (1, y1), (2, y2), (3, y3), (4, y4), (5, y5), (6, y6), (7, y7), (14, y14), (22, y22), (23, y23), (24, y24), (52, y52), (66, y66), (99, y99)] [(0, y0), (1, y1), (2, y2), (3, y3), (4, y4), (5, y5), (6, y6), (7, y7), (14, y14), (22, y22), (23, y23), (24, y24), (52, y52), (66, y66), (99, y99)] = [(0, y0), (1, y1), (2, y2), (3, y3), (4, y4), (5, y5), (6, y6), (7, y7), (14, y14), (22, y22), (23, y23), (24, y24), (52, y52), (66, y66), (99, y99)] := fun y0 y1 y2 y3 y4 y5 y6 y7 y14 y22 y23 y24 y52 y66 y99 z0 z1 z2 z3 z4 z5 z6 z7 => rfl
            refine R_nil (tr _ _ _ _ _ _ _ _ _ _ _ _ _ _ _ _ _ _ _ _ _ _ _) ?_; clear tr
            refine then_n ?_
            refine rg rfl ?_
            refine Rq ?_
            have tr : ∀ y0 y1 y2 y3 y4 y5 y6 y7 y14 y22 y23 y24 y52 y66 y99 z0 : AV, trim [(3, z0), (0, y0), (1, y1), (2, y2), (3, y3), (4, y4), (5, y5), (6, y6), (7, y7), (14, y14), (22, y22), (23, y23), (24, y24), (52, y52), (66, y66), (99, y99)] [(0, y0), (1, y1), (2, y2), (3, y3), (4, y4), (5, y5), (6, y6), (7, y7), (14, y14), (22, y22), (23, y23), (24, y24), (52, y52), (66, y66), (99, y99)] = [(0, y0), (1, y1), (2, y2), (3, z0), (4, y4), (5, y5), (6, y6), (7, y7), (14, y14), (22, y22), (23, y23), (24, y24), (52, y52), (66, y66), (99, y99)] := fun y0 y1 y2 y3 y4 y5 y6 y7 y14 y22 y23 y24 y52 y66 y99 z0 => rfl
            refine R_nil (tr _ _ _ _ _ _ _ _ _ _ _ _ _ _ _ _) ?_; clear tr
            refine blk_n ?_
            refine then_n ?_
            refine rg rfl ?_
            refine Rq ?_
            refine Rq ?_
            have tr : ∀ y0 y1 y2 y3 y4 y5 y6 y7 y14 y22 y23 y24 y52 y66 y99 z0 z1 : AV, trim [(23, z1), (108, z0), (0, y0), (1, y1), (2, y2), (3, y3), (4, y4), (5, y5), (6, y6), (7, y7), (14, y14), (22, y22), (23, y23), (24, y24), (52, y52), (66, y66), (99, y99)] [(0, y0), (1, y1), (2, y2), (3, y3), (4, y4), (5, y5), (6, y6), (7, y7), (14, y14), (22, y22), (23, y23), (24, y24), (52, y52), (66, y66), (99, y99)] = [(0, y0), (1, y1), (2, y2), (3, y3), (4, y4), (5, y5), (6, y6), (7, y7), (14, y14), (22, y22), (23, z1), (24, y24), (52, y52), (66, y66), (99, y99)] := fun y0 y1 y2 y3 y4 y5 y6 y7 y14 y22 y23 y24 y52 y66 y99 z0 z1 => rfl
            refine R_nil (tr _ _ _ _ _ _ _ _ _ _ _ _ _ _ _ _ _) ?_; clear tr
            refine then_n ?_
            exact ⟨_, _, ⟨w + 1, _, _, _, _, _, _, _, _, rfl, rfl, by omega, by first | exact J2.raise2 hrect (by omega) (by omega) (hp u (by omega)) (by rewrite [wantedS, m2, m1, hlu2]; (repeat' split) <;> omega) (by omega) _ | exact J2.keep2 (u := u) (w := w) (by rw [wantedS, m2, m1, hlu2]; (repeat' split) <;> omega) (fun i j hd => by omega)⟩, by rfl, by omega⟩
          · try simp only [decide_eq_true_eq, decide_eq_false_iff_not, Bool.not_eq_true', Bool.not_eq_false', beq_iff_eq, beq_eq_false_iff_ne, ne_eq] at h8
            refine at_skip rfl ?_
            refine blk_n ?_
            refine then_n ?_
            refine rg rfl ?_
            refine Rq ?_
            refine Rq ?_
            have tr : ∀ y0 y1 y2 y3 y4 y5 y6 y7 y14 y22 y23 y24 y52 y66 y99 z0 z1 : AV, trim [(23, z1), (108, z0), (0, y0), (1, y1), (2, y2), (3, y3), (4, y4), (5, y5), (6, y6), (7, y7), (14, y14), (22, y22), (23, y23), (24, y24), (52, y52), (66, y66), (99, y99)] [(0, y0), (1, y1), (2, y2), (3, y3), (4, y4), (5, y5), (6, y6), (7, y7), (14, y14), (22, y22), (23, y23), (24, y24), (52, y52), (66, y66), (99, y99)] = [(0, y0), (1, y1), (2, y2), (3, y3), (4, y4), (5, y5), (6, y6), (7, y7), (14, y14), (22, y22), (23, z1), (24, y24), (52, y52), (66, y66), (99, y99)] := fun y0 y1 y2 y3 y4 y5 y6 y7 y14 y22 y23 y24 y52 y66 y99 z0 z1 => rfl
            refine R_nil (tr _ _ _ _ _ _ _ _ _ _ _ _ _ _ _ _ _) ?_; clear tr
            refine then_n ?_
            exact ⟨_, _, ⟨w + 1, _, _, _, _, _, _, _, _, rfl, rfl, by omega, by first | exact J2.raise2 hrect (by omega) (by omega) (hp u (by omega)) (by rewrite [wantedS, m2, m1, hlu2]; (repeat' split) <;> omega) (by omega) _ | exact J2.keep2 (u := u) (w := w) (by rw [wantedS, m2, m1, hlu2]; (repeat' split) <;> omega) (fun i j hd => by omega)⟩, by rfl, by omega⟩
        · try simp only [decide_eq_true_eq, decide_eq_false_iff_not, Bool.not_eq_true', Bool.not_eq_false', beq_iff_eq, beq_eq_false_iff_ne, ne_eq] at h7
          refine at_skip rfl ?_
          refine then_n ?_
          refine at_seq rfl ?_
          refine rg rfl ?_
          refine Rq ?_
          refine Rq ?_
          refine R_q rfl (by simp (disch := first | omega | (simp only [List.length_map, List.length_append, List.length_set, List.length_cons, List.length_nil, List.length_take, List.length_drop]; omega)) only [go_sem, ↓reduceIte, Nat.reduceEqDiff, reduceCtorEq, hT, cu, hrow, hcell, hp2]; rfl) ?_
          refine Rq ?_
          refine Rq ?_
          refine R_q rfl (by simp (disch := first | omega | (simp only [List.length_map, List.length_append, List.length_set, List.length_cons, List.length_nil, List.length_take, List.length_drop]; omega)) only [go_sem, ↓reduceIte, Nat.reduceEqDiff, reduceCtorEq, hT, cu, hrow, hcell, hp2]; rfl) ?_
          refine Rq ?_
          refine Rq ?_
          refine R_q rfl (by simp (disch := first | omega | (simp only [List.length_map, List.length_append, List.length_set, List.length_cons, List.length_nil, List.length_take, List.length_drop]; omega)) only [go_sem, ↓reduceIte, Nat.reduceEqDiff, reduceCtorEq, hT, cu, hrow, hcell, hp2]; rfl) ?_
          refine Rq ?_
          have tr : ∀ y0 y1 y2 y3 y4 y5 y6 y7 y14 y22 y23 y24 y52 y66 y99 z0 z1 z2 z3 z4 z5 z6 z7 z8 z9 : AV, trim [(99, z9), (98, z8), (97, z7), (96, z6), (95, z5), (94, z4), (93, z3), (92, z2), (91, z1), (90, z0), (0, y0), (1, y1), (2, y2), (3, y3), (4, y4), (5, y5), (6, y6), (7, y7), (14, y14), (22, y22), (23, y23), (24, y24), (52, y52), (66, y66), (99, y99)] [(0, y0), (1, y1), (2, y2), (3, y3), (4, y4), (5, y5), (6, y6), (7, y7), (14, y14), (22, y22), (23, y23), (24, y24), (52, y52), (66, y66), (99, y99)] = [(0, y0), (1, y1), (2, y2), (3, y3), (4, y4), (5, y5), (6, y6), (7, y7), (14, y14), (22, y22), (23, y23), (24, y24), (52, y52), (66, y66), (99, z9)] := fun y0 y1 y2 y3 y4 y5 y6 y7 y14 y22 y23 y24 y52 y66 y99 z0 z1 z2 z3 z4 z5 z6 z7 z8 z9 => rfl
          refine R_nil (tr _ _ _ _ _ _ _ _ _ _ _ _ _ _ _ _ _ _ _ _ _ _ _ _ _) ?_; clear tr
          refine then_n ?_
          refine cdd (fun h9 => ?_) (fun h9 => ?_)
          · try simp only [decide_eq_true_eq, decide_eq_false_iff_not, Bool.not_eq_true', Bool.not_eq_false', beq_iff_eq, beq_eq_false_iff_ne, ne_eq] at h9
            refine at_seq rfl ?_
            refine rg rfl ?_
            refine Rq ?_
            refine R_q rfl (by simp (disch := first | omega | (simp only [List.length_map, List.length_append, List.length_set, List.length_cons, List.length_nil, List.length_take, List.length_drop]; omega)) only [go_sem, ↓reduceIte, Nat.reduceEqDiff, reduceCtorEq, hT, cu, hrow, hcell, hp2]; rfl) ?_
            refine Rq ?_
            refine Rq ?_
            refine R_q rfl (by simp (disch := first | omega | (simp only [List.length_map, List.length_append, List.length_set, List.length_cons, List.length_nil, List.length_take, List.length_drop]; omega)) only [go_sem, ↓reduceIte, Nat.reduceEqDiff, reduceCtorEq, hT, cu, hrow, hcell, hp2]; rfl) ?_
            refine Rq ?_
            refine Rq ?_
            refine Rq ?_
            refine R_store ty2 (by simp (disch := first | omega | (simp only [List.length_map, List.length_append, List.length_set, List.length_cons, List.length_nil, List.length_take, List.length_drop]; omega)) only [go_sem, ↓reduceIte, Nat.reduceEqDiff, reduceCtorEq, hT, cu, hrow, hcell, hp2]; rfl) (by simp (disch := first | omega | (simp only [List.length_map, List.length_append, List.length_set, List.length_cons, List.length_nil, List.length_take, List.length_drop]; omega)) only [go_sem, ↓reduceIte, Nat.reduceEqDiff, reduceCtorEq, hT, cu, hrow, hcell, hp2]; rfl) (hrow u (by omega)) ⟨Nat.le_trans hl (T2.low u (by omega)), rfl, by simp only [List.length_map, hrect2 u (by omega)]; omega⟩ (setL_map _ _ _) rfl ?_
            have tr : ∀ y0 y1 y2 y3 y4 y5 y6 y7 y14 y22 y23 y24 y52 y66 y99 z0 z1 z2 z3 z4 z5 z6 z7 : AV, trim [(107, z7), (106, z6), (105, z5), (104, z4), (103, z3), (102, z2), (101, z1), (100, z0), (0, y0), (1, y1), (2, y2), (3, y3), (4, y4), (5, y5), (6, y6), (7, y7), (14, y14), (22, y22), (23, y23), (24, y24), (52, y52), (66, y66), (99, y99)] [(0, y0), (1, y1), (2, y2), (3, y3), (4, y4), (5, y5), (6, y6), (7, y7), (14, y14), (22, y22), (23, y23), (24, y24), (52, y52), (66, y66), (99, y99)] = [(0, y0), (1, y1), (2, y2), (3, y3), (4, y4), (5, y5), (6, y6), (7, y7), (14, y14), (22, y22), (23, y23), (24, y24), (52, y52), (66, y66), (99, y99)] := fun y0 y1 y2 y3 y4 y5 y6 y7 y14 y22 y23 y24 y52 y66 y99 z0 z1 z2 z3 z4 z5 z6 z7 => rfl
            refine R_nil (tr _ _ _ _ _ _ _ _ _ _ _ _ _ _ _ _ _ _ _ _ _ _ _) ?_; clear tr
            refine then_n ?_
            refine rg rfl ?_
            refine Rq ?_
            have tr : ∀ y0 y1 y2 y3 y4 y5 y6 y7 y14 y22 y23 y24 y52 y66 y99 z0 : AV, trim [(3, z0), (0, y0), (1, y1), (2, y2), (3, y3), (4, y4), (5, y5), (6, y6), (7, y7), (14, y14), (22, y22), (23, y23), (24, y24), (52, y52), (66, y66), (99, y99)] [(0, y0), (1, y1), (2, y2), (3, y3), (4, y4), (5, y5), (6, y6), (7, y7), (14, y14), (22, y22), (23, y23), (24, y24), (52, y52), (66, y66), (99, y99)] = [(0, y0), (1, y1), (2, y2), (3, z0), (4, y4), (5, y5), (6, y6), (7, y7), (14, y14), (22, y22), (23, y23), (24, y24), (52, y52), (66, y66), (99, y99)] := fun y0 y1 y2 y3 y4 y5 y6 y7 y14 y22 y23 y24 y52 y66 y99 z0 => rfl
            refine R_nil (tr _ _ _ _ _ _ _ _ _ _ _ _ _ _ _ _) ?_; clear tr
            refine blk_n ?_
            refine then_n ?_
            refine rg rfl ?_
            refine Rq ?_
            refine Rq ?_
            have tr : ∀ y0 y1 y2 y3 y4 y5 y6 y7 y14 y22 y23 y24 y52 y66 y99 z0 z1 : AV, trim [(23, z1), (108, z0), (0, y0), (1, y1), (2, y2), (3, y3), (4, y4), (5, y5), (6, y6), (7, y7), (14, y14), (22, y22), (23, y23), (24, y24), (52, y52), (66, y66), (99, y99)] [(0, y0), (1, y1), (2, y2), (3, y3), (4, y4), (5, y5), (6, y6), (7, y7), (14, y14), (22, y22), (23, y23), (24, y24), (52, y52), (66, y66), (99, y99)] = [(0, y0), (1, y1), (2, y2), (3, y3), (4, y4), (5, y5), (6, y6), (7, y7), (14, y14), (22, y22), (23, z1), (24, y24), (52, y52), (66, y66), (99, y99)] := fun y0 y1 y2 y3 y4 y5 y6 y7 y14 y22 y23 y24 y52 y66 y99 z0 z1 => rfl
            refine R_nil (tr _ _ _ _ _ _ _ _ _ _ _ _ _ _ _ _ _) ?_; clear tr
            refine then_n ?_
            exact ⟨_, _, ⟨w + 1, _, _, _, _, _, _, _, _, rfl, rfl, by omega, by first | exact J2.raise2 hrect (by omega) (by omega) (hp u (by omega)) (by rewrite [wantedS, m2, m1, hlu2]; (repeat' split) <;> omega) (by omega) _ | exact J2.keep2 (u := u) (w := w) (by rw [wantedS, m2, m1, hlu2]; (repeat' split) <;> omega) (fun i j hd => by omega)⟩, by rfl, by omega⟩
          · try simp only [decide_eq_true_eq, decide_eq_false_iff_not, Bool.not_eq_true', Bool.not_eq_false', beq_iff_eq, beq_eq_false_iff_ne, ne_eq] at h9
            refine at_skip rfl ?_
            refine blk_n ?_
            refine then_n ?_
            refine rg rfl ?_
            refine Rq ?_
            refine Rq ?_
            have tr : ∀ y0 y1 y2 y3 y4 y5 y6 y7 y14 y22 y23 y24 y52 y66 y99 z0 z1 : AV, trim [(23, z1), (108, z0), (0, y0), (1, y1), (2, y2), (3, y3), (4, y4), (5, y5), (6, y6), (7, y7), (14, y14), (22, y22), (23, y23), (24, y24), (52, y52), (66, y66), (99, y99)] [(0, y0), (1, y1), (2, y2), (3, y3), (4, y4), (5, y5), (6, y6), (7, y7), (14, y14), (22, y22), (23, y23), (24, y24), (52, y52), (66, y66), (99, y99)] = [(0, y0), (1, y1), (2, y2), (3, y3), (4, y4), (5, y5), (6, y6), (7, y7), (14, y14), (22, y22), (23, z1), (24, y24), (52, y52), (66, y66), (99, y99)] := fun y0 y1 y2 y3 y4 y5 y6 y7 y14 y22 y23 y24 y52 y66 y99 z0 z1 => rfl
            refine R_nil (tr _ _ _ _ _ _ _ _ _ _ _ _ _ _ _ _ _) ?_; clear tr
            refine then_n ?_
            exact ⟨_, _, ⟨w + 1, _, _, _, _, _, _, _, _, rfl, rfl, by omega, by first | exact J2.raise2 hrect (by omega) (by omega) (hp u (by omega)) (by rewrite [wantedS, m2, m1, hlu2]; (repeat' split) <;> omega) (by omega) _ | exact J2.keep2 (u := u) (w := w) (by rw [wantedS, m2, m1, hlu2]; (repeat' split) <;> omega) (fun i j hd => by omega)⟩, by rfl, by omega⟩
    · try simp only [decide_eq_true_eq, decide_eq_false_iff_not, Bool.not_eq_true', Bool.not_eq_false', beq_iff_eq, beq_eq_false_iff_ne, ne_eq] at h2
      refine at_exit rfl ?_
      refine then_x ?_
      refine then_x ?_
      refine blk_x ?_
      refine blk_n ?_
      refine then_n ?_
      refine rg rfl ?_
      refine Rq ?_
      refine Rq ?_
      refine Rq ?_
      have tr : ∀ y0 y1 y2 y3 y4 y5 y6 y7 y14 y22 y23 y24 y52 y66 y99 z0 z1 z2 : AV, trim [(5, z2), (16, z1), (15, z0), (0, y0), (1, y1), (2, y2), (3, y3), (4, y4), (5, y5), (6, y6), (7, y7), (14, y14), (22, y22), (23, y23), (24, y24), (52, y52), (66, y66), (99, y99)] [(0, y0), (1, y1), (2, y2), (3, y3), (4, y4), (5, y5), (6, y6), (7, y7), (14, y14), (22, y22), (23, y23), (24, y24), (52, y52), (66, y66), (99, y99)] = [(0, y0), (1, y1), (2, y2), (3, y3), (4, y4), (5, z2), (6, y6), (7, y7), (14, y14), (22, y22), (23, y23), (24, y24), (52, y52), (66, y66), (99, y99)] := fun y0 y1 y2 y3 y4 y5 y6 y7 y14 y22 y23 y24 y52 y66 y99 z0 z1 z2 => rfl
      refine R_nil (tr _ _ _ _ _ _ _ _ _ _ _ _ _ _ _ _ _ _) ?_; clear tr
      refine then_n ?_
      exact ⟨_, _, ⟨u + 1, _, _, _, _, _, _, _, _, _, _, _, rfl, rfl, by omega, by omega, by exact J2.mono (fun i j hd _ hj => by omega)⟩, by rfl, by omega⟩
  · try simp only [decide_eq_true_eq, decide_eq_false_iff_not, Bool.not_eq_true', Bool.not_eq_false', beq_iff_eq, beq_eq_false_iff_ne, ne_eq] at h1
    refine at_exit rfl ?_
    refine then_x ?_
    refine then_x ?_
    refine blk_x ?_
    refine then_n ?_
    refine at_seq rfl ?_
    refine rg rfl ?_
    refine Rq ?_
    refine Rq ?_
    have tr : ∀ y0 y1 y2 y3 y4 y5 y6 y7 y14 y22 y23 y24 y52 y66 y99 z0 z1 : AV, trim [(2, z1), (109, z0), (0, y0), (1, y1), (2, y2), (3, y3), (4, y4), (5, y5), (6, y6), (7, y7), (14, y14), (22, y22), (23, y23), (24, y24), (52, y52), (66, y66), (99, y99)] [(0, y0), (1, y1), (2, y2), (3, y3), (4, y4), (5, y5), (6, y6), (7, y7), (14, y14), (22, y22), (23, y23), (24, y24), (52, y52), (66, y66), (99, y99)] = [(0, y0), (1, y1), (2, z1), (3, y3), (4, y4), (5, y5), (6, y6), (7, y7), (14, y14), (22, y22), (23, y23), (24, y24), (52, y52), (66, y66), (99, y99)] := fun y0 y1 y2 y3 y4 y5 y6 y7 y14 y22 y23 y24 y52 y66 y99 z0 z1 => rfl
    refine R_nil (tr _ _ _ _ _ _ _ _ _ _ _ _ _ _ _ _ _) ?_; clear tr
    refine then_n ?_
    refine at_ret rfl ?_
    refine fin_own rfl (by simp only [go_sem, ↓reduceIte, Nat.reduceEqDiff]; rfl) ?_
    exact ⟨l1, c1, rfl, J1.mono (fun i j hd _ _ => by omega)⟩

end Go.Proofs.Ytdkhgpdojjdadaa
