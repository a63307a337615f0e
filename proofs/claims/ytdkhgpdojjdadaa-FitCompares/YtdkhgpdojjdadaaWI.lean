/-
  Walks of chapter 38. The steps are written by program (walk.py).
-/
import Derived.Test.YtdkhgpdojjdadaaP
set_option linter.unusedSimpArgs false
set_option linter.unusedVariables false
set_option maxHeartbeats 40000000
set_option maxRecDepth 4000
namespace Go.Proofs.Ytdkhgpdojjdadaa
open Go Go.Am

theorem rowwalk_ok (lim lm : Nat) (hl : lim ≤ lm) (H : Heap) (b p : Nat) (bs : Nat → Nat) (raw l : Tb) (m : Nat) (hrect : Rect raw m) (hn : raw.length ≤ 91) (hm : m ≤ 10) (hp : ∀ i, i < l.length → p ≠ bs i)
    (T : Tab lm H b bs l) (hp2 : hget H p = some [.own 1 b 0 l.length]) (inv : Inv raw l) (u : Nat) (hu : u < l.length) :
    ACall sig lim 26 [AV.i u, .ptr p 0] H fun r H' => ∃ l' ch, r = .v (.bool ch) ∧ RJ raw l lm b p bs m (fun u' _ => u' = u) H H' l' ch := by
  have hrect2 : Rect l m := inv.same.rect hrect
  obtain ⟨cu, hcell⟩ := tab_facts T hrect2
  have hT := T.outer
  have hrow := T.row
  refine ACall_own (fa := fa26) rfl rfl rfl rfl ?_
  have tr : ∀ a0 a1 : AV, env0 fa26.keep [a0, a1] = [(0, a0), (1, a1), (3, .any), (4, .any), (5, .any), (6, .any), (14, .any), (29, .any)] := fun a0 a1 => rfl
  refine W_to (tr _ _) ?_; clear tr
  refine at_seq rfl ?_
  refine rg rfl ?_
  refine Rq ?_
  have tr : ∀ y0 y1 y3 y4 y5 y6 y14 y29 z0 : AV, trim [(3, z0), (0, y0), (1, y1), (3, y3), (4, y4), (5, y5), (6, y6), (14, y14), (29, y29)] [(0, y0), (1, y1), (3, y3), (4, y4), (5, y5), (6, y6), (14, y14), (29, y29)] = [(0, y0), (1, y1), (3, z0), (4, y4), (5, y5), (6, y6), (14, y14), (29, y29)] := fun y0 y1 y3 y4 y5 y6 y14 y29 z0 => rfl
  refine R_nil (tr _ _ _ _ _ _ _ _ _) ?_; clear tr
  refine then_n ?_
  refine at_seq rfl ?_
  refine rg rfl ?_
  refine Rq ?_
  have tr : ∀ y0 y1 y3 y4 y5 y6 y14 y29 z0 : AV, trim [(4, z0), (0, y0), (1, y1), (3, y3), (4, y4), (5, y5), (6, y6), (14, y14), (29, y29)] [(0, y0), (1, y1), (3, y3), (4, y4), (5, y5), (6, y6), (14, y14), (29, y29)] = [(0, y0), (1, y1), (3, y3), (4, z0), (5, y5), (6, y6), (14, y14), (29, y29)] := fun y0 y1 y3 y4 y5 y6 y14 y29 z0 => rfl
  refine R_nil (tr _ _ _ _ _ _ _ _ _) ?_; clear tr
  refine then_n ?_
  refine at_seq rfl ?_
  refine at_seq rfl ?_
  refine rg rfl ?_
  refine R_q rfl (by simp (disch := first | omega | (simp only [List.length_map, List.length_append, List.length_set, List.length_cons, List.length_nil, List.length_take, List.length_drop]; omega)) only [go_sem, ↓reduceIte, Nat.reduceEqDiff, reduceCtorEq, hT, cu, hrow, hcell, hp2]; rfl) ?_
  refine Rq ?_
  refine Rq ?_
  refine R_q rfl (by simp (disch := first | omega | (simp only [List.length_map, List.length_append, List.length_set, List.length_cons, List.length_nil, List.length_take, List.length_drop]; omega)) only [go_sem, ↓reduceIte, Nat.reduceEqDiff, reduceCtorEq, hT, cu, hrow, hcell, hp2]; rfl) ?_
  refine Rq ?_
  refine Rq ?_
  refine Rq ?_
  have tr : ∀ y0 y1 y3 y4 y5 y6 y14 y29 z0 z1 z2 z3 z4 z5 z6 : AV, trim [(5, z6), (12, z5), (11, z4), (10, z3), (9, z2), (8, z1), (7, z0), (0, y0), (1, y1), (3, y3), (4, y4), (5, y5), (6, y6), (14, y14), (29, y29)] [(0, y0), (1, y1), (3, y3), (4, y4), (5, y5), (6, y6), (14, y14), (29, y29)] = [(0, y0), (1, y1), (3, y3), (4, y4), (5, z6), (6, y6), (14, y14), (29, y29)] := fun y0 y1 y3 y4 y5 y6 y14 y29 z0 z1 z2 z3 z4 z5 z6 => rfl
  refine R_nil (tr _ _ _ _ _ _ _ _ _ _ _ _ _ _ _) ?_; clear tr
  refine then_n ?_
  refine at_block rfl ?_
  refine loop_n rfl (fun mm kv H' => ∃ k : Nat, ∃ z : Int, ∃ l2 : Tb, ∃ ch : Bool, ∃ x6 x14 x29 : AV, (kv = [(4, AV.v (.bool ch)), (5, AV.i z), (6, x6), (14, x14), (29, x29)]) ∧ (mm = k) ∧ (z = (k : Int) - 1) ∧ (k ≤ m) ∧ (RJ raw l lm b p bs m (fun u' w => u' = u ∧ k ≤ w) H H' l2 ch)) ⟨m, ((m : Int) - 1), l, false, _, _, _, rfl, rfl, by rfl, by omega, by exact RJ.start T hp2 inv (fun _ _ h _ h2 => by omega)⟩ (by rfl) ?_
  rintro mm kv H2 ⟨k, z, l2, ch, x6, x14, x29, rfl, rfl, hz, hk, J⟩
  have tr : ∀ y0 y1 y3 y4 y5 y6 y14 y29 z4 z5 z6 z14 z29 : AV, upd [(0, y0), (1, y1), (3, y3), (4, y4), (5, y5), (6, y6), (14, y14), (29, y29)] [(4, z4), (5, z5), (6, z6), (14, z14), (29, z29)] = [(0, y0), (1, y1), (3, y3), (4, z4), (5, z5), (6, z6), (14, z14), (29, z29)] := fun y0 y1 y3 y4 y5 y6 y14 y29 z4 z5 z6 z14 z29 => rfl
  refine W_to (tr _ _ _ _ _ _ _ _ _ _ _ _ _) ?_; clear tr
  have T2 := J.tab
  have hT := T2.outer
  have hrow := T2.row
  have hp2 := J.cell
  have hrect2 : Rect l2 m := J.inv.same.rect hrect
  obtain ⟨cu, hcell⟩ := tab_facts T2 hrect2
  have hln := J.len
  have hrl := J.inv.same.len
  refine at_seq rfl ?_
  refine at_seq rfl ?_
  refine rg rfl ?_
  refine Rq ?_
  refine Rq ?_
  have tr : ∀ y0 y1 y3 y4 y5 y6 y14 y29 z0 z1 : AV, trim [(14, z1), (13, z0), (0, y0), (1, y1), (3, y3), (4, y4), (5, y5), (6, y6), (14, y14), (29, y29)] [(0, y0), (1, y1), (3, y3), (4, y4), (5, y5), (6, y6), (14, y14), (29, y29)] = [(0, y0), (1, y1), (3, y3), (4, y4), (5, y5), (6, y6), (14, z1), (29, y29)] := fun y0 y1 y3 y4 y5 y6 y14 y29 z0 z1 => rfl
  refine R_nil (tr _ _ _ _ _ _ _ _ _ _) ?_; clear tr
  refine then_n ?_
  refine cdd (fun h1 => ?_) (fun h1 => ?_)
  · try simp only [decide_eq_true_eq, decide_eq_false_iff_not, Bool.not_eq_true', Bool.not_eq_false', beq_iff_eq, beq_eq_false_iff_ne, ne_eq] at h1
    refine at_skip rfl ?_
    refine then_n ?_
    refine at_seq rfl ?_
    refine at_block rfl ?_
    refine at_seq rfl ?_
    refine rg rfl ?_
    obtain ⟨w, rfl⟩ := Int.eq_ofNat_of_zero_le (by omega : 0 ≤ z)
    refine R_q rfl (by simp (disch := first | omega | (simp only [List.length_map, List.length_append, List.length_set, List.length_cons, List.length_nil, List.length_take, List.length_drop]; omega)) only [go_sem, ↓reduceIte, Nat.reduceEqDiff, reduceCtorEq, hT, cu, hrow, hcell, hp2]; rfl) ?_
    refine Rq ?_
    refine Rq ?_
    refine Rcall ?_
    refine ACall_eq (wanted_ok _ lm _ b bs l2 T2 m hrect2 (by omega) hm J.inv.rng u w (by omega) (by omega)) ?_
    refine Rq ?_
    have tr : ∀ y0 y1 y3 y4 y5 y6 y14 y29 z0 z1 z2 z3 z4 : AV, trim [(6, z4), (20, z3), (19, z2), (18, z1), (17, z0), (0, y0), (1, y1), (3, y3), (4, y4), (5, y5), (6, y6), (14, y14), (29, y29)] [(0, y0), (1, y1), (3, y3), (4, y4), (5, y5), (6, y6), (14, y14), (29, y29)] = [(0, y0), (1, y1), (3, y3), (4, y4), (5, y5), (6, z4), (14, y14), (29, y29)] := fun y0 y1 y3 y4 y5 y6 y14 y29 z0 z1 z2 z3 z4 => rfl
    refine R_nil (tr _ _ _ _ _ _ _ _ _ _ _ _ _) ?_; clear tr
    refine then_n ?_
    refine at_seq rfl ?_
    refine rg rfl ?_
    refine Rq ?_
    refine R_q rfl (by simp (disch := first | omega | (simp only [List.length_map, List.length_append, List.length_set, List.length_cons, List.length_nil, List.length_take, List.length_drop]; omega)) only [go_sem, ↓reduceIte, Nat.reduceEqDiff, reduceCtorEq, hT, cu, hrow, hcell, hp2]; rfl) ?_
    refine Rq ?_
    refine Rq ?_
    refine R_q rfl (by simp (disch := first | omega | (simp only [List.length_map, List.length_append, List.length_set, List.length_cons, List.length_nil, List.length_take, List.length_drop]; omega)) only [go_sem, ↓reduceIte, Nat.reduceEqDiff, reduceCtorEq, hT, cu, hrow, hcell, hp2]; rfl) ?_
    refine Rq ?_
    refine Rq ?_
    refine R_q rfl (by simp (disch := first | omega | (simp only [List.length_map, List.length_append, List.length_set, List.length_cons, List.length_nil, List.length_take, List.length_drop]; omega)) only [go_sem, ↓reduceIte, Nat.reduceEqDiff, reduceCtorEq, hT, cu, hrow, hcell, hp2]; rfl) ?_
    refine Rq ?_
    have tr : ∀ y0 y1 y3 y4 y5 y6 y14 y29 z0 z1 z2 z3 z4 z5 z6 z7 z8 : AV, trim [(29, z8), (28, z7), (27, z6), (26, z5), (25, z4), (24, z3), (23, z2), (22, z1), (21, z0), (0, y0), (1, y1), (3, y3), (4, y4), (5, y5), (6, y6), (14, y14), (29, y29)] [(0, y0), (1, y1), (3, y3), (4, y4), (5, y5), (6, y6), (14, y14), (29, y29)] = [(0, y0), (1, y1), (3, y3), (4, y4), (5, y5), (6, y6), (14, y14), (29, z8)] := fun y0 y1 y3 y4 y5 y6 y14 y29 z0 z1 z2 z3 z4 z5 z6 z7 z8 => rfl
    refine R_nil (tr _ _ _ _ _ _ _ _ _ _ _ _ _ _ _ _ _) ?_; clear tr
    refine then_n ?_
    refine cdd (fun h2 => ?_) (fun h2 => ?_)
    · try simp only [decide_eq_true_eq, decide_eq_false_iff_not, Bool.not_eq_true', Bool.not_eq_false', beq_iff_eq, beq_eq_false_iff_ne, ne_eq] at h2
      refine rg rfl ?_
      refine R_q rfl (by simp (disch := first | omega | (simp only [List.length_map, List.length_append, List.length_set, List.length_cons, List.length_nil, List.length_take, List.length_drop]; omega)) only [go_sem, ↓reduceIte, Nat.reduceEqDiff, reduceCtorEq, hT, cu, hrow, hcell, hp2]; rfl) ?_
      refine Rq ?_
      refine Rq ?_
      refine R_q rfl (by simp (disch := first | omega | (simp only [List.length_map, List.length_append, List.length_set, List.length_cons, List.length_nil, List.length_take, List.length_drop]; omega)) only [go_sem, ↓reduceIte, Nat.reduceEqDiff, reduceCtorEq, hT, cu, hrow, hcell, hp2]; rfl) ?_
      refine Rq ?_
      refine Rq ?_
      refine Rq ?_
      refine R_store ty2 (by simp (disch := first | omega | (simp only [List.length_map, List.length_append, List.length_set, List.length_cons, List.length_nil, List.length_take, List.length_drop]; omega)) only [go_sem, ↓reduceIte, Nat.reduceEqDiff, reduceCtorEq, hT, cu, hrow, hcell, hp2]; rfl) (by simp (disch := first | omega | (simp only [List.length_map, List.length_append, List.length_set, List.length_cons, List.length_nil, List.length_take, List.length_drop]; omega)) only [go_sem, ↓reduceIte, Nat.reduceEqDiff, reduceCtorEq, hT, cu, hrow, hcell, hp2]; rfl) (hrow u (by omega)) ⟨Nat.le_trans hl (T2.low u (by omega)), rfl, by simp only [List.length_map, hrect2 u (by omega)]; omega⟩ (setL_map _ _ _) rfl ?_
      refine Rq ?_
      have tr : ∀ y0 y1 y3 y4 y5 y6 y14 y29 z0 z1 z2 z3 z4 z5 z6 z7 : AV, trim [(4, z7), (36, z6), (35, z5), (34, z4), (33, z3), (32, z2), (31, z1), (30, z0), (0, y0), (1, y1), (3, y3), (4, y4), (5, y5), (6, y6), (14, y14), (29, y29)] [(0, y0), (1, y1), (3, y3), (4, y4), (5, y5), (6, y6), (14, y14), (29, y29)] = [(0, y0), (1, y1), (3, y3), (4, z7), (5, y5), (6, y6), (14, y14), (29, y29)] := fun y0 y1 y3 y4 y5 y6 y14 y29 z0 z1 z2 z3 z4 z5 z6 z7 => rfl
      refine R_nil (tr _ _ _ _ _ _ _ _ _ _ _ _ _ _ _ _) ?_; clear tr
      refine blk_n ?_
      refine then_n ?_
      refine rg rfl ?_
      refine Rq ?_
      refine Rq ?_
      refine Rq ?_
      have tr : ∀ y0 y1 y3 y4 y5 y6 y14 y29 z0 z1 z2 : AV, trim [(5, z2), (16, z1), (15, z0), (0, y0), (1, y1), (3, y3), (4, y4), (5, y5), (6, y6), (14, y14), (29, y29)] [(0, y0), (1, y1), (3, y3), (4, y4), (5, y5), (6, y6), (14, y14), (29, y29)] = [(0, y0), (1, y1), (3, y3), (4, y4), (5, z2), (6, y6), (14, y14), (29, y29)] := fun y0 y1 y3 y4 y5 y6 y14 y29 z0 z1 z2 => rfl
      refine R_nil (tr _ _ _ _ _ _ _ _ _ _ _) ?_; clear tr
      refine then_n ?_
      exact ⟨_, _, ⟨w, (↑w - 1), _, _, _, _, _, rfl, rfl, by rfl, by omega, by first | exact J.raise hrect (by omega) (by omega) (hp u (by omega)) (by omega) _ | exact J.keep (by omega) (by omega)⟩, by rfl, by omega⟩
    · try simp only [decide_eq_true_eq, decide_eq_false_iff_not, Bool.not_eq_true', Bool.not_eq_false', beq_iff_eq, beq_eq_false_iff_ne, ne_eq] at h2
      refine at_skip rfl ?_
      refine blk_n ?_
      refine then_n ?_
      refine rg rfl ?_
      refine Rq ?_
      refine Rq ?_
      refine Rq ?_
      have tr : ∀ y0 y1 y3 y4 y5 y6 y14 y29 z0 z1 z2 : AV, trim [(5, z2), (16, z1), (15, z0), (0, y0), (1, y1), (3, y3), (4, y4), (5, y5), (6, y6), (14, y14), (29, y29)] [(0, y0), (1, y1), (3, y3), (4, y4), (5, y5), (6, y6), (14, y14), (29, y29)] = [(0, y0), (1, y1), (3, y3), (4, y4), (5, z2), (6, y6), (14, y14), (29, y29)] := fun y0 y1 y3 y4 y5 y6 y14 y29 z0 z1 z2 => rfl
      refine R_nil (tr _ _ _ _ _ _ _ _ _ _ _) ?_; clear tr
      refine then_n ?_
      exact ⟨_, _, ⟨w, (↑w - 1), _, _, _, _, _, rfl, rfl, by rfl, by omega, by first | exact J.raise hrect (by omega) (by omega) (hp u (by omega)) (by omega) _ | exact J.keep (by omega) (by omega)⟩, by rfl, by omega⟩
  · try simp only [decide_eq_true_eq, decide_eq_false_iff_not, Bool.not_eq_true', Bool.not_eq_false', beq_iff_eq, beq_eq_false_iff_ne, ne_eq] at h1
    refine at_exit rfl ?_
    refine then_x ?_
    refine then_x ?_
    refine blk_x ?_
    refine then_n ?_
    refine at_seq rfl ?_
    refine rg rfl ?_
    refine Rq ?_
    refine Rq ?_
    have tr : ∀ y0 y1 y3 y4 y5 y6 y14 y29 z0 z1 : AV, trim [(3, z1), (37, z0), (0, y0), (1, y1), (3, y3), (4, y4), (5, y5), (6, y6), (14, y14), (29, y29)] [(0, y0), (1, y1), (3, y3), (4, y4), (5, y5), (6, y6), (14, y14), (29, y29)] = [(0, y0), (1, y1), (3, z1), (4, y4), (5, y5), (6, y6), (14, y14), (29, y29)] := fun y0 y1 y3 y4 y5 y6 y14 y29 z0 z1 => rfl
    refine R_nil (tr _ _ _ _ _ _ _ _ _ _) ?_; clear tr
    refine then_n ?_
    refine at_ret rfl ?_
    refine fin_own rfl (by simp only [go_sem, ↓reduceIte, Nat.reduceEqDiff]; rfl) ?_
    exact ⟨l2, ch, rfl, J.mono (fun _ _ h _ _ => ⟨h, by omega⟩)⟩

end Go.Proofs.Ytdkhgpdojjdadaa
