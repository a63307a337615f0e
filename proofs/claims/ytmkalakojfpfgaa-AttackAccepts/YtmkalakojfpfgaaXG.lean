/-
  Walks of chapter 46. The steps are written by program (walk.py).
-/
import Derived.Test.YtmkalakojfpfgaaWF
import Derived.Test.YtmkalakojfpfgaaWE
import Derived.Test.YtmkalakojfpfgaaQ9
import Derived.Test.YtmkalakojfpfgaaRA
set_option linter.unusedSimpArgs false
set_option linter.unusedVariables false
set_option maxHeartbeats 40000000
set_option maxRecDepth 4000
namespace Go.Proofs.Ytmkalakojfpfgaa
open Go Go.Am

theorem potentialsO_ok (lim : Nat) (H : Heap) (hlim : lim ≤ H.length) (rows : Tb) (q la0 : Int) (g : Good rows q la0) :
    ACall sig lim 29 [.agg [rowsAV rows, AV.i q, AV.i la0]] H fun r H' => ∃ K b, r = .own 1 b 0 K.length ∧ FullT rows q K ∧ H.length ≤ b ∧ hget H' b = some (K.map AV.i) ∧ Old H H' := by
  have od := Old.refl H
  obtain ⟨g1, g2, g3, g4, g5, g6, g7, g8, g9, g10, g11⟩ := id g
  have hq0 : 0 ≤ q := by omega
  have hnum := num_eq g
  have hnb := num_bd g
  have hnp : 0 < stN rows q := stV_pos hq0 _ _ (by omega)
  have q0 : True := trivial
  have qk : True := trivial
  have qx : True := trivial
  refine ACall_own (fa := fa29) rfl rfl rfl rfl ?_
  have tr : ∀ a0 : AV, env0 fa29.keep [a0] = [(0, a0), (1, .any), (2, .any), (3, .any), (4, .any), (5, .any), (6, .any), (7, .any), (8, .any), (16, .any), (30, .any), (36, .any), (37, .any), (38, .any), (44, .any), (53, .any), (77, .any)] := fun a0 => rfl
  refine W_to (tr _) ?_; clear tr
  refine at_seq rfl ?_
  refine rg rfl ?_
  refine A_box rfl (by simp (disch := first | omega | (simp only [List.length_map, List.length_append, List.length_set, List.length_cons, List.length_nil, List.length_take, List.length_drop]; omega)) only [go_sem, ↓reduceIte, Nat.reduceEqDiff, reduceCtorEq]; rfl) ?_
  intro H1 n1
  have en1 := n1.len
  have od := od.new n1
  have q0 := n1.new
  refine Rq ?_
  have tr : ∀ y0 y1 y2 y3 y4 y5 y6 y7 y8 y16 y30 y36 y37 y38 y44 y53 y77 z0 z1 : AV, trim [(2, z1), (1, z0), (0, y0), (1, y1), (2, y2), (3, y3), (4, y4), (5, y5), (6, y6), (7, y7), (8, y8), (16, y16), (30, y30), (36, y36), (37, y37), (38, y38), (44, y44), (53, y53), (77, y77)] [(0, y0), (1, y1), (2, y2), (3, y3), (4, y4), (5, y5), (6, y6), (7, y7), (8, y8), (16, y16), (30, y30), (36, y36), (37, y37), (38, y38), (44, y44), (53, y53), (77, y77)] = [(0, y0), (1, z0), (2, z1), (3, y3), (4, y4), (5, y5), (6, y6), (7, y7), (8, y8), (16, y16), (30, y30), (36, y36), (37, y37), (38, y38), (44, y44), (53, y53), (77, y77)] := fun y0 y1 y2 y3 y4 y5 y6 y7 y8 y16 y30 y36 y37 y38 y44 y53 y77 z0 z1 => rfl
  refine R_nil (tr _ _ _ _ _ _ _ _ _ _ _ _ _ _ _ _ _ _ _) ?_; clear tr
  refine then_n ?_
  refine at_seq rfl ?_
  refine rg rfl ?_
  refine R_q rfl (by simp (disch := first | omega | (simp only [List.length_map, List.length_append, List.length_set, List.length_cons, List.length_nil, List.length_take, List.length_drop]; omega)) only [go_sem, ↓reduceIte, Nat.reduceEqDiff, reduceCtorEq, q0, qk, qx]; rfl) ?_
  refine Rcall ?_
  refine ACall_eq (size_ok _ _ rows q la0 (by omega) (by omega) (by omega) (by omega) (by omega)) ?_
  rewrite [sz_ok g11]
  refine A_makeSlice (ms35 _ _ (stN rows q) _ _ _ (by omega) (by omega) (by simp (disch := first | omega | (simp only [List.length_map, List.length_append, List.length_set, List.length_cons, List.length_nil, List.length_take, List.length_drop]; omega)) only [go_sem, ↓reduceIte, Nat.reduceEqDiff, reduceCtorEq, q0]) (by simp (disch := first | omega | (simp only [List.length_map, List.length_append, List.length_set, List.length_cons, List.length_nil, List.length_take, List.length_drop]; omega)) only [go_sem, ↓reduceIte, Nat.reduceEqDiff, reduceCtorEq, q0])) ?_
  intro H2 n2
  have en2 := n2.len
  have od := od.new n2
  have q0 := (n2.old _ (hget_lt q0)).trans q0
  have qk := n2.new
  refine Rq ?_
  have tr : ∀ y0 y1 y2 y3 y4 y5 y6 y7 y8 y16 y30 y36 y37 y38 y44 y53 y77 z0 z1 z2 z3 : AV, trim [(3, z3), (11, z2), (10, z1), (9, z0), (0, y0), (1, y1), (2, y2), (3, y3), (4, y4), (5, y5), (6, y6), (7, y7), (8, y8), (16, y16), (30, y30), (36, y36), (37, y37), (38, y38), (44, y44), (53, y53), (77, y77)] [(0, y0), (1, y1), (2, y2), (3, y3), (4, y4), (5, y5), (6, y6), (7, y7), (8, y8), (16, y16), (30, y30), (36, y36), (37, y37), (38, y38), (44, y44), (53, y53), (77, y77)] = [(0, y0), (1, y1), (2, y2), (3, z3), (4, y4), (5, y5), (6, y6), (7, y7), (8, y8), (16, y16), (30, y30), (36, y36), (37, y37), (38, y38), (44, y44), (53, y53), (77, y77)] := fun y0 y1 y2 y3 y4 y5 y6 y7 y8 y16 y30 y36 y37 y38 y44 y53 y77 z0 z1 z2 z3 => rfl
  refine R_nil (tr _ _ _ _ _ _ _ _ _ _ _ _ _ _ _ _ _ _ _ _ _) ?_; clear tr
  refine then_n ?_
  refine at_seq rfl ?_
  refine at_seq rfl ?_
  refine rg rfl ?_
  refine Rq ?_
  refine Rq ?_
  refine Rq ?_
  refine Rq ?_
  have tr : ∀ y0 y1 y2 y3 y4 y5 y6 y7 y8 y16 y30 y36 y37 y38 y44 y53 y77 z0 z1 z2 z3 : AV, trim [(4, z3), (14, z2), (13, z1), (12, z0), (0, y0), (1, y1), (2, y2), (3, y3), (4, y4), (5, y5), (6, y6), (7, y7), (8, y8), (16, y16), (30, y30), (36, y36), (37, y37), (38, y38), (44, y44), (53, y53), (77, y77)] [(0, y0), (1, y1), (2, y2), (3, y3), (4, y4), (5, y5), (6, y6), (7, y7), (8, y8), (16, y16), (30, y30), (36, y36), (37, y37), (38, y38), (44, y44), (53, y53), (77, y77)] = [(0, y0), (1, y1), (2, y2), (3, y3), (4, z3), (5, y5), (6, y6), (7, y7), (8, y8), (16, y16), (30, y30), (36, y36), (37, y37), (38, y38), (44, y44), (53, y53), (77, y77)] := fun y0 y1 y2 y3 y4 y5 y6 y7 y8 y16 y30 y36 y37 y38 y44 y53 y77 z0 z1 z2 z3 => rfl
  refine R_nil (tr _ _ _ _ _ _ _ _ _ _ _ _ _ _ _ _ _ _ _ _ _) ?_; clear tr
  refine then_n ?_
  refine at_block rfl ?_
  refine loop_n rfl (fun mm kv H' => ∃ k : Nat, ∃ zi : Int, ∃ K : List Int, ∃ x5 x6 x7 x8 x16 x30 x36 x37 x38 x44 x53 x77 : AV, (kv = [(4, AV.i zi), (5, x5), (6, x6), (7, x7), (8, x8), (16, x16), (30, x30), (36, x36), (37, x37), (38, x38), (44, x44), (53, x53), (77, x77)]) ∧ (mm = k) ∧ (hget H' H.length = some [rowsAV rows, AV.i q, AV.i la0]) ∧ (hget H' H1.length = some (K.map AV.i)) ∧ (zi = (k : Int) - 1) ∧ (k ≤ K.length) ∧ ((K.length : Int) = numS q (gt rows 0).length) ∧ (Above rows q K k) ∧ (Old H H')) ⟨(stN rows q).toNat, (((stN rows q).toNat : Int) - 1), (List.replicate (stN rows q).toNat 0), _, _, _, _, _, _, _, _, _, _, _, _, rfl, rfl, by exact q0, by exact qk, by omega, by simp, by simp; omega, by intro i hi hl; simp at hl; omega, by exact od⟩ (by rfl) ?_
  rintro mm kv HA ⟨k, zi, K, x5, x6, x7, x8, x16, x30, x36, x37, x38, x44, x53, x77, rfl, rfl, q0, qk, hzk, hkK, hKl, hAb, od⟩
  have tr : ∀ y0 y1 y2 y3 y4 y5 y6 y7 y8 y16 y30 y36 y37 y38 y44 y53 y77 z4 z5 z6 z7 z8 z16 z30 z36 z37 z38 z44 z53 z77 : AV, upd [(0, y0), (1, y1), (2, y2), (3, y3), (4, y4), (5, y5), (6, y6), (7, y7), (8, y8), (16, y16), (30, y30), (36, y36), (37, y37), (38, y38), (44, y44), (53, y53), (77, y77)] [(4, z4), (5, z5), (6, z6), (7, z7), (8, z8), (16, z16), (30, z30), (36, z36), (37, z37), (38, z38), (44, z44), (53, z53), (77, z77)] = [(0, y0), (1, y1), (2, y2), (3, y3), (4, z4), (5, z5), (6, z6), (7, z7), (8, z8), (16, z16), (30, z30), (36, z36), (37, z37), (38, z38), (44, z44), (53, z53), (77, z77)] := fun y0 y1 y2 y3 y4 y5 y6 y7 y8 y16 y30 y36 y37 y38 y44 y53 y77 z4 z5 z6 z7 z8 z16 z30 z36 z37 z38 z44 z53 z77 => rfl
  refine W_to (tr _ _ _ _ _ _ _ _ _ _ _ _ _ _ _ _ _ _ _ _ _ _ _ _ _ _ _ _ _ _) ?_; clear tr
  refine at_seq rfl ?_
  refine at_seq rfl ?_
  refine rg rfl ?_
  refine Rq ?_
  refine Rq ?_
  have tr : ∀ y0 y1 y2 y3 y4 y5 y6 y7 y8 y16 y30 y36 y37 y38 y44 y53 y77 z0 z1 : AV, trim [(16, z1), (15, z0), (0, y0), (1, y1), (2, y2), (3, y3), (4, y4), (5, y5), (6, y6), (7, y7), (8, y8), (16, y16), (30, y30), (36, y36), (37, y37), (38, y38), (44, y44), (53, y53), (77, y77)] [(0, y0), (1, y1), (2, y2), (3, y3), (4, y4), (5, y5), (6, y6), (7, y7), (8, y8), (16, y16), (30, y30), (36, y36), (37, y37), (38, y38), (44, y44), (53, y53), (77, y77)] = [(0, y0), (1, y1), (2, y2), (3, y3), (4, y4), (5, y5), (6, y6), (7, y7), (8, y8), (16, z1), (30, y30), (36, y36), (37, y37), (38, y38), (44, y44), (53, y53), (77, y77)] := fun y0 y1 y2 y3 y4 y5 y6 y7 y8 y16 y30 y36 y37 y38 y44 y53 y77 z0 z1 => rfl
  refine R_nil (tr _ _ _ _ _ _ _ _ _ _ _ _ _ _ _ _ _ _ _) ?_; clear tr
  refine then_n ?_
  refine cdd (fun h1 => ?_) (fun h1 => ?_)
  · try simp only [decide_eq_true_eq, decide_eq_false_iff_not, Bool.not_eq_true', Bool.not_eq_false', beq_iff_eq, beq_eq_false_iff_ne, ne_eq] at h1
    refine at_skip rfl ?_
    refine then_n ?_
    refine at_seq rfl ?_
    refine at_block rfl ?_
    refine at_seq rfl ?_
    refine rg rfl ?_
    obtain ⟨z, hz⟩ := Int.eq_ofNat_of_zero_le (by omega : 0 ≤ zi)
    obtain hkz : mm = z + 1 := by omega
    subst hz
    subst hkz
    have st : StOK q (gt rows 0).length (decc q (gt rows 0).length z) (decl (gt rows 0).length z) := dec_st hq0 (by omega)
    have hcl : (decc q (gt rows 0).length z).length = (gt rows 0).length := st.c.1
    have hss := sum_le (q := 12) (decc q (gt rows 0).length z) (fun y hy => by have := st.c.2 y hy; omega)
    have kqk := hget_lt qk
    refine R_q rfl (by simp (disch := first | omega | (simp only [List.length_map, List.length_append, List.length_set, List.length_cons, List.length_nil, List.length_take, List.length_drop]; omega)) only [go_sem, ↓reduceIte, Nat.reduceEqDiff, reduceCtorEq, q0, qk, qx]; rfl) ?_
    refine Rq ?_
    refine Rcall ?_
    refine ACall_eq (at_ok _ _ rows q la0 g z (by omega) (by omega)) ?_
    refine A_alloc rfl ?_
    intro HC n4
    have en4 := n4.len
    have od := od.new n4
    have q0 := (n4.old _ (hget_lt q0)).trans q0
    have qk := (n4.old _ (hget_lt qk)).trans qk
    have qx := n4.new
    have lq0 := hget_lt q0
    have lqk := hget_lt qk
    have lqx := hget_lt qx
    refine A_store ty55 (by simp (disch := first | omega | (simp only [List.length_map, List.length_append, List.length_set, List.length_cons, List.length_nil, List.length_take, List.length_drop]; omega)) only [go_sem, ↓reduceIte, Nat.reduceEqDiff, reduceCtorEq, q0, qk, qx]; rfl) (by simp (disch := first | omega | (simp only [List.length_map, List.length_append, List.length_set, List.length_cons, List.length_nil, List.length_take, List.length_drop]; omega)) only [go_sem, ↓reduceIte, Nat.reduceEqDiff, reduceCtorEq, q0, qk, qx]; rfl) qx ⟨by omega, rfl, by first | exact Nat.le_refl _ | simp⟩ (show _ = [intsAV (decc q (gt rows 0).length z), AV.i (sumL (decc q (gt rows 0).length z)), AV.i (decl (gt rows 0).length z)] from rfl) ?_
    intro HD w4
    have ew4 := w4.len
    have od := od.wrote w4 (by omega)
    have q0 := (w4.old _ (by omega)).trans q0
    have qk := (w4.old _ (by omega)).trans qk
    have qx := w4.new
    have tr : ∀ y0 y1 y2 y3 y4 y5 y6 y7 y8 y16 y30 y36 y37 y38 y44 y53 y77 z0 z1 z2 z3 : AV, trim [(5, z3), (21, z2), (20, z1), (19, z0), (0, y0), (1, y1), (2, y2), (3, y3), (4, y4), (5, y5), (6, y6), (7, y7), (8, y8), (16, y16), (30, y30), (36, y36), (37, y37), (38, y38), (44, y44), (53, y53), (77, y77)] [(0, y0), (1, y1), (2, y2), (3, y3), (4, y4), (5, y5), (6, y6), (7, y7), (8, y8), (16, y16), (30, y30), (36, y36), (37, y37), (38, y38), (44, y44), (53, y53), (77, y77)] = [(0, y0), (1, y1), (2, y2), (3, y3), (4, y4), (5, z3), (6, y6), (7, y7), (8, y8), (16, y16), (30, y30), (36, y36), (37, y37), (38, y38), (44, y44), (53, y53), (77, y77)] := fun y0 y1 y2 y3 y4 y5 y6 y7 y8 y16 y30 y36 y37 y38 y44 y53 y77 z0 z1 z2 z3 => rfl
    refine R_nil (tr _ _ _ _ _ _ _ _ _ _ _ _ _ _ _ _ _ _ _ _ _) ?_; clear tr
    refine then_n ?_
    refine at_seq rfl ?_
    refine rg rfl ?_
    refine Rq ?_
    refine Rq ?_
    refine Rq ?_
    have lq0 := hget_lt q0
    have lqk := hget_lt qk
    have lqx := hget_lt qx
    refine A_store ty2 (by simp (disch := first | omega | (simp only [List.length_map, List.length_append, List.length_set, List.length_cons, List.length_nil, List.length_take, List.length_drop]; omega)) only [go_sem, ↓reduceIte, Nat.reduceEqDiff, reduceCtorEq, q0, qk, qx] <;> rfl) (by simp (disch := first | omega | (simp only [List.length_map, List.length_append, List.length_set, List.length_cons, List.length_nil, List.length_take, List.length_drop]; omega)) only [go_sem, ↓reduceIte, Nat.reduceEqDiff, reduceCtorEq, q0, qk, qx] <;> rfl) qk ⟨by omega, rfl, by simp only [List.length_map, List.length_set]; omega⟩ (k' := ((K.set z (-1)).map AV.i)) (setL_map _ _ _) ?_
    intro HE w5
    have ew5 := w5.len
    have od := od.wrote w5 (by omega)
    have q0 := (w5.old _ (by omega)).trans q0
    have qx := (w5.old _ (by omega)).trans qx
    have qk := w5.new
    have tr : ∀ y0 y1 y2 y3 y4 y5 y6 y7 y8 y16 y30 y36 y37 y38 y44 y53 y77 z0 z1 z2 : AV, trim [(24, z2), (23, z1), (22, z0), (0, y0), (1, y1), (2, y2), (3, y3), (4, y4), (5, y5), (6, y6), (7, y7), (8, y8), (16, y16), (30, y30), (36, y36), (37, y37), (38, y38), (44, y44), (53, y53), (77, y77)] [(0, y0), (1, y1), (2, y2), (3, y3), (4, y4), (5, y5), (6, y6), (7, y7), (8, y8), (16, y16), (30, y30), (36, y36), (37, y37), (38, y38), (44, y44), (53, y53), (77, y77)] = [(0, y0), (1, y1), (2, y2), (3, y3), (4, y4), (5, y5), (6, y6), (7, y7), (8, y8), (16, y16), (30, y30), (36, y36), (37, y37), (38, y38), (44, y44), (53, y53), (77, y77)] := fun y0 y1 y2 y3 y4 y5 y6 y7 y8 y16 y30 y36 y37 y38 y44 y53 y77 z0 z1 z2 => rfl
    refine R_nil (tr _ _ _ _ _ _ _ _ _ _ _ _ _ _ _ _ _ _ _ _) ?_; clear tr
    refine then_n ?_
    refine at_seq rfl ?_
    refine at_seq rfl ?_
    refine rg rfl ?_
    refine Rq ?_
    refine R_q rfl (by simp (disch := first | omega | (simp only [List.length_map, List.length_append, List.length_set, List.length_cons, List.length_nil, List.length_take, List.length_drop]; omega)) only [go_sem, ↓reduceIte, Nat.reduceEqDiff, reduceCtorEq, q0, qk, qx]; rfl) ?_
    refine Rq ?_
    refine R_q rfl (by simp (disch := first | omega | (simp only [List.length_map, List.length_append, List.length_set, List.length_cons, List.length_nil, List.length_take, List.length_drop]; omega)) only [go_sem, ↓reduceIte, Nat.reduceEqDiff, reduceCtorEq, q0, qk, qx]; rfl) ?_
    refine Rq ?_
    refine Rq ?_
    have tr : ∀ y0 y1 y2 y3 y4 y5 y6 y7 y8 y16 y30 y36 y37 y38 y44 y53 y77 z0 z1 z2 z3 z4 z5 : AV, trim [(30, z5), (29, z4), (28, z3), (27, z2), (26, z1), (25, z0), (0, y0), (1, y1), (2, y2), (3, y3), (4, y4), (5, y5), (6, y6), (7, y7), (8, y8), (16, y16), (30, y30), (36, y36), (37, y37), (38, y38), (44, y44), (53, y53), (77, y77)] [(0, y0), (1, y1), (2, y2), (3, y3), (4, y4), (5, y5), (6, y6), (7, y7), (8, y8), (16, y16), (30, y30), (36, y36), (37, y37), (38, y38), (44, y44), (53, y53), (77, y77)] = [(0, y0), (1, y1), (2, y2), (3, y3), (4, y4), (5, y5), (6, y6), (7, y7), (8, y8), (16, y16), (30, z5), (36, y36), (37, y37), (38, y38), (44, y44), (53, y53), (77, y77)] := fun y0 y1 y2 y3 y4 y5 y6 y7 y8 y16 y30 y36 y37 y38 y44 y53 y77 z0 z1 z2 z3 z4 z5 => rfl
    refine R_nil (tr _ _ _ _ _ _ _ _ _ _ _ _ _ _ _ _ _ _ _ _ _ _ _) ?_; clear tr
    refine then_n ?_
    refine cdd (fun h2 => ?_) (fun h2 => ?_)
    · try simp only [decide_eq_true_eq, decide_eq_false_iff_not, Bool.not_eq_true', Bool.not_eq_false', beq_iff_eq, beq_eq_false_iff_ne, ne_eq] at h2
      refine rg rfl ?_
      refine Rq ?_
      refine Rq ?_
      refine Rq ?_
      have lq0 := hget_lt q0
      have lqk := hget_lt qk
      have lqx := hget_lt qx
      refine A_store ty2 (by simp (disch := first | omega | (simp only [List.length_map, List.length_append, List.length_set, List.length_cons, List.length_nil, List.length_take, List.length_drop]; omega)) only [go_sem, ↓reduceIte, Nat.reduceEqDiff, reduceCtorEq, q0, qk, qx] <;> rfl) (by simp (disch := first | omega | (simp only [List.length_map, List.length_append, List.length_set, List.length_cons, List.length_nil, List.length_take, List.length_drop]; omega)) only [go_sem, ↓reduceIte, Nat.reduceEqDiff, reduceCtorEq, q0, qk, qx] <;> rfl) qk ⟨by omega, rfl, by simp only [List.length_map, List.length_set]; omega⟩ (k' := ((K.set z 0).map AV.i)) (by rw [setL_map, List.set_set]) ?_
      intro HF w6
      have ew6 := w6.len
      have od := od.wrote w6 (by omega)
      have q0 := (w6.old _ (by omega)).trans q0
      have qx := (w6.old _ (by omega)).trans qx
      have qk := w6.new
      have tr : ∀ y0 y1 y2 y3 y4 y5 y6 y7 y8 y16 y30 y36 y37 y38 y44 y53 y77 z0 z1 z2 : AV, trim [(33, z2), (32, z1), (31, z0), (0, y0), (1, y1), (2, y2), (3, y3), (4, y4), (5, y5), (6, y6), (7, y7), (8, y8), (16, y16), (30, y30), (36, y36), (37, y37), (38, y38), (44, y44), (53, y53), (77, y77)] [(0, y0), (1, y1), (2, y2), (3, y3), (4, y4), (5, y5), (6, y6), (7, y7), (8, y8), (16, y16), (30, y30), (36, y36), (37, y37), (38, y38), (44, y44), (53, y53), (77, y77)] = [(0, y0), (1, y1), (2, y2), (3, y3), (4, y4), (5, y5), (6, y6), (7, y7), (8, y8), (16, y16), (30, y30), (36, y36), (37, y37), (38, y38), (44, y44), (53, y53), (77, y77)] := fun y0 y1 y2 y3 y4 y5 y6 y7 y8 y16 y30 y36 y37 y38 y44 y53 y77 z0 z1 z2 => rfl
      refine R_nil (tr _ _ _ _ _ _ _ _ _ _ _ _ _ _ _ _ _ _ _ _) ?_; clear tr
      refine then_n ?_
      refine at_seq rfl ?_
      refine rg rfl ?_
      refine Rq ?_
      refine R_q rfl (by simp (disch := first | omega | (simp only [List.length_map, List.length_append, List.length_set, List.length_cons, List.length_nil, List.length_take, List.length_drop]; omega)) only [go_sem, ↓reduceIte, Nat.reduceEqDiff, reduceCtorEq, q0, qk, qx]; rfl) ?_
      refine Rq ?_
      refine Rq ?_
      have tr : ∀ y0 y1 y2 y3 y4 y5 y6 y7 y8 y16 y30 y36 y37 y38 y44 y53 y77 z0 z1 z2 z3 : AV, trim [(37, z3), (36, z2), (35, z1), (34, z0), (0, y0), (1, y1), (2, y2), (3, y3), (4, y4), (5, y5), (6, y6), (7, y7), (8, y8), (16, y16), (30, y30), (36, y36), (37, y37), (38, y38), (44, y44), (53, y53), (77, y77)] [(0, y0), (1, y1), (2, y2), (3, y3), (4, y4), (5, y5), (6, y6), (7, y7), (8, y8), (16, y16), (30, y30), (36, y36), (37, y37), (38, y38), (44, y44), (53, y53), (77, y77)] = [(0, y0), (1, y1), (2, y2), (3, y3), (4, y4), (5, y5), (6, y6), (7, y7), (8, y8), (16, y16), (30, y30), (36, z2), (37, z3), (38, y38), (44, y44), (53, y53), (77, y77)] := fun y0 y1 y2 y3 y4 y5 y6 y7 y8 y16 y30 y36 y37 y38 y44 y53 y77 z0 z1 z2 z3 => rfl
      refine R_nil (tr _ _ _ _ _ _ _ _ _ _ _ _ _ _ _ _ _ _ _ _ _) ?_; clear tr
      refine then_n ?_
      refine at_block rfl ?_
      refine loop_n rfl (fun mm kv H' => ∃ jn : Nat, ∃ bst : Int, ∃ x6 x7 x8 x38 x44 x53 x77 : AV, (kv = [(6, x6), (7, x7), (8, x8), (37, AV.i jn), (38, x38), (44, x44), (53, x53), (77, x77)]) ∧ (mm = (gt rows 0).length - jn) ∧ (hget H' H.length = some [rowsAV rows, AV.i q, AV.i la0]) ∧ (hget H' H1.length = some ((K.set z bst).map AV.i)) ∧ (hget H' HA.length = some [intsAV (decc q (gt rows 0).length z), AV.i (sumL (decc q (gt rows 0).length z)), AV.i (decl (gt rows 0).length z)]) ∧ (jn ≤ (gt rows 0).length) ∧ ((sumL (decc q (gt rows 0).length z) < rows.length → bst = scanJ rows q (sumL (decc q (gt rows 0).length z)).toNat (decc q (gt rows 0).length z) (decl (gt rows 0).length z) (fun j => pot rows q (gt rows 0).length (aft (decc q (gt rows 0).length z) j) j) jn)) ∧ ((¬ sumL (decc q (gt rows 0).length z) < rows.length → bst = pot rows q (gt rows 0).length (decc q (gt rows 0).length z) (decl (gt rows 0).length z))) ∧ (Old H H')) ⟨0, 0, _, _, _, _, _, _, _, rfl, rfl, by exact q0, by exact qk, by exact qx, by omega, by first | (intro hs; rfl) | (intro hs; exfalso; omega), by intro hs; first | (rw [pot_eq (by omega)]; done) | (rw [pot_gt (by omega)]; done), by exact od⟩ (by rfl) ?_
      rintro mm kv HB ⟨jn, bst, x6, x7, x8, x38, x44, x53, x77, rfl, rfl, q0, qk, qx, hj, hb1, hb2, od⟩
      have tr : ∀ y0 y1 y2 y3 y4 y5 y6 y7 y8 y16 y30 y36 y37 y38 y44 y53 y77 z6 z7 z8 z37 z38 z44 z53 z77 : AV, upd [(0, y0), (1, y1), (2, y2), (3, y3), (4, y4), (5, y5), (6, y6), (7, y7), (8, y8), (16, y16), (30, y30), (36, y36), (37, y37), (38, y38), (44, y44), (53, y53), (77, y77)] [(6, z6), (7, z7), (8, z8), (37, z37), (38, z38), (44, z44), (53, z53), (77, z77)] = [(0, y0), (1, y1), (2, y2), (3, y3), (4, y4), (5, y5), (6, z6), (7, z7), (8, z8), (16, y16), (30, y30), (36, y36), (37, z37), (38, z38), (44, z44), (53, z53), (77, z77)] := fun y0 y1 y2 y3 y4 y5 y6 y7 y8 y16 y30 y36 y37 y38 y44 y53 y77 z6 z7 z8 z37 z38 z44 z53 z77 => rfl
      refine W_to (tr _ _ _ _ _ _ _ _ _ _ _ _ _ _ _ _ _ _ _ _ _ _ _ _ _) ?_; clear tr
      have kqk := hget_lt qk
      refine at_seq rfl ?_
      refine rg rfl ?_
      refine Rq ?_
      have tr : ∀ y0 y1 y2 y3 y4 y5 y6 y7 y8 y16 y30 y36 y37 y38 y44 y53 y77 z0 : AV, trim [(38, z0), (0, y0), (1, y1), (2, y2), (3, y3), (4, y4), (5, y5), (6, y6), (7, y7), (8, y8), (16, y16), (30, y30), (36, y36), (37, y37), (38, y38), (44, y44), (53, y53), (77, y77)] [(0, y0), (1, y1), (2, y2), (3, y3), (4, y4), (5, y5), (6, y6), (7, y7), (8, y8), (16, y16), (30, y30), (36, y36), (37, y37), (38, y38), (44, y44), (53, y53), (77, y77)] = [(0, y0), (1, y1), (2, y2), (3, y3), (4, y4), (5, y5), (6, y6), (7, y7), (8, y8), (16, y16), (30, y30), (36, y36), (37, y37), (38, z0), (44, y44), (53, y53), (77, y77)] := fun y0 y1 y2 y3 y4 y5 y6 y7 y8 y16 y30 y36 y37 y38 y44 y53 y77 z0 => rfl
      refine R_nil (tr _ _ _ _ _ _ _ _ _ _ _ _ _ _ _ _ _ _) ?_; clear tr
      refine then_n ?_
      refine at_seq rfl ?_
      refine cdd (fun h3 => ?_) (fun h3 => ?_)
      · try simp only [decide_eq_true_eq, decide_eq_false_iff_not, Bool.not_eq_true', Bool.not_eq_false', beq_iff_eq, beq_eq_false_iff_ne, ne_eq] at h3
        refine at_skip rfl ?_
        refine then_n ?_
        refine at_seq rfl ?_
        refine at_block rfl ?_
        refine at_seq rfl ?_
        refine rg rfl ?_
        refine Rq ?_
        refine Rq ?_
        have tr : ∀ y0 y1 y2 y3 y4 y5 y6 y7 y8 y16 y30 y36 y37 y38 y44 y53 y77 z0 z1 : AV, trim [(6, z1), (39, z0), (0, y0), (1, y1), (2, y2), (3, y3), (4, y4), (5, y5), (6, y6), (7, y7), (8, y8), (16, y16), (30, y30), (36, y36), (37, y37), (38, y38), (44, y44), (53, y53), (77, y77)] [(0, y0), (1, y1), (2, y2), (3, y3), (4, y4), (5, y5), (6, y6), (7, y7), (8, y8), (16, y16), (30, y30), (36, y36), (37, y37), (38, y38), (44, y44), (53, y53), (77, y77)] = [(0, y0), (1, y1), (2, y2), (3, y3), (4, y4), (5, y5), (6, z1), (7, y7), (8, y8), (16, y16), (30, y30), (36, y36), (37, y37), (38, y38), (44, y44), (53, y53), (77, y77)] := fun y0 y1 y2 y3 y4 y5 y6 y7 y8 y16 y30 y36 y37 y38 y44 y53 y77 z0 z1 => rfl
        refine R_nil (tr _ _ _ _ _ _ _ _ _ _ _ _ _ _ _ _ _ _ _) ?_; clear tr
        refine then_n ?_
        refine at_seq rfl ?_
        refine at_seq rfl ?_
        refine rg rfl ?_
        refine R_q rfl (by simp (disch := first | omega | (simp only [List.length_map, List.length_append, List.length_set, List.length_cons, List.length_nil, List.length_take, List.length_drop]; omega)) only [go_sem, ↓reduceIte, Nat.reduceEqDiff, reduceCtorEq, q0, qk, qx]; rfl) ?_
        refine R_q rfl (by simp (disch := first | omega | (simp only [List.length_map, List.length_append, List.length_set, List.length_cons, List.length_nil, List.length_take, List.length_drop]; omega)) only [go_sem, ↓reduceIte, Nat.reduceEqDiff, reduceCtorEq, q0, qk, qx]; rfl) ?_
        refine Rq ?_
        refine Rcall ?_
        refine ACall_eq (rmay_ok _ _ rows q la0 g (decc q (gt rows 0).length z) (decl (gt rows 0).length z) st _ (.inl rfl) _ jn (by rw [hcl]; omega)) ?_
        refine Rq ?_
        have tr : ∀ y0 y1 y2 y3 y4 y5 y6 y7 y8 y16 y30 y36 y37 y38 y44 y53 y77 z0 z1 z2 z3 z4 : AV, trim [(44, z4), (43, z3), (42, z2), (41, z1), (40, z0), (0, y0), (1, y1), (2, y2), (3, y3), (4, y4), (5, y5), (6, y6), (7, y7), (8, y8), (16, y16), (30, y30), (36, y36), (37, y37), (38, y38), (44, y44), (53, y53), (77, y77)] [(0, y0), (1, y1), (2, y2), (3, y3), (4, y4), (5, y5), (6, y6), (7, y7), (8, y8), (16, y16), (30, y30), (36, y36), (37, y37), (38, y38), (44, y44), (53, y53), (77, y77)] = [(0, y0), (1, y1), (2, y2), (3, y3), (4, y4), (5, y5), (6, y6), (7, y7), (8, y8), (16, y16), (30, y30), (36, y36), (37, y37), (38, y38), (44, z4), (53, y53), (77, y77)] := fun y0 y1 y2 y3 y4 y5 y6 y7 y8 y16 y30 y36 y37 y38 y44 y53 y77 z0 z1 z2 z3 z4 => rfl
        refine R_nil (tr _ _ _ _ _ _ _ _ _ _ _ _ _ _ _ _ _ _ _ _ _ _) ?_; clear tr
        refine then_n ?_
        refine cdd (fun h4 => ?_) (fun h4 => ?_)
        · try simp only [decide_eq_true_eq, decide_eq_false_iff_not, Bool.not_eq_true', Bool.not_eq_false', beq_iff_eq, beq_eq_false_iff_ne, ne_eq] at h4
          refine at_exit rfl ?_
          refine then_x ?_
          refine blk_x ?_
          refine then_n ?_
          refine rg rfl ?_
          refine Rq ?_
          refine Rq ?_
          have tr : ∀ y0 y1 y2 y3 y4 y5 y6 y7 y8 y16 y30 y36 y37 y38 y44 y53 y77 z0 z1 : AV, trim [(37, z1), (82, z0), (0, y0), (1, y1), (2, y2), (3, y3), (4, y4), (5, y5), (6, y6), (7, y7), (8, y8), (16, y16), (30, y30), (36, y36), (37, y37), (38, y38), (44, y44), (53, y53), (77, y77)] [(0, y0), (1, y1), (2, y2), (3, y3), (4, y4), (5, y5), (6, y6), (7, y7), (8, y8), (16, y16), (30, y30), (36, y36), (37, y37), (38, y38), (44, y44), (53, y53), (77, y77)] = [(0, y0), (1, y1), (2, y2), (3, y3), (4, y4), (5, y5), (6, y6), (7, y7), (8, y8), (16, y16), (30, y30), (36, y36), (37, z1), (38, y38), (44, y44), (53, y53), (77, y77)] := fun y0 y1 y2 y3 y4 y5 y6 y7 y8 y16 y30 y36 y37 y38 y44 y53 y77 z0 z1 => rfl
          refine R_nil (tr _ _ _ _ _ _ _ _ _ _ _ _ _ _ _ _ _ _ _) ?_; clear tr
          refine then_n ?_
          exact ⟨_, _, ⟨jn + 1, bst, _, _, _, _, _, _, _, rfl, rfl, by exact q0, by exact qk, by exact qx, by omega, by first | (intro hs; exfalso; omega) | (intro hs; have hh := hb1 hs; rw [scanJ, ← hh]; first | rw [if_pos ⟨by omega, by omega, by omega, by omega⟩] | rw [if_neg (by omega)]), by first | exact hb2 | (intro hs; exfalso; omega), by exact od⟩, by rfl, by omega⟩
        · try simp only [decide_eq_true_eq, decide_eq_false_iff_not, Bool.not_eq_true', Bool.not_eq_false', beq_iff_eq, beq_eq_false_iff_ne, ne_eq] at h4
          refine at_skip rfl ?_
          refine then_n ?_
          refine at_seq rfl ?_
          refine rg rfl ?_
          have hcj := okc_gt st.c (j := jn) (by omega)
          have sta := aft_st st (j := jn) (by omega) (by omega)
          have hir := idx_rng hq0 sta
          have hlt := idx_aft hq0 st (j := jn) (by omega) (by omega)
          rw [idx_dec hq0 (by omega) (by omega)] at hlt
          have hga := above_at (v := bst) hKl hAb (by omega) hq0 sta (by omega)
          have hsa := sum_aft (decc q (gt rows 0).length z) jn (by rw [hcl]; omega)
          have hpa := pot_rng g (aft (decc q (gt rows 0).length z) jn) (by rw [hsa]; omega) jn
          refine Rq ?_
          refine R_q rfl (by simp (disch := first | omega | (simp only [List.length_map, List.length_append, List.length_set, List.length_cons, List.length_nil, List.length_take, List.length_drop]; omega)) only [go_sem, ↓reduceIte, Nat.reduceEqDiff, reduceCtorEq, q0, qk, qx]; rfl) ?_
          refine R_q rfl (by simp (disch := first | omega | (simp only [List.length_map, List.length_append, List.length_set, List.length_cons, List.length_nil, List.length_take, List.length_drop]; omega)) only [go_sem, ↓reduceIte, Nat.reduceEqDiff, reduceCtorEq, q0, qk, qx]; rfl) ?_
          refine Rq ?_
          refine Rcall ?_
          refine ACall_eq (rafter_ok _ _ rows q la0 g (decc q (gt rows 0).length z) (decl (gt rows 0).length z) st _ (.inl rfl) _ jn (by rw [hcl]; omega) (by omega)) ?_
          refine Rq ?_
          refine R_q rfl (by simp (disch := first | omega | (simp only [List.length_map, List.length_append, List.length_set, List.length_cons, List.length_nil, List.length_take, List.length_drop]; omega)) only [go_sem, ↓reduceIte, Nat.reduceEqDiff, reduceCtorEq, q0, qk, qx]; rfl) ?_
          refine Rq ?_
          have tr : ∀ y0 y1 y2 y3 y4 y5 y6 y7 y8 y16 y30 y36 y37 y38 y44 y53 y77 z0 z1 z2 z3 z4 z5 z6 z7 : AV, trim [(7, z7), (51, z6), (50, z5), (49, z4), (48, z3), (47, z2), (46, z1), (45, z0), (0, y0), (1, y1), (2, y2), (3, y3), (4, y4), (5, y5), (6, y6), (7, y7), (8, y8), (16, y16), (30, y30), (36, y36), (37, y37), (38, y38), (44, y44), (53, y53), (77, y77)] [(0, y0), (1, y1), (2, y2), (3, y3), (4, y4), (5, y5), (6, y6), (7, y7), (8, y8), (16, y16), (30, y30), (36, y36), (37, y37), (38, y38), (44, y44), (53, y53), (77, y77)] = [(0, y0), (1, y1), (2, y2), (3, y3), (4, y4), (5, y5), (6, y6), (7, z7), (8, y8), (16, y16), (30, y30), (36, y36), (37, y37), (38, y38), (44, y44), (53, y53), (77, y77)] := fun y0 y1 y2 y3 y4 y5 y6 y7 y8 y16 y30 y36 y37 y38 y44 y53 y77 z0 z1 z2 z3 z4 z5 z6 z7 => rfl
          refine R_nil (tr _ _ _ _ _ _ _ _ _ _ _ _ _ _ _ _ _ _ _ _ _ _ _ _ _) ?_; clear tr
          refine then_n ?_
          refine at_seq rfl ?_
          refine at_seq rfl ?_
          refine rg rfl ?_
          refine Rq ?_
          refine Rq ?_
          have tr : ∀ y0 y1 y2 y3 y4 y5 y6 y7 y8 y16 y30 y36 y37 y38 y44 y53 y77 z0 z1 : AV, trim [(53, z1), (52, z0), (0, y0), (1, y1), (2, y2), (3, y3), (4, y4), (5, y5), (6, y6), (7, y7), (8, y8), (16, y16), (30, y30), (36, y36), (37, y37), (38, y38), (44, y44), (53, y53), (77, y77)] [(0, y0), (1, y1), (2, y2), (3, y3), (4, y4), (5, y5), (6, y6), (7, y7), (8, y8), (16, y16), (30, y30), (36, y36), (37, y37), (38, y38), (44, y44), (53, y53), (77, y77)] = [(0, y0), (1, y1), (2, y2), (3, y3), (4, y4), (5, y5), (6, y6), (7, y7), (8, y8), (16, y16), (30, y30), (36, y36), (37, y37), (38, y38), (44, y44), (53, z1), (77, y77)] := fun y0 y1 y2 y3 y4 y5 y6 y7 y8 y16 y30 y36 y37 y38 y44 y53 y77 z0 z1 => rfl
          refine R_nil (tr _ _ _ _ _ _ _ _ _ _ _ _ _ _ _ _ _ _ _) ?_; clear tr
          refine then_n ?_
          refine cdd (fun h5 => ?_) (fun h5 => ?_)
          · try simp only [decide_eq_true_eq, decide_eq_false_iff_not, Bool.not_eq_true', Bool.not_eq_false', beq_iff_eq, beq_eq_false_iff_ne, ne_eq] at h5
            refine at_exit rfl ?_
            refine then_x ?_
            refine blk_x ?_
            refine then_n ?_
            refine rg rfl ?_
            refine Rq ?_
            refine Rq ?_
            have tr : ∀ y0 y1 y2 y3 y4 y5 y6 y7 y8 y16 y30 y36 y37 y38 y44 y53 y77 z0 z1 : AV, trim [(37, z1), (82, z0), (0, y0), (1, y1), (2, y2), (3, y3), (4, y4), (5, y5), (6, y6), (7, y7), (8, y8), (16, y16), (30, y30), (36, y36), (37, y37), (38, y38), (44, y44), (53, y53), (77, y77)] [(0, y0), (1, y1), (2, y2), (3, y3), (4, y4), (5, y5), (6, y6), (7, y7), (8, y8), (16, y16), (30, y30), (36, y36), (37, y37), (38, y38), (44, y44), (53, y53), (77, y77)] = [(0, y0), (1, y1), (2, y2), (3, y3), (4, y4), (5, y5), (6, y6), (7, y7), (8, y8), (16, y16), (30, y30), (36, y36), (37, z1), (38, y38), (44, y44), (53, y53), (77, y77)] := fun y0 y1 y2 y3 y4 y5 y6 y7 y8 y16 y30 y36 y37 y38 y44 y53 y77 z0 z1 => rfl
            refine R_nil (tr _ _ _ _ _ _ _ _ _ _ _ _ _ _ _ _ _ _ _) ?_; clear tr
            refine then_n ?_
            exact ⟨_, _, ⟨jn + 1, bst, _, _, _, _, _, _, _, rfl, rfl, by exact q0, by exact qk, by exact qx, by omega, by first | (intro hs; exfalso; omega) | (intro hs; have hh := hb1 hs; rw [scanJ, ← hh]; first | rw [if_pos ⟨by omega, by omega, by omega, by omega⟩] | rw [if_neg (by omega)]), by first | exact hb2 | (intro hs; exfalso; omega), by exact od⟩, by rfl, by omega⟩
          · try simp only [decide_eq_true_eq, decide_eq_false_iff_not, Bool.not_eq_true', Bool.not_eq_false', beq_iff_eq, beq_eq_false_iff_ne, ne_eq] at h5
            refine at_skip rfl ?_
            refine then_n ?_
            refine at_seq rfl ?_
            refine rg rfl ?_
            have hrl := g5 (sumL (decc q (gt rows 0).length z)).toNat (by omega)
            have hce := cell_rng g (sumL (decc q (gt rows 0).length z)).toNat jn
            refine Rq ?_
            refine R_q rfl (by simp (disch := first | omega | (simp only [List.length_map, List.length_append, List.length_set, List.length_cons, List.length_nil, List.length_take, List.length_drop]; omega)) only [go_sem, ↓reduceIte, Nat.reduceEqDiff, reduceCtorEq, q0, qk, qx]; rfl) ?_
            refine Rq ?_
            refine R_q rfl (by simp (disch := first | omega | (simp only [List.length_map, List.length_append, List.length_set, List.length_cons, List.length_nil, List.length_take, List.length_drop]; omega)) only [go_sem, ↓reduceIte, Nat.reduceEqDiff, reduceCtorEq, q0, qk, qx]; rfl) ?_
            refine Rq ?_
            refine R_q rfl (by simp (disch := first | omega | (simp only [List.length_map, List.length_append, List.length_set, List.length_cons, List.length_nil, List.length_take, List.length_drop]; omega)) only [go_sem, ↓reduceIte, Nat.reduceEqDiff, reduceCtorEq, q0, qk, qx]; rfl) ?_
            refine Rq ?_
            refine Rq ?_
            refine R_q rfl (by simp (disch := first | omega | (simp only [List.length_map, List.length_append, List.length_set, List.length_cons, List.length_nil, List.length_take, List.length_drop]; omega)) only [go_sem, ↓reduceIte, Nat.reduceEqDiff, reduceCtorEq, q0, qk, qx]; rfl) ?_
            refine Rq ?_
            refine Rq ?_
            refine Rq ?_
            have tr : ∀ y0 y1 y2 y3 y4 y5 y6 y7 y8 y16 y30 y36 y37 y38 y44 y53 y77 z0 z1 z2 z3 z4 z5 z6 z7 z8 z9 z10 z11 : AV, trim [(8, z11), (64, z10), (63, z9), (62, z8), (61, z7), (60, z6), (59, z5), (58, z4), (57, z3), (56, z2), (55, z1), (54, z0), (0, y0), (1, y1), (2, y2), (3, y3), (4, y4), (5, y5), (6, y6), (7, y7), (8, y8), (16, y16), (30, y30), (36, y36), (37, y37), (38, y38), (44, y44), (53, y53), (77, y77)] [(0, y0), (1, y1), (2, y2), (3, y3), (4, y4), (5, y5), (6, y6), (7, y7), (8, y8), (16, y16), (30, y30), (36, y36), (37, y37), (38, y38), (44, y44), (53, y53), (77, y77)] = [(0, y0), (1, y1), (2, y2), (3, y3), (4, y4), (5, y5), (6, y6), (7, y7), (8, z11), (16, y16), (30, y30), (36, y36), (37, y37), (38, y38), (44, y44), (53, y53), (77, y77)] := fun y0 y1 y2 y3 y4 y5 y6 y7 y8 y16 y30 y36 y37 y38 y44 y53 y77 z0 z1 z2 z3 z4 z5 z6 z7 z8 z9 z10 z11 => rfl
            refine R_nil (tr _ _ _ _ _ _ _ _ _ _ _ _ _ _ _ _ _ _ _ _ _ _ _ _ _ _ _ _ _) ?_; clear tr
            refine then_n ?_
            refine at_seq rfl ?_
            refine rg rfl ?_
            have hgz : gt (K.set z bst) z = bst := by rw [gt_set _ _ _ _ (by omega), if_pos rfl]
            have hbr : -1 ≤ bst := by
              rw [hb1 (by omega)]
              exact (scan_rng (rows := rows) (q := q) (i := (sumL (decc q (gt rows 0).length z)).toNat) (c := (decc q (gt rows 0).length z)) (la := (decl (gt rows 0).length z)) (g := fun j => pot rows q (gt rows 0).length (aft (decc q (gt rows 0).length z) j) j) (B := 12582912) (by omega) (cell_rng g _) (fun j => pot_rng g _ (by by_cases hjj : j < (decc q (gt rows 0).length z).length; (rw [sum_aft _ j hjj]; omega); (rw [aft, List.set_eq_of_length_le (by omega)]; omega)) _) jn).1
            refine Rq ?_
            refine Rq ?_
            refine Rq ?_
            refine R_q rfl (by simp (disch := first | omega | (simp only [List.length_map, List.length_append, List.length_set, List.length_cons, List.length_nil, List.length_take, List.length_drop]; omega)) only [go_sem, ↓reduceIte, Nat.reduceEqDiff, reduceCtorEq, q0, qk, qx]; rfl) ?_
            refine Rq ?_
            refine Rq ?_
            refine Rp_split (fun h6 => ?_) (fun h6 => ?_)
            · try simp only [decide_eq_true_eq, decide_eq_false_iff_not, Bool.not_eq_true', Bool.not_eq_false', beq_iff_eq, beq_eq_false_iff_ne, ne_eq] at h6
              refine Rn ?_
              refine Rn ?_
              refine Rn ?_
              refine Rn ?_
              refine Rn ?_
              refine Rn ?_
              refine Rq ?_
              have tr : ∀ y0 y1 y2 y3 y4 y5 y6 y7 y8 y16 y30 y36 y37 y38 y44 y53 y77 z0 z1 z2 z3 z4 z5 z6 z7 z8 z9 z10 z11 z12 : AV, trim [(77, z12), (76, z11), (75, z10), (74, z9), (73, z8), (72, z7), (71, z6), (70, z5), (69, z4), (68, z3), (67, z2), (66, z1), (65, z0), (0, y0), (1, y1), (2, y2), (3, y3), (4, y4), (5, y5), (6, y6), (7, y7), (8, y8), (16, y16), (30, y30), (36, y36), (37, y37), (38, y38), (44, y44), (53, y53), (77, y77)] [(0, y0), (1, y1), (2, y2), (3, y3), (4, y4), (5, y5), (6, y6), (7, y7), (8, y8), (16, y16), (30, y30), (36, y36), (37, y37), (38, y38), (44, y44), (53, y53), (77, y77)] = [(0, y0), (1, y1), (2, y2), (3, y3), (4, y4), (5, y5), (6, y6), (7, y7), (8, y8), (16, y16), (30, y30), (36, y36), (37, y37), (38, y38), (44, y44), (53, y53), (77, z12)] := fun y0 y1 y2 y3 y4 y5 y6 y7 y8 y16 y30 y36 y37 y38 y44 y53 y77 z0 z1 z2 z3 z4 z5 z6 z7 z8 z9 z10 z11 z12 => rfl
              refine R_nil (tr _ _ _ _ _ _ _ _ _ _ _ _ _ _ _ _ _ _ _ _ _ _ _ _ _ _ _ _ _ _) ?_; clear tr
              refine then_n ?_
              refine cdt ?_
              refine rg rfl ?_
              refine Rq ?_
              refine Rq ?_
              refine Rq ?_
              refine Rq ?_
              have lq0 := hget_lt q0
              have lqk := hget_lt qk
              have lqx := hget_lt qx
              refine A_store ty2 (by simp (disch := first | omega | (simp only [List.length_map, List.length_append, List.length_set, List.length_cons, List.length_nil, List.length_take, List.length_drop]; omega)) only [go_sem, ↓reduceIte, Nat.reduceEqDiff, reduceCtorEq, q0, qk, qx] <;> rfl) (by simp (disch := first | omega | (simp only [List.length_map, List.length_append, List.length_set, List.length_cons, List.length_nil, List.length_take, List.length_drop]; omega)) only [go_sem, ↓reduceIte, Nat.reduceEqDiff, reduceCtorEq, q0, qk, qx] <;> rfl) qk ⟨by omega, rfl, by simp only [List.length_map, List.length_set]; omega⟩ (k' := ((K.set z (gt (gt rows (sumL (decc q (gt rows 0).length z)).toNat) jn + pot rows q (gt rows 0).length (aft (decc q (gt rows 0).length z) jn) jn)).map AV.i)) (by rw [setL_map, List.set_set, hga]) ?_
              intro HG w7
              have ew7 := w7.len
              have od := od.wrote w7 (by omega)
              have q0 := (w7.old _ (by omega)).trans q0
              have qx := (w7.old _ (by omega)).trans qx
              have qk := w7.new
              have tr : ∀ y0 y1 y2 y3 y4 y5 y6 y7 y8 y16 y30 y36 y37 y38 y44 y53 y77 z0 z1 z2 z3 : AV, trim [(81, z3), (80, z2), (79, z1), (78, z0), (0, y0), (1, y1), (2, y2), (3, y3), (4, y4), (5, y5), (6, y6), (7, y7), (8, y8), (16, y16), (30, y30), (36, y36), (37, y37), (38, y38), (44, y44), (53, y53), (77, y77)] [(0, y0), (1, y1), (2, y2), (3, y3), (4, y4), (5, y5), (6, y6), (7, y7), (8, y8), (16, y16), (30, y30), (36, y36), (37, y37), (38, y38), (44, y44), (53, y53), (77, y77)] = [(0, y0), (1, y1), (2, y2), (3, y3), (4, y4), (5, y5), (6, y6), (7, y7), (8, y8), (16, y16), (30, y30), (36, y36), (37, y37), (38, y38), (44, y44), (53, y53), (77, y77)] := fun y0 y1 y2 y3 y4 y5 y6 y7 y8 y16 y30 y36 y37 y38 y44 y53 y77 z0 z1 z2 z3 => rfl
              refine R_nil (tr _ _ _ _ _ _ _ _ _ _ _ _ _ _ _ _ _ _ _ _ _) ?_; clear tr
              refine blk_n ?_
              refine then_n ?_
              refine rg rfl ?_
              refine Rq ?_
              refine Rq ?_
              have tr : ∀ y0 y1 y2 y3 y4 y5 y6 y7 y8 y16 y30 y36 y37 y38 y44 y53 y77 z0 z1 : AV, trim [(37, z1), (82, z0), (0, y0), (1, y1), (2, y2), (3, y3), (4, y4), (5, y5), (6, y6), (7, y7), (8, y8), (16, y16), (30, y30), (36, y36), (37, y37), (38, y38), (44, y44), (53, y53), (77, y77)] [(0, y0), (1, y1), (2, y2), (3, y3), (4, y4), (5, y5), (6, y6), (7, y7), (8, y8), (16, y16), (30, y30), (36, y36), (37, y37), (38, y38), (44, y44), (53, y53), (77, y77)] = [(0, y0), (1, y1), (2, y2), (3, y3), (4, y4), (5, y5), (6, y6), (7, y7), (8, y8), (16, y16), (30, y30), (36, y36), (37, z1), (38, y38), (44, y44), (53, y53), (77, y77)] := fun y0 y1 y2 y3 y4 y5 y6 y7 y8 y16 y30 y36 y37 y38 y44 y53 y77 z0 z1 => rfl
              refine R_nil (tr _ _ _ _ _ _ _ _ _ _ _ _ _ _ _ _ _ _ _) ?_; clear tr
              refine then_n ?_
              exact ⟨_, _, ⟨jn + 1, (gt (gt rows (sumL (decc q (gt rows 0).length z)).toNat) jn + pot rows q (gt rows 0).length (aft (decc q (gt rows 0).length z) jn) jn), _, _, _, _, _, _, _, rfl, rfl, by exact q0, by exact qk, by exact qx, by omega, by first | (intro hs; exfalso; omega) | (intro hs; have hh := hb1 hs; rw [scanJ, ← hh]; first | rw [if_pos ⟨by omega, by omega, by omega, by omega⟩] | rw [if_neg (by omega)]), by first | exact hb2 | (intro hs; exfalso; omega), by exact od⟩, by rfl, by omega⟩
            · try simp only [decide_eq_true_eq, decide_eq_false_iff_not, Bool.not_eq_true', Bool.not_eq_false', beq_iff_eq, beq_eq_false_iff_ne, ne_eq] at h6
              refine Ry ?_
              refine Rq ?_
              refine Ry ?_
              refine Rq ?_
              refine Ry ?_
              refine Rq ?_
              refine Ry ?_
              refine Rq ?_
              refine Ry ?_
              refine R_q rfl (by simp (disch := first | omega | (simp only [List.length_map, List.length_append, List.length_set, List.length_cons, List.length_nil, List.length_take, List.length_drop]; omega)) only [go_sem, ↓reduceIte, Nat.reduceEqDiff, reduceCtorEq, q0, qk, qx]; rfl) ?_
              refine Ry ?_
              refine Rq ?_
              refine Rq ?_
              have tr : ∀ y0 y1 y2 y3 y4 y5 y6 y7 y8 y16 y30 y36 y37 y38 y44 y53 y77 z0 z1 z2 z3 z4 z5 z6 z7 z8 z9 z10 z11 z12 : AV, trim [(77, z12), (76, z11), (75, z10), (74, z9), (73, z8), (72, z7), (71, z6), (70, z5), (69, z4), (68, z3), (67, z2), (66, z1), (65, z0), (0, y0), (1, y1), (2, y2), (3, y3), (4, y4), (5, y5), (6, y6), (7, y7), (8, y8), (16, y16), (30, y30), (36, y36), (37, y37), (38, y38), (44, y44), (53, y53), (77, y77)] [(0, y0), (1, y1), (2, y2), (3, y3), (4, y4), (5, y5), (6, y6), (7, y7), (8, y8), (16, y16), (30, y30), (36, y36), (37, y37), (38, y38), (44, y44), (53, y53), (77, y77)] = [(0, y0), (1, y1), (2, y2), (3, y3), (4, y4), (5, y5), (6, y6), (7, y7), (8, y8), (16, y16), (30, y30), (36, y36), (37, y37), (38, y38), (44, y44), (53, y53), (77, z12)] := fun y0 y1 y2 y3 y4 y5 y6 y7 y8 y16 y30 y36 y37 y38 y44 y53 y77 z0 z1 z2 z3 z4 z5 z6 z7 z8 z9 z10 z11 z12 => rfl
              refine R_nil (tr _ _ _ _ _ _ _ _ _ _ _ _ _ _ _ _ _ _ _ _ _ _ _ _ _ _ _ _ _ _) ?_; clear tr
              refine then_n ?_
              refine cdd (fun h7 => ?_) (fun h7 => ?_)
              · try simp only [decide_eq_true_eq, decide_eq_false_iff_not, Bool.not_eq_true', Bool.not_eq_false', beq_iff_eq, beq_eq_false_iff_ne, ne_eq] at h7
                refine rg rfl ?_
                refine Rq ?_
                refine Rq ?_
                refine Rq ?_
                refine Rq ?_
                have lq0 := hget_lt q0
                have lqk := hget_lt qk
                have lqx := hget_lt qx
                refine A_store ty2 (by simp (disch := first | omega | (simp only [List.length_map, List.length_append, List.length_set, List.length_cons, List.length_nil, List.length_take, List.length_drop]; omega)) only [go_sem, ↓reduceIte, Nat.reduceEqDiff, reduceCtorEq, q0, qk, qx] <;> rfl) (by simp (disch := first | omega | (simp only [List.length_map, List.length_append, List.length_set, List.length_cons, List.length_nil, List.length_take, List.length_drop]; omega)) only [go_sem, ↓reduceIte, Nat.reduceEqDiff, reduceCtorEq, q0, qk, qx] <;> rfl) qk ⟨by omega, rfl, by simp only [List.length_map, List.length_set]; omega⟩ (k' := ((K.set z (gt (gt rows (sumL (decc q (gt rows 0).length z)).toNat) jn + pot rows q (gt rows 0).length (aft (decc q (gt rows 0).length z) jn) jn)).map AV.i)) (by rw [setL_map, List.set_set, hga]) ?_
                intro HG w7
                have ew7 := w7.len
                have od := od.wrote w7 (by omega)
                have q0 := (w7.old _ (by omega)).trans q0
                have qx := (w7.old _ (by omega)).trans qx
                have qk := w7.new
                have tr : ∀ y0 y1 y2 y3 y4 y5 y6 y7 y8 y16 y30 y36 y37 y38 y44 y53 y77 z0 z1 z2 z3 : AV, trim [(81, z3), (80, z2), (79, z1), (78, z0), (0, y0), (1, y1), (2, y2), (3, y3), (4, y4), (5, y5), (6, y6), (7, y7), (8, y8), (16, y16), (30, y30), (36, y36), (37, y37), (38, y38), (44, y44), (53, y53), (77, y77)] [(0, y0), (1, y1), (2, y2), (3, y3), (4, y4), (5, y5), (6, y6), (7, y7), (8, y8), (16, y16), (30, y30), (36, y36), (37, y37), (38, y38), (44, y44), (53, y53), (77, y77)] = [(0, y0), (1, y1), (2, y2), (3, y3), (4, y4), (5, y5), (6, y6), (7, y7), (8, y8), (16, y16), (30, y30), (36, y36), (37, y37), (38, y38), (44, y44), (53, y53), (77, y77)] := fun y0 y1 y2 y3 y4 y5 y6 y7 y8 y16 y30 y36 y37 y38 y44 y53 y77 z0 z1 z2 z3 => rfl
                refine R_nil (tr _ _ _ _ _ _ _ _ _ _ _ _ _ _ _ _ _ _ _ _ _) ?_; clear tr
                refine blk_n ?_
                refine then_n ?_
                refine rg rfl ?_
                refine Rq ?_
                refine Rq ?_
                have tr : ∀ y0 y1 y2 y3 y4 y5 y6 y7 y8 y16 y30 y36 y37 y38 y44 y53 y77 z0 z1 : AV, trim [(37, z1), (82, z0), (0, y0), (1, y1), (2, y2), (3, y3), (4, y4), (5, y5), (6, y6), (7, y7), (8, y8), (16, y16), (30, y30), (36, y36), (37, y37), (38, y38), (44, y44), (53, y53), (77, y77)] [(0, y0), (1, y1), (2, y2), (3, y3), (4, y4), (5, y5), (6, y6), (7, y7), (8, y8), (16, y16), (30, y30), (36, y36), (37, y37), (38, y38), (44, y44), (53, y53), (77, y77)] = [(0, y0), (1, y1), (2, y2), (3, y3), (4, y4), (5, y5), (6, y6), (7, y7), (8, y8), (16, y16), (30, y30), (36, y36), (37, z1), (38, y38), (44, y44), (53, y53), (77, y77)] := fun y0 y1 y2 y3 y4 y5 y6 y7 y8 y16 y30 y36 y37 y38 y44 y53 y77 z0 z1 => rfl
                refine R_nil (tr _ _ _ _ _ _ _ _ _ _ _ _ _ _ _ _ _ _ _) ?_; clear tr
                refine then_n ?_
                exact ⟨_, _, ⟨jn + 1, (gt (gt rows (sumL (decc q (gt rows 0).length z)).toNat) jn + pot rows q (gt rows 0).length (aft (decc q (gt rows 0).length z) jn) jn), _, _, _, _, _, _, _, rfl, rfl, by exact q0, by exact qk, by exact qx, by omega, by first | (intro hs; exfalso; omega) | (intro hs; have hh := hb1 hs; rw [scanJ, ← hh]; first | rw [if_pos ⟨by omega, by omega, by omega, by omega⟩] | rw [if_neg (by omega)]), by first | exact hb2 | (intro hs; exfalso; omega), by exact od⟩, by rfl, by omega⟩
              · try simp only [decide_eq_true_eq, decide_eq_false_iff_not, Bool.not_eq_true', Bool.not_eq_false', beq_iff_eq, beq_eq_false_iff_ne, ne_eq] at h7
                refine at_skip rfl ?_
                refine blk_n ?_
                refine then_n ?_
                refine rg rfl ?_
                refine Rq ?_
                refine Rq ?_
                have tr : ∀ y0 y1 y2 y3 y4 y5 y6 y7 y8 y16 y30 y36 y37 y38 y44 y53 y77 z0 z1 : AV, trim [(37, z1), (82, z0), (0, y0), (1, y1), (2, y2), (3, y3), (4, y4), (5, y5), (6, y6), (7, y7), (8, y8), (16, y16), (30, y30), (36, y36), (37, y37), (38, y38), (44, y44), (53, y53), (77, y77)] [(0, y0), (1, y1), (2, y2), (3, y3), (4, y4), (5, y5), (6, y6), (7, y7), (8, y8), (16, y16), (30, y30), (36, y36), (37, y37), (38, y38), (44, y44), (53, y53), (77, y77)] = [(0, y0), (1, y1), (2, y2), (3, y3), (4, y4), (5, y5), (6, y6), (7, y7), (8, y8), (16, y16), (30, y30), (36, y36), (37, z1), (38, y38), (44, y44), (53, y53), (77, y77)] := fun y0 y1 y2 y3 y4 y5 y6 y7 y8 y16 y30 y36 y37 y38 y44 y53 y77 z0 z1 => rfl
                refine R_nil (tr _ _ _ _ _ _ _ _ _ _ _ _ _ _ _ _ _ _ _) ?_; clear tr
                refine then_n ?_
                exact ⟨_, _, ⟨jn + 1, bst, _, _, _, _, _, _, _, rfl, rfl, by exact q0, by exact qk, by exact qx, by omega, by first | (intro hs; exfalso; omega) | (intro hs; have hh := hb1 hs; rw [scanJ, ← hh]; first | rw [if_pos ⟨by omega, by omega, by omega, by omega⟩] | rw [if_neg (by omega)]), by first | exact hb2 | (intro hs; exfalso; omega), by exact od⟩, by rfl, by omega⟩
      · try simp only [decide_eq_true_eq, decide_eq_false_iff_not, Bool.not_eq_true', Bool.not_eq_false', beq_iff_eq, beq_eq_false_iff_ne, ne_eq] at h3
        refine at_exit rfl ?_
        refine then_x ?_
        refine then_x ?_
        refine blk_x ?_
        refine blk_n ?_
        refine then_n ?_
        refine rg rfl ?_
        refine Rq ?_
        refine Rq ?_
        refine Rq ?_
        have tr : ∀ y0 y1 y2 y3 y4 y5 y6 y7 y8 y16 y30 y36 y37 y38 y44 y53 y77 z0 z1 z2 : AV, trim [(4, z2), (18, z1), (17, z0), (0, y0), (1, y1), (2, y2), (3, y3), (4, y4), (5, y5), (6, y6), (7, y7), (8, y8), (16, y16), (30, y30), (36, y36), (37, y37), (38, y38), (44, y44), (53, y53), (77, y77)] [(0, y0), (1, y1), (2, y2), (3, y3), (4, y4), (5, y5), (6, y6), (7, y7), (8, y8), (16, y16), (30, y30), (36, y36), (37, y37), (38, y38), (44, y44), (53, y53), (77, y77)] = [(0, y0), (1, y1), (2, y2), (3, y3), (4, z2), (5, y5), (6, y6), (7, y7), (8, y8), (16, y16), (30, y30), (36, y36), (37, y37), (38, y38), (44, y44), (53, y53), (77, y77)] := fun y0 y1 y2 y3 y4 y5 y6 y7 y8 y16 y30 y36 y37 y38 y44 y53 y77 z0 z1 z2 => rfl
        refine R_nil (tr _ _ _ _ _ _ _ _ _ _ _ _ _ _ _ _ _ _ _ _) ?_; clear tr
        refine then_n ?_
        exact ⟨_, _, ⟨z, ((z : Int) - 1), (K.set z bst), _, _, _, _, _, _, _, _, _, _, _, _, rfl, rfl, by exact q0, by exact qk, by rfl, by rw [List.length_set]; omega, by rw [List.length_set]; exact hKl, by refine above_set hAb (by omega) ?_; show bst = pot rows q (gt rows 0).length (decc q (gt rows 0).length z) (decl (gt rows 0).length z); by_cases hs : sumL (decc q (gt rows 0).length z) < rows.length; (rw [hb1 hs, show jn = (gt rows 0).length by omega, pot_lt hcl hs]); (exact hb2 hs), by exact od⟩, by rfl, by omega⟩
    · try simp only [decide_eq_true_eq, decide_eq_false_iff_not, Bool.not_eq_true', Bool.not_eq_false', beq_iff_eq, beq_eq_false_iff_ne, ne_eq] at h2
      refine at_skip rfl ?_
      refine then_n ?_
      refine at_seq rfl ?_
      refine rg rfl ?_
      refine Rq ?_
      refine R_q rfl (by simp (disch := first | omega | (simp only [List.length_map, List.length_append, List.length_set, List.length_cons, List.length_nil, List.length_take, List.length_drop]; omega)) only [go_sem, ↓reduceIte, Nat.reduceEqDiff, reduceCtorEq, q0, qk, qx]; rfl) ?_
      refine Rq ?_
      refine Rq ?_
      have tr : ∀ y0 y1 y2 y3 y4 y5 y6 y7 y8 y16 y30 y36 y37 y38 y44 y53 y77 z0 z1 z2 z3 : AV, trim [(37, z3), (36, z2), (35, z1), (34, z0), (0, y0), (1, y1), (2, y2), (3, y3), (4, y4), (5, y5), (6, y6), (7, y7), (8, y8), (16, y16), (30, y30), (36, y36), (37, y37), (38, y38), (44, y44), (53, y53), (77, y77)] [(0, y0), (1, y1), (2, y2), (3, y3), (4, y4), (5, y5), (6, y6), (7, y7), (8, y8), (16, y16), (30, y30), (36, y36), (37, y37), (38, y38), (44, y44), (53, y53), (77, y77)] = [(0, y0), (1, y1), (2, y2), (3, y3), (4, y4), (5, y5), (6, y6), (7, y7), (8, y8), (16, y16), (30, y30), (36, z2), (37, z3), (38, y38), (44, y44), (53, y53), (77, y77)] := fun y0 y1 y2 y3 y4 y5 y6 y7 y8 y16 y30 y36 y37 y38 y44 y53 y77 z0 z1 z2 z3 => rfl
      refine R_nil (tr _ _ _ _ _ _ _ _ _ _ _ _ _ _ _ _ _ _ _ _ _) ?_; clear tr
      refine then_n ?_
      refine at_block rfl ?_
      refine loop_n rfl (fun mm kv H' => ∃ jn : Nat, ∃ bst : Int, ∃ x6 x7 x8 x38 x44 x53 x77 : AV, (kv = [(6, x6), (7, x7), (8, x8), (37, AV.i jn), (38, x38), (44, x44), (53, x53), (77, x77)]) ∧ (mm = (gt rows 0).length - jn) ∧ (hget H' H.length = some [rowsAV rows, AV.i q, AV.i la0]) ∧ (hget H' H1.length = some ((K.set z bst).map AV.i)) ∧ (hget H' HA.length = some [intsAV (decc q (gt rows 0).length z), AV.i (sumL (decc q (gt rows 0).length z)), AV.i (decl (gt rows 0).length z)]) ∧ (jn ≤ (gt rows 0).length) ∧ ((sumL (decc q (gt rows 0).length z) < rows.length → bst = scanJ rows q (sumL (decc q (gt rows 0).length z)).toNat (decc q (gt rows 0).length z) (decl (gt rows 0).length z) (fun j => pot rows q (gt rows 0).length (aft (decc q (gt rows 0).length z) j) j) jn)) ∧ ((¬ sumL (decc q (gt rows 0).length z) < rows.length → bst = pot rows q (gt rows 0).length (decc q (gt rows 0).length z) (decl (gt rows 0).length z))) ∧ (Old H H')) ⟨0, (-1), _, _, _, _, _, _, _, rfl, rfl, by exact q0, by exact qk, by exact qx, by omega, by first | (intro hs; rfl) | (intro hs; exfalso; omega), by intro hs; first | (rw [pot_eq (by omega)]; done) | (rw [pot_gt (by omega)]; done), by exact od⟩ (by rfl) ?_
      rintro mm kv HB ⟨jn, bst, x6, x7, x8, x38, x44, x53, x77, rfl, rfl, q0, qk, qx, hj, hb1, hb2, od⟩
      have tr : ∀ y0 y1 y2 y3 y4 y5 y6 y7 y8 y16 y30 y36 y37 y38 y44 y53 y77 z6 z7 z8 z37 z38 z44 z53 z77 : AV, upd [(0, y0), (1, y1), (2, y2), (3, y3), (4, y4), (5, y5), (6, y6), (7, y7), (8, y8), (16, y16), (30, y30), (36, y36), (37, y37), (38, y38), (44, y44), (53, y53), (77, y77)] [(6, z6), (7, z7), (8, z8), (37, z37), (38, z38), (44, z44), (53, z53), (77, z77)] = [(0, y0), (1, y1), (2, y2), (3, y3), (4, y4), (5, y5), (6, z6), (7, z7), (8, z8), (16, y16), (30, y30), (36, y36), (37, z37), (38, z38), (44, z44), (53, z53), (77, z77)] := fun y0 y1 y2 y3 y4 y5 y6 y7 y8 y16 y30 y36 y37 y38 y44 y53 y77 z6 z7 z8 z37 z38 z44 z53 z77 => rfl
      refine W_to (tr _ _ _ _ _ _ _ _ _ _ _ _ _ _ _ _ _ _ _ _ _ _ _ _ _) ?_; clear tr
      have kqk := hget_lt qk
      refine at_seq rfl ?_
      refine rg rfl ?_
      refine Rq ?_
      have tr : ∀ y0 y1 y2 y3 y4 y5 y6 y7 y8 y16 y30 y36 y37 y38 y44 y53 y77 z0 : AV, trim [(38, z0), (0, y0), (1, y1), (2, y2), (3, y3), (4, y4), (5, y5), (6, y6), (7, y7), (8, y8), (16, y16), (30, y30), (36, y36), (37, y37), (38, y38), (44, y44), (53, y53), (77, y77)] [(0, y0), (1, y1), (2, y2), (3, y3), (4, y4), (5, y5), (6, y6), (7, y7), (8, y8), (16, y16), (30, y30), (36, y36), (37, y37), (38, y38), (44, y44), (53, y53), (77, y77)] = [(0, y0), (1, y1), (2, y2), (3, y3), (4, y4), (5, y5), (6, y6), (7, y7), (8, y8), (16, y16), (30, y30), (36, y36), (37, y37), (38, z0), (44, y44), (53, y53), (77, y77)] := fun y0 y1 y2 y3 y4 y5 y6 y7 y8 y16 y30 y36 y37 y38 y44 y53 y77 z0 => rfl
      refine R_nil (tr _ _ _ _ _ _ _ _ _ _ _ _ _ _ _ _ _ _) ?_; clear tr
      refine then_n ?_
      refine at_seq rfl ?_
      refine cdd (fun h8 => ?_) (fun h8 => ?_)
      · try simp only [decide_eq_true_eq, decide_eq_false_iff_not, Bool.not_eq_true', Bool.not_eq_false', beq_iff_eq, beq_eq_false_iff_ne, ne_eq] at h8
        refine at_skip rfl ?_
        refine then_n ?_
        refine at_seq rfl ?_
        refine at_block rfl ?_
        refine at_seq rfl ?_
        refine rg rfl ?_
        refine Rq ?_
        refine Rq ?_
        have tr : ∀ y0 y1 y2 y3 y4 y5 y6 y7 y8 y16 y30 y36 y37 y38 y44 y53 y77 z0 z1 : AV, trim [(6, z1), (39, z0), (0, y0), (1, y1), (2, y2), (3, y3), (4, y4), (5, y5), (6, y6), (7, y7), (8, y8), (16, y16), (30, y30), (36, y36), (37, y37), (38, y38), (44, y44), (53, y53), (77, y77)] [(0, y0), (1, y1), (2, y2), (3, y3), (4, y4), (5, y5), (6, y6), (7, y7), (8, y8), (16, y16), (30, y30), (36, y36), (37, y37), (38, y38), (44, y44), (53, y53), (77, y77)] = [(0, y0), (1, y1), (2, y2), (3, y3), (4, y4), (5, y5), (6, z1), (7, y7), (8, y8), (16, y16), (30, y30), (36, y36), (37, y37), (38, y38), (44, y44), (53, y53), (77, y77)] := fun y0 y1 y2 y3 y4 y5 y6 y7 y8 y16 y30 y36 y37 y38 y44 y53 y77 z0 z1 => rfl
        refine R_nil (tr _ _ _ _ _ _ _ _ _ _ _ _ _ _ _ _ _ _ _) ?_; clear tr
        refine then_n ?_
        refine at_seq rfl ?_
        refine at_seq rfl ?_
        refine rg rfl ?_
        refine R_q rfl (by simp (disch := first | omega | (simp only [List.length_map, List.length_append, List.length_set, List.length_cons, List.length_nil, List.length_take, List.length_drop]; omega)) only [go_sem, ↓reduceIte, Nat.reduceEqDiff, reduceCtorEq, q0, qk, qx]; rfl) ?_
        refine R_q rfl (by simp (disch := first | omega | (simp only [List.length_map, List.length_append, List.length_set, List.length_cons, List.length_nil, List.length_take, List.length_drop]; omega)) only [go_sem, ↓reduceIte, Nat.reduceEqDiff, reduceCtorEq, q0, qk, qx]; rfl) ?_
        refine Rq ?_
        refine Rcall ?_
        refine ACall_eq (rmay_ok _ _ rows q la0 g (decc q (gt rows 0).length z) (decl (gt rows 0).length z) st _ (.inl rfl) _ jn (by rw [hcl]; omega)) ?_
        refine Rq ?_
        have tr : ∀ y0 y1 y2 y3 y4 y5 y6 y7 y8 y16 y30 y36 y37 y38 y44 y53 y77 z0 z1 z2 z3 z4 : AV, trim [(44, z4), (43, z3), (42, z2), (41, z1), (40, z0), (0, y0), (1, y1), (2, y2), (3, y3), (4, y4), (5, y5), (6, y6), (7, y7), (8, y8), (16, y16), (30, y30), (36, y36), (37, y37), (38, y38), (44, y44), (53, y53), (77, y77)] [(0, y0), (1, y1), (2, y2), (3, y3), (4, y4), (5, y5), (6, y6), (7, y7), (8, y8), (16, y16), (30, y30), (36, y36), (37, y37), (38, y38), (44, y44), (53, y53), (77, y77)] = [(0, y0), (1, y1), (2, y2), (3, y3), (4, y4), (5, y5), (6, y6), (7, y7), (8, y8), (16, y16), (30, y30), (36, y36), (37, y37), (38, y38), (44, z4), (53, y53), (77, y77)] := fun y0 y1 y2 y3 y4 y5 y6 y7 y8 y16 y30 y36 y37 y38 y44 y53 y77 z0 z1 z2 z3 z4 => rfl
        refine R_nil (tr _ _ _ _ _ _ _ _ _ _ _ _ _ _ _ _ _ _ _ _ _ _) ?_; clear tr
        refine then_n ?_
        refine cdd (fun h9 => ?_) (fun h9 => ?_)
        · try simp only [decide_eq_true_eq, decide_eq_false_iff_not, Bool.not_eq_true', Bool.not_eq_false', beq_iff_eq, beq_eq_false_iff_ne, ne_eq] at h9
          refine at_exit rfl ?_
          refine then_x ?_
          refine blk_x ?_
          refine then_n ?_
          refine rg rfl ?_
          refine Rq ?_
          refine Rq ?_
          have tr : ∀ y0 y1 y2 y3 y4 y5 y6 y7 y8 y16 y30 y36 y37 y38 y44 y53 y77 z0 z1 : AV, trim [(37, z1), (82, z0), (0, y0), (1, y1), (2, y2), (3, y3), (4, y4), (5, y5), (6, y6), (7, y7), (8, y8), (16, y16), (30, y30), (36, y36), (37, y37), (38, y38), (44, y44), (53, y53), (77, y77)] [(0, y0), (1, y1), (2, y2), (3, y3), (4, y4), (5, y5), (6, y6), (7, y7), (8, y8), (16, y16), (30, y30), (36, y36), (37, y37), (38, y38), (44, y44), (53, y53), (77, y77)] = [(0, y0), (1, y1), (2, y2), (3, y3), (4, y4), (5, y5), (6, y6), (7, y7), (8, y8), (16, y16), (30, y30), (36, y36), (37, z1), (38, y38), (44, y44), (53, y53), (77, y77)] := fun y0 y1 y2 y3 y4 y5 y6 y7 y8 y16 y30 y36 y37 y38 y44 y53 y77 z0 z1 => rfl
          refine R_nil (tr _ _ _ _ _ _ _ _ _ _ _ _ _ _ _ _ _ _ _) ?_; clear tr
          refine then_n ?_
          exact ⟨_, _, ⟨jn + 1, bst, _, _, _, _, _, _, _, rfl, rfl, by exact q0, by exact qk, by exact qx, by omega, by first | (intro hs; exfalso; omega) | (intro hs; have hh := hb1 hs; rw [scanJ, ← hh]; first | rw [if_pos ⟨by omega, by omega, by omega, by omega⟩] | rw [if_neg (by omega)]), by first | exact hb2 | (intro hs; exfalso; omega), by exact od⟩, by rfl, by omega⟩
        · try simp only [decide_eq_true_eq, decide_eq_false_iff_not, Bool.not_eq_true', Bool.not_eq_false', beq_iff_eq, beq_eq_false_iff_ne, ne_eq] at h9
          refine at_skip rfl ?_
          refine then_n ?_
          refine at_seq rfl ?_
          refine rg rfl ?_
          have hcj := okc_gt st.c (j := jn) (by omega)
          have sta := aft_st st (j := jn) (by omega) (by omega)
          have hir := idx_rng hq0 sta
          have hlt := idx_aft hq0 st (j := jn) (by omega) (by omega)
          rw [idx_dec hq0 (by omega) (by omega)] at hlt
          have hga := above_at (v := bst) hKl hAb (by omega) hq0 sta (by omega)
          have hsa := sum_aft (decc q (gt rows 0).length z) jn (by rw [hcl]; omega)
          have hpa := pot_rng g (aft (decc q (gt rows 0).length z) jn) (by rw [hsa]; omega) jn
          refine Rq ?_
          refine R_q rfl (by simp (disch := first | omega | (simp only [List.length_map, List.length_append, List.length_set, List.length_cons, List.length_nil, List.length_take, List.length_drop]; omega)) only [go_sem, ↓reduceIte, Nat.reduceEqDiff, reduceCtorEq, q0, qk, qx]; rfl) ?_
          refine R_q rfl (by simp (disch := first | omega | (simp only [List.length_map, List.length_append, List.length_set, List.length_cons, List.length_nil, List.length_take, List.length_drop]; omega)) only [go_sem, ↓reduceIte, Nat.reduceEqDiff, reduceCtorEq, q0, qk, qx]; rfl) ?_
          refine Rq ?_
          refine Rcall ?_
          refine ACall_eq (rafter_ok _ _ rows q la0 g (decc q (gt rows 0).length z) (decl (gt rows 0).length z) st _ (.inl rfl) _ jn (by rw [hcl]; omega) (by omega)) ?_
          refine Rq ?_
          refine R_q rfl (by simp (disch := first | omega | (simp only [List.length_map, List.length_append, List.length_set, List.length_cons, List.length_nil, List.length_take, List.length_drop]; omega)) only [go_sem, ↓reduceIte, Nat.reduceEqDiff, reduceCtorEq, q0, qk, qx]; rfl) ?_
          refine Rq ?_
          have tr : ∀ y0 y1 y2 y3 y4 y5 y6 y7 y8 y16 y30 y36 y37 y38 y44 y53 y77 z0 z1 z2 z3 z4 z5 z6 z7 : AV, trim [(7, z7), (51, z6), (50, z5), (49, z4), (48, z3), (47, z2), (46, z1), (45, z0), (0, y0), (1, y1), (2, y2), (3, y3), (4, y4), (5, y5), (6, y6), (7, y7), (8, y8), (16, y16), (30, y30), (36, y36), (37, y37), (38, y38), (44, y44), (53, y53), (77, y77)] [(0, y0), (1, y1), (2, y2), (3, y3), (4, y4), (5, y5), (6, y6), (7, y7), (8, y8), (16, y16), (30, y30), (36, y36), (37, y37), (38, y38), (44, y44), (53, y53), (77, y77)] = [(0, y0), (1, y1), (2, y2), (3, y3), (4, y4), (5, y5), (6, y6), (7, z7), (8, y8), (16, y16), (30, y30), (36, y36), (37, y37), (38, y38), (44, y44), (53, y53), (77, y77)] := fun y0 y1 y2 y3 y4 y5 y6 y7 y8 y16 y30 y36 y37 y38 y44 y53 y77 z0 z1 z2 z3 z4 z5 z6 z7 => rfl
          refine R_nil (tr _ _ _ _ _ _ _ _ _ _ _ _ _ _ _ _ _ _ _ _ _ _ _ _ _) ?_; clear tr
          refine then_n ?_
          refine at_seq rfl ?_
          refine at_seq rfl ?_
          refine rg rfl ?_
          refine Rq ?_
          refine Rq ?_
          have tr : ∀ y0 y1 y2 y3 y4 y5 y6 y7 y8 y16 y30 y36 y37 y38 y44 y53 y77 z0 z1 : AV, trim [(53, z1), (52, z0), (0, y0), (1, y1), (2, y2), (3, y3), (4, y4), (5, y5), (6, y6), (7, y7), (8, y8), (16, y16), (30, y30), (36, y36), (37, y37), (38, y38), (44, y44), (53, y53), (77, y77)] [(0, y0), (1, y1), (2, y2), (3, y3), (4, y4), (5, y5), (6, y6), (7, y7), (8, y8), (16, y16), (30, y30), (36, y36), (37, y37), (38, y38), (44, y44), (53, y53), (77, y77)] = [(0, y0), (1, y1), (2, y2), (3, y3), (4, y4), (5, y5), (6, y6), (7, y7), (8, y8), (16, y16), (30, y30), (36, y36), (37, y37), (38, y38), (44, y44), (53, z1), (77, y77)] := fun y0 y1 y2 y3 y4 y5 y6 y7 y8 y16 y30 y36 y37 y38 y44 y53 y77 z0 z1 => rfl
          refine R_nil (tr _ _ _ _ _ _ _ _ _ _ _ _ _ _ _ _ _ _ _) ?_; clear tr
          refine then_n ?_
          refine cdd (fun h10 => ?_) (fun h10 => ?_)
          · try simp only [decide_eq_true_eq, decide_eq_false_iff_not, Bool.not_eq_true', Bool.not_eq_false', beq_iff_eq, beq_eq_false_iff_ne, ne_eq] at h10
            refine at_exit rfl ?_
            refine then_x ?_
            refine blk_x ?_
            refine then_n ?_
            refine rg rfl ?_
            refine Rq ?_
            refine Rq ?_
            have tr : ∀ y0 y1 y2 y3 y4 y5 y6 y7 y8 y16 y30 y36 y37 y38 y44 y53 y77 z0 z1 : AV, trim [(37, z1), (82, z0), (0, y0), (1, y1), (2, y2), (3, y3), (4, y4), (5, y5), (6, y6), (7, y7), (8, y8), (16, y16), (30, y30), (36, y36), (37, y37), (38, y38), (44, y44), (53, y53), (77, y77)] [(0, y0), (1, y1), (2, y2), (3, y3), (4, y4), (5, y5), (6, y6), (7, y7), (8, y8), (16, y16), (30, y30), (36, y36), (37, y37), (38, y38), (44, y44), (53, y53), (77, y77)] = [(0, y0), (1, y1), (2, y2), (3, y3), (4, y4), (5, y5), (6, y6), (7, y7), (8, y8), (16, y16), (30, y30), (36, y36), (37, z1), (38, y38), (44, y44), (53, y53), (77, y77)] := fun y0 y1 y2 y3 y4 y5 y6 y7 y8 y16 y30 y36 y37 y38 y44 y53 y77 z0 z1 => rfl
            refine R_nil (tr _ _ _ _ _ _ _ _ _ _ _ _ _ _ _ _ _ _ _) ?_; clear tr
            refine then_n ?_
            exact ⟨_, _, ⟨jn + 1, bst, _, _, _, _, _, _, _, rfl, rfl, by exact q0, by exact qk, by exact qx, by omega, by first | (intro hs; exfalso; omega) | (intro hs; have hh := hb1 hs; rw [scanJ, ← hh]; first | rw [if_pos ⟨by omega, by omega, by omega, by omega⟩] | rw [if_neg (by omega)]), by first | exact hb2 | (intro hs; exfalso; omega), by exact od⟩, by rfl, by omega⟩
          · try simp only [decide_eq_true_eq, decide_eq_false_iff_not, Bool.not_eq_true', Bool.not_eq_false', beq_iff_eq, beq_eq_false_iff_ne, ne_eq] at h10
            refine at_skip rfl ?_
            refine then_n ?_
            refine at_seq rfl ?_
            refine rg rfl ?_
            have hrl := g5 (sumL (decc q (gt rows 0).length z)).toNat (by omega)
            have hce := cell_rng g (sumL (decc q (gt rows 0).length z)).toNat jn
            refine Rq ?_
            refine R_q rfl (by simp (disch := first | omega | (simp only [List.length_map, List.length_append, List.length_set, List.length_cons, List.length_nil, List.length_take, List.length_drop]; omega)) only [go_sem, ↓reduceIte, Nat.reduceEqDiff, reduceCtorEq, q0, qk, qx]; rfl) ?_
            refine Rq ?_
            refine R_q rfl (by simp (disch := first | omega | (simp only [List.length_map, List.length_append, List.length_set, List.length_cons, List.length_nil, List.length_take, List.length_drop]; omega)) only [go_sem, ↓reduceIte, Nat.reduceEqDiff, reduceCtorEq, q0, qk, qx]; rfl) ?_
            refine Rq ?_
            refine R_q rfl (by simp (disch := first | omega | (simp only [List.length_map, List.length_append, List.length_set, List.length_cons, List.length_nil, List.length_take, List.length_drop]; omega)) only [go_sem, ↓reduceIte, Nat.reduceEqDiff, reduceCtorEq, q0, qk, qx]; rfl) ?_
            refine Rq ?_
            refine Rq ?_
            refine R_q rfl (by simp (disch := first | omega | (simp only [List.length_map, List.length_append, List.length_set, List.length_cons, List.length_nil, List.length_take, List.length_drop]; omega)) only [go_sem, ↓reduceIte, Nat.reduceEqDiff, reduceCtorEq, q0, qk, qx]; rfl) ?_
            refine Rq ?_
            refine Rq ?_
            refine Rq ?_
            have tr : ∀ y0 y1 y2 y3 y4 y5 y6 y7 y8 y16 y30 y36 y37 y38 y44 y53 y77 z0 z1 z2 z3 z4 z5 z6 z7 z8 z9 z10 z11 : AV, trim [(8, z11), (64, z10), (63, z9), (62, z8), (61, z7), (60, z6), (59, z5), (58, z4), (57, z3), (56, z2), (55, z1), (54, z0), (0, y0), (1, y1), (2, y2), (3, y3), (4, y4), (5, y5), (6, y6), (7, y7), (8, y8), (16, y16), (30, y30), (36, y36), (37, y37), (38, y38), (44, y44), (53, y53), (77, y77)] [(0, y0), (1, y1), (2, y2), (3, y3), (4, y4), (5, y5), (6, y6), (7, y7), (8, y8), (16, y16), (30, y30), (36, y36), (37, y37), (38, y38), (44, y44), (53, y53), (77, y77)] = [(0, y0), (1, y1), (2, y2), (3, y3), (4, y4), (5, y5), (6, y6), (7, y7), (8, z11), (16, y16), (30, y30), (36, y36), (37, y37), (38, y38), (44, y44), (53, y53), (77, y77)] := fun y0 y1 y2 y3 y4 y5 y6 y7 y8 y16 y30 y36 y37 y38 y44 y53 y77 z0 z1 z2 z3 z4 z5 z6 z7 z8 z9 z10 z11 => rfl
            refine R_nil (tr _ _ _ _ _ _ _ _ _ _ _ _ _ _ _ _ _ _ _ _ _ _ _ _ _ _ _ _ _) ?_; clear tr
            refine then_n ?_
            refine at_seq rfl ?_
            refine rg rfl ?_
            have hgz : gt (K.set z bst) z = bst := by rw [gt_set _ _ _ _ (by omega), if_pos rfl]
            have hbr : -1 ≤ bst := by
              rw [hb1 (by omega)]
              exact (scan_rng (rows := rows) (q := q) (i := (sumL (decc q (gt rows 0).length z)).toNat) (c := (decc q (gt rows 0).length z)) (la := (decl (gt rows 0).length z)) (g := fun j => pot rows q (gt rows 0).length (aft (decc q (gt rows 0).length z) j) j) (B := 12582912) (by omega) (cell_rng g _) (fun j => pot_rng g _ (by by_cases hjj : j < (decc q (gt rows 0).length z).length; (rw [sum_aft _ j hjj]; omega); (rw [aft, List.set_eq_of_length_le (by omega)]; omega)) _) jn).1
            refine Rq ?_
            refine Rq ?_
            refine Rq ?_
            refine R_q rfl (by simp (disch := first | omega | (simp only [List.length_map, List.length_append, List.length_set, List.length_cons, List.length_nil, List.length_take, List.length_drop]; omega)) only [go_sem, ↓reduceIte, Nat.reduceEqDiff, reduceCtorEq, q0, qk, qx]; rfl) ?_
            refine Rq ?_
            refine Rq ?_
            refine Rp_split (fun h11 => ?_) (fun h11 => ?_)
            · try simp only [decide_eq_true_eq, decide_eq_false_iff_not, Bool.not_eq_true', Bool.not_eq_false', beq_iff_eq, beq_eq_false_iff_ne, ne_eq] at h11
              refine Rn ?_
              refine Rn ?_
              refine Rn ?_
              refine Rn ?_
              refine Rn ?_
              refine Rn ?_
              refine Rq ?_
              have tr : ∀ y0 y1 y2 y3 y4 y5 y6 y7 y8 y16 y30 y36 y37 y38 y44 y53 y77 z0 z1 z2 z3 z4 z5 z6 z7 z8 z9 z10 z11 z12 : AV, trim [(77, z12), (76, z11), (75, z10), (74, z9), (73, z8), (72, z7), (71, z6), (70, z5), (69, z4), (68, z3), (67, z2), (66, z1), (65, z0), (0, y0), (1, y1), (2, y2), (3, y3), (4, y4), (5, y5), (6, y6), (7, y7), (8, y8), (16, y16), (30, y30), (36, y36), (37, y37), (38, y38), (44, y44), (53, y53), (77, y77)] [(0, y0), (1, y1), (2, y2), (3, y3), (4, y4), (5, y5), (6, y6), (7, y7), (8, y8), (16, y16), (30, y30), (36, y36), (37, y37), (38, y38), (44, y44), (53, y53), (77, y77)] = [(0, y0), (1, y1), (2, y2), (3, y3), (4, y4), (5, y5), (6, y6), (7, y7), (8, y8), (16, y16), (30, y30), (36, y36), (37, y37), (38, y38), (44, y44), (53, y53), (77, z12)] := fun y0 y1 y2 y3 y4 y5 y6 y7 y8 y16 y30 y36 y37 y38 y44 y53 y77 z0 z1 z2 z3 z4 z5 z6 z7 z8 z9 z10 z11 z12 => rfl
              refine R_nil (tr _ _ _ _ _ _ _ _ _ _ _ _ _ _ _ _ _ _ _ _ _ _ _ _ _ _ _ _ _ _) ?_; clear tr
              refine then_n ?_
              refine cdt ?_
              refine rg rfl ?_
              refine Rq ?_
              refine Rq ?_
              refine Rq ?_
              refine Rq ?_
              have lq0 := hget_lt q0
              have lqk := hget_lt qk
              have lqx := hget_lt qx
              refine A_store ty2 (by simp (disch := first | omega | (simp only [List.length_map, List.length_append, List.length_set, List.length_cons, List.length_nil, List.length_take, List.length_drop]; omega)) only [go_sem, ↓reduceIte, Nat.reduceEqDiff, reduceCtorEq, q0, qk, qx] <;> rfl) (by simp (disch := first | omega | (simp only [List.length_map, List.length_append, List.length_set, List.length_cons, List.length_nil, List.length_take, List.length_drop]; omega)) only [go_sem, ↓reduceIte, Nat.reduceEqDiff, reduceCtorEq, q0, qk, qx] <;> rfl) qk ⟨by omega, rfl, by simp only [List.length_map, List.length_set]; omega⟩ (k' := ((K.set z (gt (gt rows (sumL (decc q (gt rows 0).length z)).toNat) jn + pot rows q (gt rows 0).length (aft (decc q (gt rows 0).length z) jn) jn)).map AV.i)) (by rw [setL_map, List.set_set, hga]) ?_
              intro HG w7
              have ew7 := w7.len
              have od := od.wrote w7 (by omega)
              have q0 := (w7.old _ (by omega)).trans q0
              have qx := (w7.old _ (by omega)).trans qx
              have qk := w7.new
              have tr : ∀ y0 y1 y2 y3 y4 y5 y6 y7 y8 y16 y30 y36 y37 y38 y44 y53 y77 z0 z1 z2 z3 : AV, trim [(81, z3), (80, z2), (79, z1), (78, z0), (0, y0), (1, y1), (2, y2), (3, y3), (4, y4), (5, y5), (6, y6), (7, y7), (8, y8), (16, y16), (30, y30), (36, y36), (37, y37), (38, y38), (44, y44), (53, y53), (77, y77)] [(0, y0), (1, y1), (2, y2), (3, y3), (4, y4), (5, y5), (6, y6), (7, y7), (8, y8), (16, y16), (30, y30), (36, y36), (37, y37), (38, y38), (44, y44), (53, y53), (77, y77)] = [(0, y0), (1, y1), (2, y2), (3, y3), (4, y4), (5, y5), (6, y6), (7, y7), (8, y8), (16, y16), (30, y30), (36, y36), (37, y37), (38, y38), (44, y44), (53, y53), (77, y77)] := fun y0 y1 y2 y3 y4 y5 y6 y7 y8 y16 y30 y36 y37 y38 y44 y53 y77 z0 z1 z2 z3 => rfl
              refine R_nil (tr _ _ _ _ _ _ _ _ _ _ _ _ _ _ _ _ _ _ _ _ _) ?_; clear tr
              refine blk_n ?_
              refine then_n ?_
              refine rg rfl ?_
              refine Rq ?_
              refine Rq ?_
              have tr : ∀ y0 y1 y2 y3 y4 y5 y6 y7 y8 y16 y30 y36 y37 y38 y44 y53 y77 z0 z1 : AV, trim [(37, z1), (82, z0), (0, y0), (1, y1), (2, y2), (3, y3), (4, y4), (5, y5), (6, y6), (7, y7), (8, y8), (16, y16), (30, y30), (36, y36), (37, y37), (38, y38), (44, y44), (53, y53), (77, y77)] [(0, y0), (1, y1), (2, y2), (3, y3), (4, y4), (5, y5), (6, y6), (7, y7), (8, y8), (16, y16), (30, y30), (36, y36), (37, y37), (38, y38), (44, y44), (53, y53), (77, y77)] = [(0, y0), (1, y1), (2, y2), (3, y3), (4, y4), (5, y5), (6, y6), (7, y7), (8, y8), (16, y16), (30, y30), (36, y36), (37, z1), (38, y38), (44, y44), (53, y53), (77, y77)] := fun y0 y1 y2 y3 y4 y5 y6 y7 y8 y16 y30 y36 y37 y38 y44 y53 y77 z0 z1 => rfl
              refine R_nil (tr _ _ _ _ _ _ _ _ _ _ _ _ _ _ _ _ _ _ _) ?_; clear tr
              refine then_n ?_
              exact ⟨_, _, ⟨jn + 1, (gt (gt rows (sumL (decc q (gt rows 0).length z)).toNat) jn + pot rows q (gt rows 0).length (aft (decc q (gt rows 0).length z) jn) jn), _, _, _, _, _, _, _, rfl, rfl, by exact q0, by exact qk, by exact qx, by omega, by first | (intro hs; exfalso; omega) | (intro hs; have hh := hb1 hs; rw [scanJ, ← hh]; first | rw [if_pos ⟨by omega, by omega, by omega, by omega⟩] | rw [if_neg (by omega)]), by first | exact hb2 | (intro hs; exfalso; omega), by exact od⟩, by rfl, by omega⟩
            · try simp only [decide_eq_true_eq, decide_eq_false_iff_not, Bool.not_eq_true', Bool.not_eq_false', beq_iff_eq, beq_eq_false_iff_ne, ne_eq] at h11
              refine Ry ?_
              refine Rq ?_
              refine Ry ?_
              refine Rq ?_
              refine Ry ?_
              refine Rq ?_
              refine Ry ?_
              refine Rq ?_
              refine Ry ?_
              refine R_q rfl (by simp (disch := first | omega | (simp only [List.length_map, List.length_append, List.length_set, List.length_cons, List.length_nil, List.length_take, List.length_drop]; omega)) only [go_sem, ↓reduceIte, Nat.reduceEqDiff, reduceCtorEq, q0, qk, qx]; rfl) ?_
              refine Ry ?_
              refine Rq ?_
              refine Rq ?_
              have tr : ∀ y0 y1 y2 y3 y4 y5 y6 y7 y8 y16 y30 y36 y37 y38 y44 y53 y77 z0 z1 z2 z3 z4 z5 z6 z7 z8 z9 z10 z11 z12 : AV, trim [(77, z12), (76, z11), (75, z10), (74, z9), (73, z8), (72, z7), (71, z6), (70, z5), (69, z4), (68, z3), (67, z2), (66, z1), (65, z0), (0, y0), (1, y1), (2, y2), (3, y3), (4, y4), (5, y5), (6, y6), (7, y7), (8, y8), (16, y16), (30, y30), (36, y36), (37, y37), (38, y38), (44, y44), (53, y53), (77, y77)] [(0, y0), (1, y1), (2, y2), (3, y3), (4, y4), (5, y5), (6, y6), (7, y7), (8, y8), (16, y16), (30, y30), (36, y36), (37, y37), (38, y38), (44, y44), (53, y53), (77, y77)] = [(0, y0), (1, y1), (2, y2), (3, y3), (4, y4), (5, y5), (6, y6), (7, y7), (8, y8), (16, y16), (30, y30), (36, y36), (37, y37), (38, y38), (44, y44), (53, y53), (77, z12)] := fun y0 y1 y2 y3 y4 y5 y6 y7 y8 y16 y30 y36 y37 y38 y44 y53 y77 z0 z1 z2 z3 z4 z5 z6 z7 z8 z9 z10 z11 z12 => rfl
              refine R_nil (tr _ _ _ _ _ _ _ _ _ _ _ _ _ _ _ _ _ _ _ _ _ _ _ _ _ _ _ _ _ _) ?_; clear tr
              refine then_n ?_
              refine cdd (fun h12 => ?_) (fun h12 => ?_)
              · try simp only [decide_eq_true_eq, decide_eq_false_iff_not, Bool.not_eq_true', Bool.not_eq_false', beq_iff_eq, beq_eq_false_iff_ne, ne_eq] at h12
                refine rg rfl ?_
                refine Rq ?_
                refine Rq ?_
                refine Rq ?_
                refine Rq ?_
                have lq0 := hget_lt q0
                have lqk := hget_lt qk
                have lqx := hget_lt qx
                refine A_store ty2 (by simp (disch := first | omega | (simp only [List.length_map, List.length_append, List.length_set, List.length_cons, List.length_nil, List.length_take, List.length_drop]; omega)) only [go_sem, ↓reduceIte, Nat.reduceEqDiff, reduceCtorEq, q0, qk, qx] <;> rfl) (by simp (disch := first | omega | (simp only [List.length_map, List.length_append, List.length_set, List.length_cons, List.length_nil, List.length_take, List.length_drop]; omega)) only [go_sem, ↓reduceIte, Nat.reduceEqDiff, reduceCtorEq, q0, qk, qx] <;> rfl) qk ⟨by omega, rfl, by simp only [List.length_map, List.length_set]; omega⟩ (k' := ((K.set z (gt (gt rows (sumL (decc q (gt rows 0).length z)).toNat) jn + pot rows q (gt rows 0).length (aft (decc q (gt rows 0).length z) jn) jn)).map AV.i)) (by rw [setL_map, List.set_set, hga]) ?_
                intro HG w7
                have ew7 := w7.len
                have od := od.wrote w7 (by omega)
                have q0 := (w7.old _ (by omega)).trans q0
                have qx := (w7.old _ (by omega)).trans qx
                have qk := w7.new
                have tr : ∀ y0 y1 y2 y3 y4 y5 y6 y7 y8 y16 y30 y36 y37 y38 y44 y53 y77 z0 z1 z2 z3 : AV, trim [(81, z3), (80, z2), (79, z1), (78, z0), (0, y0), (1, y1), (2, y2), (3, y3), (4, y4), (5, y5), (6, y6), (7, y7), (8, y8), (16, y16), (30, y30), (36, y36), (37, y37), (38, y38), (44, y44), (53, y53), (77, y77)] [(0, y0), (1, y1), (2, y2), (3, y3), (4, y4), (5, y5), (6, y6), (7, y7), (8, y8), (16, y16), (30, y30), (36, y36), (37, y37), (38, y38), (44, y44), (53, y53), (77, y77)] = [(0, y0), (1, y1), (2, y2), (3, y3), (4, y4), (5, y5), (6, y6), (7, y7), (8, y8), (16, y16), (30, y30), (36, y36), (37, y37), (38, y38), (44, y44), (53, y53), (77, y77)] := fun y0 y1 y2 y3 y4 y5 y6 y7 y8 y16 y30 y36 y37 y38 y44 y53 y77 z0 z1 z2 z3 => rfl
                refine R_nil (tr _ _ _ _ _ _ _ _ _ _ _ _ _ _ _ _ _ _ _ _ _) ?_; clear tr
                refine blk_n ?_
                refine then_n ?_
                refine rg rfl ?_
                refine Rq ?_
                refine Rq ?_
                have tr : ∀ y0 y1 y2 y3 y4 y5 y6 y7 y8 y16 y30 y36 y37 y38 y44 y53 y77 z0 z1 : AV, trim [(37, z1), (82, z0), (0, y0), (1, y1), (2, y2), (3, y3), (4, y4), (5, y5), (6, y6), (7, y7), (8, y8), (16, y16), (30, y30), (36, y36), (37, y37), (38, y38), (44, y44), (53, y53), (77, y77)] [(0, y0), (1, y1), (2, y2), (3, y3), (4, y4), (5, y5), (6, y6), (7, y7), (8, y8), (16, y16), (30, y30), (36, y36), (37, y37), (38, y38), (44, y44), (53, y53), (77, y77)] = [(0, y0), (1, y1), (2, y2), (3, y3), (4, y4), (5, y5), (6, y6), (7, y7), (8, y8), (16, y16), (30, y30), (36, y36), (37, z1), (38, y38), (44, y44), (53, y53), (77, y77)] := fun y0 y1 y2 y3 y4 y5 y6 y7 y8 y16 y30 y36 y37 y38 y44 y53 y77 z0 z1 => rfl
                refine R_nil (tr _ _ _ _ _ _ _ _ _ _ _ _ _ _ _ _ _ _ _) ?_; clear tr
                refine then_n ?_
                exact ⟨_, _, ⟨jn + 1, (gt (gt rows (sumL (decc q (gt rows 0).length z)).toNat) jn + pot rows q (gt rows 0).length (aft (decc q (gt rows 0).length z) jn) jn), _, _, _, _, _, _, _, rfl, rfl, by exact q0, by exact qk, by exact qx, by omega, by first | (intro hs; exfalso; omega) | (intro hs; have hh := hb1 hs; rw [scanJ, ← hh]; first | rw [if_pos ⟨by omega, by omega, by omega, by omega⟩] | rw [if_neg (by omega)]), by first | exact hb2 | (intro hs; exfalso; omega), by exact od⟩, by rfl, by omega⟩
              · try simp only [decide_eq_true_eq, decide_eq_false_iff_not, Bool.not_eq_true', Bool.not_eq_false', beq_iff_eq, beq_eq_false_iff_ne, ne_eq] at h12
                refine at_skip rfl ?_
                refine blk_n ?_
                refine then_n ?_
                refine rg rfl ?_
                refine Rq ?_
                refine Rq ?_
                have tr : ∀ y0 y1 y2 y3 y4 y5 y6 y7 y8 y16 y30 y36 y37 y38 y44 y53 y77 z0 z1 : AV, trim [(37, z1), (82, z0), (0, y0), (1, y1), (2, y2), (3, y3), (4, y4), (5, y5), (6, y6), (7, y7), (8, y8), (16, y16), (30, y30), (36, y36), (37, y37), (38, y38), (44, y44), (53, y53), (77, y77)] [(0, y0), (1, y1), (2, y2), (3, y3), (4, y4), (5, y5), (6, y6), (7, y7), (8, y8), (16, y16), (30, y30), (36, y36), (37, y37), (38, y38), (44, y44), (53, y53), (77, y77)] = [(0, y0), (1, y1), (2, y2), (3, y3), (4, y4), (5, y5), (6, y6), (7, y7), (8, y8), (16, y16), (30, y30), (36, y36), (37, z1), (38, y38), (44, y44), (53, y53), (77, y77)] := fun y0 y1 y2 y3 y4 y5 y6 y7 y8 y16 y30 y36 y37 y38 y44 y53 y77 z0 z1 => rfl
                refine R_nil (tr _ _ _ _ _ _ _ _ _ _ _ _ _ _ _ _ _ _ _) ?_; clear tr
                refine then_n ?_
                exact ⟨_, _, ⟨jn + 1, bst, _, _, _, _, _, _, _, rfl, rfl, by exact q0, by exact qk, by exact qx, by omega, by first | (intro hs; exfalso; omega) | (intro hs; have hh := hb1 hs; rw [scanJ, ← hh]; first | rw [if_pos ⟨by omega, by omega, by omega, by omega⟩] | rw [if_neg (by omega)]), by first | exact hb2 | (intro hs; exfalso; omega), by exact od⟩, by rfl, by omega⟩
      · try simp only [decide_eq_true_eq, decide_eq_false_iff_not, Bool.not_eq_true', Bool.not_eq_false', beq_iff_eq, beq_eq_false_iff_ne, ne_eq] at h8
        refine at_exit rfl ?_
        refine then_x ?_
        refine then_x ?_
        refine blk_x ?_
        refine blk_n ?_
        refine then_n ?_
        refine rg rfl ?_
        refine Rq ?_
        refine Rq ?_
        refine Rq ?_
        have tr : ∀ y0 y1 y2 y3 y4 y5 y6 y7 y8 y16 y30 y36 y37 y38 y44 y53 y77 z0 z1 z2 : AV, trim [(4, z2), (18, z1), (17, z0), (0, y0), (1, y1), (2, y2), (3, y3), (4, y4), (5, y5), (6, y6), (7, y7), (8, y8), (16, y16), (30, y30), (36, y36), (37, y37), (38, y38), (44, y44), (53, y53), (77, y77)] [(0, y0), (1, y1), (2, y2), (3, y3), (4, y4), (5, y5), (6, y6), (7, y7), (8, y8), (16, y16), (30, y30), (36, y36), (37, y37), (38, y38), (44, y44), (53, y53), (77, y77)] = [(0, y0), (1, y1), (2, y2), (3, y3), (4, z2), (5, y5), (6, y6), (7, y7), (8, y8), (16, y16), (30, y30), (36, y36), (37, y37), (38, y38), (44, y44), (53, y53), (77, y77)] := fun y0 y1 y2 y3 y4 y5 y6 y7 y8 y16 y30 y36 y37 y38 y44 y53 y77 z0 z1 z2 => rfl
        refine R_nil (tr _ _ _ _ _ _ _ _ _ _ _ _ _ _ _ _ _ _ _ _) ?_; clear tr
        refine then_n ?_
        exact ⟨_, _, ⟨z, ((z : Int) - 1), (K.set z bst), _, _, _, _, _, _, _, _, _, _, _, _, rfl, rfl, by exact q0, by exact qk, by rfl, by rw [List.length_set]; omega, by rw [List.length_set]; exact hKl, by refine above_set hAb (by omega) ?_; show bst = pot rows q (gt rows 0).length (decc q (gt rows 0).length z) (decl (gt rows 0).length z); by_cases hs : sumL (decc q (gt rows 0).length z) < rows.length; (rw [hb1 hs, show jn = (gt rows 0).length by omega, pot_lt hcl hs]); (exact hb2 hs), by exact od⟩, by rfl, by omega⟩
  · try simp only [decide_eq_true_eq, decide_eq_false_iff_not, Bool.not_eq_true', Bool.not_eq_false', beq_iff_eq, beq_eq_false_iff_ne, ne_eq] at h1
    refine at_exit rfl ?_
    refine then_x ?_
    refine then_x ?_
    refine blk_x ?_
    refine then_n ?_
    refine at_seq rfl ?_
    refine rg rfl ?_
    refine Rq ?_
    refine Rq ?_
    have tr : ∀ y0 y1 y2 y3 y4 y5 y6 y7 y8 y16 y30 y36 y37 y38 y44 y53 y77 z0 z1 : AV, trim [(2, z1), (83, z0), (0, y0), (1, y1), (2, y2), (3, y3), (4, y4), (5, y5), (6, y6), (7, y7), (8, y8), (16, y16), (30, y30), (36, y36), (37, y37), (38, y38), (44, y44), (53, y53), (77, y77)] [(0, y0), (1, y1), (2, y2), (3, y3), (4, y4), (5, y5), (6, y6), (7, y7), (8, y8), (16, y16), (30, y30), (36, y36), (37, y37), (38, y38), (44, y44), (53, y53), (77, y77)] = [(0, y0), (1, y1), (2, z1), (3, y3), (4, y4), (5, y5), (6, y6), (7, y7), (8, y8), (16, y16), (30, y30), (36, y36), (37, y37), (38, y38), (44, y44), (53, y53), (77, y77)] := fun y0 y1 y2 y3 y4 y5 y6 y7 y8 y16 y30 y36 y37 y38 y44 y53 y77 z0 z1 => rfl
    refine R_nil (tr _ _ _ _ _ _ _ _ _ _ _ _ _ _ _ _ _ _ _) ?_; clear tr
    refine then_n ?_
    refine at_ret rfl ?_
    have hk0 : mm = 0 := by omega
    subst hk0
    have lqk := hget_lt qk
    refine fin_own rfl (by simp only [go_sem, ↓reduceIte, Nat.reduceEqDiff]; rfl) ?_
    exact ⟨K, H1.length, congrArg (AV.own 1 _ 0) (by omega : (stN rows q).toNat = K.length), ⟨hKl, fun i hi => hAb i (Nat.zero_le _) hi⟩, by omega, qk, od⟩

end Go.Proofs.Ytmkalakojfpfgaa
