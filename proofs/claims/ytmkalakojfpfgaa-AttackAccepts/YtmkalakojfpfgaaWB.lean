/-
  Walks of chapter 46. The steps are written by program (walk.py).
-/
import Derived.Test.YtmkalakojfpfgaaQ2
set_option linter.unusedSimpArgs false
set_option linter.unusedVariables false
set_option maxHeartbeats 40000000
set_option maxRecDepth 4000
namespace Go.Proofs.Ytmkalakojfpfgaa
open Go Go.Am

theorem after_ok (lim : Nat) (H : Heap) (rows : Tb) (q la0 : Int) (g : Good rows q la0) (c : List Int) (la : Int) (st : StOK q (gt rows 0).length c la) (x : AV) (hx : Src H x c) (j : Nat) (hj : j < c.length) :
    ACall sig lim 28 [.agg [x, AV.i la], AV.i j] H fun r H' => r = .agg [intsAV (aft c j), AV.i j] ∧ H' = H := by
  obtain ⟨g1, g2, g3, g4, g5, g6, g7, g8, g9, g10, g11⟩ := id g
  obtain ⟨⟨hcl, hcr⟩, hl0, hl1⟩ := id st
  have hq0 : 0 ≤ q := by omega
  have hcj := okc_gt st.c (j := j) (by omega)
  have hsx := hx.st
  have q0 : True := trivial
  have qo : True := trivial
  have qb : True := trivial
  have qt : True := trivial
  refine ACall_pure (fa := fa28) rfl rfl rfl rfl ?_
  have tr : ∀ a0 a1 : AV, env0 fa28.keep [a0, a1] = [(0, a0), (1, a1), (2, .any), (4, .any), (5, .any)] := fun a0 a1 => rfl
  refine W_to (tr _ _) ?_; clear tr
  refine at_seq rfl ?_
  refine rg rfl ?_
  refine A_box rfl (by simp (disch := first | omega | (simp only [List.length_map, List.length_append, List.length_set, List.length_cons, List.length_nil, List.length_take, List.length_drop]; omega)) only [go_sem, ↓reduceIte, Nat.reduceEqDiff, reduceCtorEq, hsx]; rfl) ?_
  intro H1 n1
  have en1 := n1.len
  have q0 := n1.new
  have hx := hx.mono fun b k hk => (n1.old _ (hget_lt hk)).trans hk
  refine A_alloc rfl ?_
  intro H2 n2
  have en2 := n2.len
  have q0 := (n2.old _ (hget_lt q0)).trans q0
  have qo := n2.new
  have hx := hx.mono fun b k hk => (n2.old _ (hget_lt hk)).trans hk
  have tr : ∀ y0 y1 y2 y4 y5 z0 z1 : AV, trim [(4, z1), (2, z0), (0, y0), (1, y1), (2, y2), (4, y4), (5, y5)] [(0, y0), (1, y1), (2, y2), (4, y4), (5, y5)] = [(0, y0), (1, y1), (2, z0), (4, z1), (5, y5)] := fun y0 y1 y2 y4 y5 z0 z1 => rfl
  refine R_nil (tr _ _ _ _ _ _ _) ?_; clear tr
  refine then_n ?_
  refine at_seq rfl ?_
  refine rg rfl ?_
  refine A_buildSlice (bs25e _ _ _) ?_
  intro H3 n3
  have en3 := n3.len
  have q0 := (n3.old _ (hget_lt q0)).trans q0
  have qo := (n3.old _ (hget_lt qo)).trans qo
  have qe := n3.new
  have hx := hx.mono fun b k hk => (n3.old _ (hget_lt hk)).trans hk
  refine Rq ?_
  refine R_q rfl (by simp (disch := first | omega | (simp only [List.length_map, List.length_append, List.length_set, List.length_cons, List.length_nil, List.length_take, List.length_drop]; omega)) only [go_sem, ↓reduceIte, Nat.reduceEqDiff, reduceCtorEq, q0, qo, qb, qt, hsx]; rfl) ?_
  have lq0 := hget_lt q0
  have lqo := hget_lt qo
  have lqe := hget_lt qe
  refine A_append (by simp (disch := first | omega | (simp only [List.length_map, List.length_append, List.length_set, List.length_cons, List.length_nil, List.length_take, List.length_drop]; omega)) only [go_sem, ↓reduceIte, Nat.reduceEqDiff, reduceCtorEq, q0, qo, qb, qt, hsx]; exact app25g hx qe (by omega) (by omega)) ?_
  intro H4 g4
  have eg4 := g4.len
  have q0 := (g4.old _ (by omega) lq0).trans q0
  have qo := (g4.old _ (by omega) lqo).trans qo
  have qb := g4.new
  refine Rq ?_
  refine Rq ?_
  refine A_alloc rfl ?_
  intro H5 n5
  have en5 := n5.len
  have q0 := (n5.old _ (hget_lt q0)).trans q0
  have qo := (n5.old _ (hget_lt qo)).trans qo
  have qb := (n5.old _ (hget_lt qb)).trans qb
  have qt := n5.new
  have lq0 := hget_lt q0
  have lqo := hget_lt qo
  have lqb := hget_lt qb
  have lqt := hget_lt qt
  refine A_store ty48 (by simp (disch := first | omega | (simp only [List.length_map, List.length_append, List.length_set, List.length_cons, List.length_nil, List.length_take, List.length_drop]; omega)) only [go_sem, ↓reduceIte, Nat.reduceEqDiff, reduceCtorEq, q0, qo, qb, qt, hsx]; rfl) (by simp (disch := first | omega | (simp only [List.length_map, List.length_append, List.length_set, List.length_cons, List.length_nil, List.length_take, List.length_drop]; omega)) only [go_sem, ↓reduceIte, Nat.reduceEqDiff, reduceCtorEq, q0, qo, qb, qt, hsx]; rfl) qt ⟨by omega, rfl, by first | exact Nat.le_refl _ | simp⟩ (show _ = [AV.own 1 H3.length 0 c.length, AV.i j] from rfl) ?_
  intro H6 w6
  have ew6 := w6.len
  have q0 := (w6.old _ (by omega)).trans q0
  have qo := (w6.old _ (by omega)).trans qo
  have qb := (w6.old _ (by omega)).trans qb
  have qt := w6.new
  have tr : ∀ y0 y1 y2 y4 y5 z0 z1 z2 z3 z4 z5 z6 : AV, trim [(5, z6), (11, z5), (10, z4), (9, z3), (8, z2), (7, z1), (6, z0), (0, y0), (1, y1), (2, y2), (4, y4), (5, y5)] [(0, y0), (1, y1), (2, y2), (4, y4), (5, y5)] = [(0, y0), (1, y1), (2, y2), (4, y4), (5, z6)] := fun y0 y1 y2 y4 y5 z0 z1 z2 z3 z4 z5 z6 => rfl
  refine R_nil (tr _ _ _ _ _ _ _ _ _ _ _ _) ?_; clear tr
  refine then_n ?_
  refine at_seq rfl ?_
  refine rg rfl ?_
  refine Rq ?_
  refine R_q rfl (by simp (disch := first | omega | (simp only [List.length_map, List.length_append, List.length_set, List.length_cons, List.length_nil, List.length_take, List.length_drop]; omega)) only [go_sem, ↓reduceIte, Nat.reduceEqDiff, reduceCtorEq, q0, qo, qb, qt, hsx]; rfl) ?_
  refine Rq ?_
  refine Rq ?_
  refine R_q rfl (by simp (disch := first | omega | (simp only [List.length_map, List.length_append, List.length_set, List.length_cons, List.length_nil, List.length_take, List.length_drop]; omega)) only [go_sem, ↓reduceIte, Nat.reduceEqDiff, reduceCtorEq, q0, qo, qb, qt, hsx]; rfl) ?_
  refine Rq ?_
  refine Rq ?_
  have lq0 := hget_lt q0
  have lqo := hget_lt qo
  have lqb := hget_lt qb
  have lqt := hget_lt qt
  refine A_store ty3 (by simp (disch := first | omega | (simp only [List.length_map, List.length_append, List.length_set, List.length_cons, List.length_nil, List.length_take, List.length_drop]; omega)) only [go_sem, ↓reduceIte, Nat.reduceEqDiff, reduceCtorEq, q0, qo, qb, qt, hsx]; rfl) (by simp (disch := first | omega | (simp only [List.length_map, List.length_append, List.length_set, List.length_cons, List.length_nil, List.length_take, List.length_drop]; omega)) only [go_sem, ↓reduceIte, Nat.reduceEqDiff, reduceCtorEq, q0, qo, qb, qt, hsx]; rfl) qb ⟨by omega, rfl, by simp only [List.length_map]; omega⟩ (setL_map _ _ _) ?_
  intro H7 w7
  have ew7 := w7.len
  have q0 := (w7.old _ (by omega)).trans q0
  have qo := (w7.old _ (by omega)).trans qo
  have qt := (w7.old _ (by omega)).trans qt
  have qb := w7.new
  have tr : ∀ y0 y1 y2 y4 y5 z0 z1 z2 z3 z4 z5 z6 : AV, trim [(18, z6), (17, z5), (16, z4), (15, z3), (14, z2), (13, z1), (12, z0), (0, y0), (1, y1), (2, y2), (4, y4), (5, y5)] [(0, y0), (1, y1), (2, y2), (4, y4), (5, y5)] = [(0, y0), (1, y1), (2, y2), (4, y4), (5, y5)] := fun y0 y1 y2 y4 y5 z0 z1 z2 z3 z4 z5 z6 => rfl
  refine R_nil (tr _ _ _ _ _ _ _ _ _ _ _ _) ?_; clear tr
  refine then_n ?_
  refine at_seq rfl ?_
  refine rg rfl ?_
  refine R_q rfl (by simp (disch := first | omega | (simp only [List.length_map, List.length_append, List.length_set, List.length_cons, List.length_nil, List.length_take, List.length_drop]; omega)) only [go_sem, ↓reduceIte, Nat.reduceEqDiff, reduceCtorEq, q0, qo, qb, qt, hsx]; rfl) ?_
  have lq0 := hget_lt q0
  have lqo := hget_lt qo
  have lqb := hget_lt qb
  have lqt := hget_lt qt
  refine A_store ty48 (by simp (disch := first | omega | (simp only [List.length_map, List.length_append, List.length_set, List.length_cons, List.length_nil, List.length_take, List.length_drop]; omega)) only [go_sem, ↓reduceIte, Nat.reduceEqDiff, reduceCtorEq, q0, qo, qb, qt, hsx]; rfl) (by simp (disch := first | omega | (simp only [List.length_map, List.length_append, List.length_set, List.length_cons, List.length_nil, List.length_take, List.length_drop]; omega)) only [go_sem, ↓reduceIte, Nat.reduceEqDiff, reduceCtorEq, q0, qo, qb, qt, hsx]; rfl) qo ⟨by omega, rfl, by first | exact Nat.le_refl _ | simp⟩ (show _ = [AV.own 1 H3.length 0 c.length, AV.i j] from rfl) ?_
  intro H8 w8
  have ew8 := w8.len
  have q0 := (w8.old _ (by omega)).trans q0
  have qb := (w8.old _ (by omega)).trans qb
  have qt := (w8.old _ (by omega)).trans qt
  have qo := w8.new
  have tr : ∀ y0 y1 y2 y4 y5 z0 : AV, trim [(19, z0), (0, y0), (1, y1), (2, y2), (4, y4), (5, y5)] [(0, y0), (1, y1), (2, y2), (4, y4), (5, y5)] = [(0, y0), (1, y1), (2, y2), (4, y4), (5, y5)] := fun y0 y1 y2 y4 y5 z0 => rfl
  refine R_nil (tr _ _ _ _ _ _) ?_; clear tr
  refine then_n ?_
  refine at_ret rfl ?_
  refine fin_pure (rs := [.cell 4 48]) rfl (by simp only [go_sem, ↓reduceIte, Nat.reduceEqDiff, qo]; rfl) rfl ?_
  refine ⟨?_, rfl⟩
  show AV.agg [frz H8 H.length 7 (.own 1 H3.length 0 c.length), AV.i j] = _
  rw [frz_ownI (l := aft c j) (by omega) qb (by simp)]

end Go.Proofs.Ytmkalakojfpfgaa
