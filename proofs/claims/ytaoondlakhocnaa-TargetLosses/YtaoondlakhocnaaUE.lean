/-
  Walks of chapters 37, 39 and 40. The steps are written by program (walk.py).
-/
import Derived.Test.YtaoondlakhocnaaV
set_option linter.unusedSimpArgs false
set_option linter.unusedVariables false
set_option maxHeartbeats 40000000
set_option maxRecDepth 4000
namespace Go.Proofs.Ytaoondlakhocnaa
open Go Go.Am

theorem bld34g {rows : Tb} {b c d e : Int} {x y : AV} (hx : cellsOf x = some [x]) (hy : cellsOf y = some [y]) : buildV Try.prog 34 [(0, .agg [rowsAV rows]), (1, AV.i b), (2, AV.i c), (3, AV.i d), (4, AV.i e), (5, x), (6, y)] = some (.agg [rowsAV rows, AV.i b, AV.i c, AV.i d, AV.i e, x, y]) := by
  simp only [buildV, ty34, places, ty24, ty3, ty2, ty25, fillA, hx, hy]; rfl
theorem of_gen (lim : Nat) (H : Heap) (rows : Tb) (per tot wth balls : Int) (x y : AV) (hcx : cellsOf x = some [x]) (hcy : cellsOf y = some [y]) (hsx : storable x = true) (hsy : storable y = true) (hx : ∀ H', frz H' H.length 7 x = x) (hy : ∀ H', frz H' H.length 7 y = y) :
    ACall sig lim 30 [.agg [rowsAV rows, AV.i per, AV.i tot, AV.i wth, AV.i balls, x, y]] H fun r H' => r = .agg [rowsAV rows, AV.i per, AV.i tot, AV.i wth, AV.i balls, x, y] ∧ H' = H := by
  refine ACall_pure (fa := fa30) rfl rfl rfl rfl ?_
  have tr : ∀ a0 : AV, env0 fa30.keep [a0] = [(0, a0), (1, .any), (2, .any)] := fun a0 => rfl
  refine W_to (tr _) ?_; clear tr
  refine at_seq rfl ?_
  refine rg rfl ?_
  refine R_box rfl (by simp (disch := first | omega | (simp only [List.length_map, List.length_append, List.length_set, List.length_cons, List.length_nil, List.length_take, List.length_drop]; omega)) only [go_sem, ↓reduceIte, Nat.reduceEqDiff, reduceCtorEq, hsx, hsy]; rfl) rfl rfl ?_
  refine R_alloc (by simp (disch := first | omega | (simp only [List.length_map, List.length_append, List.length_set, List.length_cons, List.length_nil, List.length_take, List.length_drop]; omega)) only [go_sem, ↓reduceIte, Nat.reduceEqDiff, reduceCtorEq, hsx, hsy]; rfl) rfl (by simp only [List.map_cons, List.map_nil]; rfl) ?_
  have tr : ∀ y0 y1 y2 z0 z1 : AV, trim [(2, z1), (1, z0), (0, y0), (1, y1), (2, y2)] [(0, y0), (1, y1), (2, y2)] = [(0, y0), (1, z0), (2, z1)] := fun y0 y1 y2 z0 z1 => rfl
  refine R_nil (tr _ _ _ _ _) ?_; clear tr
  refine then_n ?_
  refine at_seq rfl ?_
  refine rg rfl ?_
  refine Rq ?_
  refine R_q rfl (by simp (disch := first | omega | (simp only [List.length_map, List.length_append, List.length_set, List.length_cons, List.length_nil, List.length_take, List.length_drop]; omega)) only [go_sem, ↓reduceIte, Nat.reduceEqDiff, reduceCtorEq, hsx, hsy]; rfl) ?_
  refine Rq ?_
  refine R_q rfl (by simp (disch := first | omega | (simp only [List.length_map, List.length_append, List.length_set, List.length_cons, List.length_nil, List.length_take, List.length_drop]; omega)) only [go_sem, ↓reduceIte, Nat.reduceEqDiff, reduceCtorEq, hsx, hsy]; rfl) ?_
  refine Rq ?_
  refine R_q rfl (by simp (disch := first | omega | (simp only [List.length_map, List.length_append, List.length_set, List.length_cons, List.length_nil, List.length_take, List.length_drop]; omega)) only [go_sem, ↓reduceIte, Nat.reduceEqDiff, reduceCtorEq, hsx, hsy]; rfl) ?_
  refine Rq ?_
  refine R_q rfl (by simp (disch := first | omega | (simp only [List.length_map, List.length_append, List.length_set, List.length_cons, List.length_nil, List.length_take, List.length_drop]; omega)) only [go_sem, ↓reduceIte, Nat.reduceEqDiff, reduceCtorEq, hsx, hsy]; rfl) ?_
  refine Rq ?_
  refine R_q rfl (by simp (disch := first | omega | (simp only [List.length_map, List.length_append, List.length_set, List.length_cons, List.length_nil, List.length_take, List.length_drop]; omega)) only [go_sem, ↓reduceIte, Nat.reduceEqDiff, reduceCtorEq, hsx, hsy]; rfl) ?_
  refine Rq ?_
  refine R_q rfl (by simp (disch := first | omega | (simp only [List.length_map, List.length_append, List.length_set, List.length_cons, List.length_nil, List.length_take, List.length_drop]; omega)) only [go_sem, ↓reduceIte, Nat.reduceEqDiff, reduceCtorEq, hsx, hsy]; rfl) ?_
  refine Rq ?_
  refine R_q rfl (by simp (disch := first | omega | (simp only [List.length_map, List.length_append, List.length_set, List.length_cons, List.length_nil, List.length_take, List.length_drop]; omega)) only [go_sem, ↓reduceIte, Nat.reduceEqDiff, reduceCtorEq, hsx, hsy]; rfl) ?_
  refine R_q rfl (by simp only [go_sem, ↓reduceIte, Nat.reduceEqDiff, List.map_cons, List.map_nil]; exact bld34g hcx hcy) ?_
  refine R_store ty34 (by simp (disch := first | omega | (simp only [List.length_map, List.length_append, List.length_set, List.length_cons, List.length_nil, List.length_take, List.length_drop]; omega)) only [go_sem, ↓reduceIte, Nat.reduceEqDiff, reduceCtorEq, hsx, hsy]; rfl) (by simp (disch := first | omega | (simp only [List.length_map, List.length_append, List.length_set, List.length_cons, List.length_nil, List.length_take, List.length_drop]; omega)) only [go_sem, ↓reduceIte, Nat.reduceEqDiff, reduceCtorEq, hsx, hsy]; rfl) (by simp (disch := first | omega | (simp only [List.length_map, List.length_append, List.length_set, List.length_cons, List.length_nil, List.length_take, List.length_drop]; omega)) only [go_sem, ↓reduceIte, Nat.reduceEqDiff, reduceCtorEq, hsx, hsy]; rfl) (by simp) (by rfl) (by simp (disch := first | omega | (simp only [List.length_map, List.length_append, List.length_set, List.length_cons, List.length_nil, List.length_take, List.length_drop]; omega)) only [go_sem, ↓reduceIte, Nat.reduceEqDiff, reduceCtorEq, hsx, hsy]; rfl) ?_
  have tr : ∀ y0 y1 y2 z0 z1 z2 z3 z4 z5 z6 z7 z8 z9 z10 z11 z12 z13 z14 : AV, trim [(17, z14), (16, z13), (15, z12), (14, z11), (13, z10), (12, z9), (11, z8), (10, z7), (9, z6), (8, z5), (7, z4), (6, z3), (5, z2), (4, z1), (3, z0), (0, y0), (1, y1), (2, y2)] [(0, y0), (1, y1), (2, y2)] = [(0, y0), (1, y1), (2, y2)] := fun y0 y1 y2 z0 z1 z2 z3 z4 z5 z6 z7 z8 z9 z10 z11 z12 z13 z14 => rfl
  refine R_nil (tr _ _ _ _ _ _ _ _ _ _ _ _ _ _ _ _ _ _) ?_; clear tr
  refine then_n ?_
  refine at_ret rfl ?_
  refine fin_pure (rs := [.cell 2 34]) rfl (by simp only [go_sem, ↓reduceIte, Nat.reduceEqDiff]; rfl) (by simp only [go_sem, ↓reduceIte, Nat.reduceEqDiff]; rfl) ?_
  refine ⟨?_, rfl⟩
  show AV.agg (List.map _ [rowsAV rows, AV.i per, AV.i tot, AV.i wth, AV.i balls, x, y]) = _
  simp only [List.map_cons, List.map_nil, frz_rows, frz_i, hx, hy]

theorem small40_len (lim : Nat) (H : Heap) (rows : Tb) (per tot wth balls : Int) (l m : List Stp) :
    ACall sig lim 29 [.agg [rowsAV rows, AV.i per, AV.i tot, AV.i wth, AV.i balls, stopsAV l, stopsAV m]] H fun r H' => (∃ b : Bool, r = .v (.bool b) ∧ (b = true → l.length ≤ 1000 ∧ m.length ≤ 1000)) ∧ H' = H := by
  refine ACall_pure (fa := fa29) rfl rfl rfl rfl ?_
  have tr : ∀ a0 : AV, env0 fa29.keep [a0] = [(0, a0), (1, .any), (2, .any), (4, .any), (21, .any), (24, .any), (25, .any), (26, .any), (27, .any), (32, .any)] := fun a0 => rfl
  refine W_to (tr _) ?_; clear tr
  refine at_seq rfl ?_
  refine rg rfl ?_
  refine R_box rfl (by simp (disch := first | omega | (simp only [List.length_map, List.length_append, List.length_set, List.length_cons, List.length_nil, List.length_take, List.length_drop]; omega)) only [go_sem, ↓reduceIte, Nat.reduceEqDiff, reduceCtorEq]; rfl) rfl rfl ?_
  refine Rq ?_
  have tr : ∀ y0 y1 y2 y4 y21 y24 y25 y26 y27 y32 z0 z1 : AV, trim [(2, z1), (1, z0), (0, y0), (1, y1), (2, y2), (4, y4), (21, y21), (24, y24), (25, y25), (26, y26), (27, y27), (32, y32)] [(0, y0), (1, y1), (2, y2), (4, y4), (21, y21), (24, y24), (25, y25), (26, y26), (27, y27), (32, y32)] = [(0, y0), (1, z0), (2, z1), (4, y4), (21, y21), (24, y24), (25, y25), (26, y26), (27, y27), (32, y32)] := fun y0 y1 y2 y4 y21 y24 y25 y26 y27 y32 z0 z1 => rfl
  refine R_nil (tr _ _ _ _ _ _ _ _ _ _ _ _) ?_; clear tr
  refine then_n ?_
  refine at_seq rfl ?_
  refine at_seq rfl ?_
  refine rg rfl ?_
  refine Rq ?_
  refine Rq ?_
  refine Rq ?_
  refine Rq ?_
  refine Rq ?_
  refine Rp_split (fun h1 => ?_) (fun h1 => ?_)
  · try simp only [decide_eq_true_eq, decide_eq_false_iff_not, Bool.not_eq_true', Bool.not_eq_false', beq_iff_eq, beq_eq_false_iff_ne, ne_eq] at h1
    refine Rn ?_
    refine Rn ?_
    refine Rn ?_
    refine Rn ?_
    refine Rq ?_
    refine Rq ?_
    refine Rn ?_
    refine Rn ?_
    refine Rn ?_
    refine Rn ?_
    refine Rn ?_
    refine Rq ?_
    have tr : ∀ y0 y1 y2 y4 y21 y24 y25 y26 y27 y32 z0 z1 z2 z3 z4 z5 z6 z7 z8 z9 z10 z11 z12 z13 z14 z15 z16 : AV, trim [(21, z16), (20, z15), (19, z14), (18, z13), (17, z12), (16, z11), (15, z10), (14, z9), (13, z8), (12, z7), (11, z6), (10, z5), (9, z4), (8, z3), (7, z2), (6, z1), (5, z0), (0, y0), (1, y1), (2, y2), (4, y4), (21, y21), (24, y24), (25, y25), (26, y26), (27, y27), (32, y32)] [(0, y0), (1, y1), (2, y2), (4, y4), (21, y21), (24, y24), (25, y25), (26, y26), (27, y27), (32, y32)] = [(0, y0), (1, y1), (2, y2), (4, y4), (21, z16), (24, y24), (25, y25), (26, y26), (27, y27), (32, y32)] := fun y0 y1 y2 y4 y21 y24 y25 y26 y27 y32 z0 z1 z2 z3 z4 z5 z6 z7 z8 z9 z10 z11 z12 z13 z14 z15 z16 => rfl
    refine R_nil (tr _ _ _ _ _ _ _ _ _ _ _ _ _ _ _ _ _ _ _ _ _ _ _ _ _ _ _) ?_; clear tr
    refine then_n ?_
    refine cdt ?_
    refine at_seq rfl ?_
    refine rg rfl ?_
    refine Rq ?_
    have tr : ∀ y0 y1 y2 y4 y21 y24 y25 y26 y27 y32 z0 : AV, trim [(2, z0), (0, y0), (1, y1), (2, y2), (4, y4), (21, y21), (24, y24), (25, y25), (26, y26), (27, y27), (32, y32)] [(0, y0), (1, y1), (2, y2), (4, y4), (21, y21), (24, y24), (25, y25), (26, y26), (27, y27), (32, y32)] = [(0, y0), (1, y1), (2, z0), (4, y4), (21, y21), (24, y24), (25, y25), (26, y26), (27, y27), (32, y32)] := fun y0 y1 y2 y4 y21 y24 y25 y26 y27 y32 z0 => rfl
    refine R_nil (tr _ _ _ _ _ _ _ _ _ _ _) ?_; clear tr
    refine then_n ?_
    refine at_ret rfl ?_
    refine then_r ?_
    refine fpure ?_
    exact ⟨⟨_, rfl, fun hh => by first | omega | (cases hh; done) | (simp only [decide_eq_true_eq] at hh; omega)⟩, rfl⟩
  · try simp only [decide_eq_true_eq, decide_eq_false_iff_not, Bool.not_eq_true', Bool.not_eq_false', beq_iff_eq, beq_eq_false_iff_ne, ne_eq] at h1
    refine Ry ?_
    refine Rq ?_
    refine Ry ?_
    refine Rq ?_
    refine Ry ?_
    refine Rq ?_
    refine Ry ?_
    refine Rq ?_
    refine Rq ?_
    refine Rq ?_
    refine Rp_split (fun h2 => ?_) (fun h2 => ?_)
    · try simp only [decide_eq_true_eq, decide_eq_false_iff_not, Bool.not_eq_true', Bool.not_eq_false', beq_iff_eq, beq_eq_false_iff_ne, ne_eq] at h2
      refine Rn ?_
      refine Rn ?_
      refine Rn ?_
      refine Rn ?_
      refine Rn ?_
      refine Rq ?_
      have tr : ∀ y0 y1 y2 y4 y21 y24 y25 y26 y27 y32 z0 z1 z2 z3 z4 z5 z6 z7 z8 z9 z10 z11 z12 z13 z14 z15 z16 : AV, trim [(21, z16), (20, z15), (19, z14), (18, z13), (17, z12), (16, z11), (15, z10), (14, z9), (13, z8), (12, z7), (11, z6), (10, z5), (9, z4), (8, z3), (7, z2), (6, z1), (5, z0), (0, y0), (1, y1), (2, y2), (4, y4), (21, y21), (24, y24), (25, y25), (26, y26), (27, y27), (32, y32)] [(0, y0), (1, y1), (2, y2), (4, y4), (21, y21), (24, y24), (25, y25), (26, y26), (27, y27), (32, y32)] = [(0, y0), (1, y1), (2, y2), (4, y4), (21, z16), (24, y24), (25, y25), (26, y26), (27, y27), (32, y32)] := fun y0 y1 y2 y4 y21 y24 y25 y26 y27 y32 z0 z1 z2 z3 z4 z5 z6 z7 z8 z9 z10 z11 z12 z13 z14 z15 z16 => rfl
      refine R_nil (tr _ _ _ _ _ _ _ _ _ _ _ _ _ _ _ _ _ _ _ _ _ _ _ _ _ _ _) ?_; clear tr
      refine then_n ?_
      refine cdt ?_
      refine at_seq rfl ?_
      refine rg rfl ?_
      refine Rq ?_
      have tr : ∀ y0 y1 y2 y4 y21 y24 y25 y26 y27 y32 z0 : AV, trim [(2, z0), (0, y0), (1, y1), (2, y2), (4, y4), (21, y21), (24, y24), (25, y25), (26, y26), (27, y27), (32, y32)] [(0, y0), (1, y1), (2, y2), (4, y4), (21, y21), (24, y24), (25, y25), (26, y26), (27, y27), (32, y32)] = [(0, y0), (1, y1), (2, z0), (4, y4), (21, y21), (24, y24), (25, y25), (26, y26), (27, y27), (32, y32)] := fun y0 y1 y2 y4 y21 y24 y25 y26 y27 y32 z0 => rfl
      refine R_nil (tr _ _ _ _ _ _ _ _ _ _ _) ?_; clear tr
      refine then_n ?_
      refine at_ret rfl ?_
      refine then_r ?_
      refine fpure ?_
      exact ⟨⟨_, rfl, fun hh => by first | omega | (cases hh; done) | (simp only [decide_eq_true_eq] at hh; omega)⟩, rfl⟩
    · try simp only [decide_eq_true_eq, decide_eq_false_iff_not, Bool.not_eq_true', Bool.not_eq_false', beq_iff_eq, beq_eq_false_iff_ne, ne_eq] at h2
      refine Ry ?_
      refine Rq ?_
      refine Ry ?_
      refine Rq ?_
      refine Ry ?_
      refine Rq ?_
      refine Ry ?_
      refine Rq ?_
      refine Ry ?_
      refine Rq ?_
      refine Rq ?_
      have tr : ∀ y0 y1 y2 y4 y21 y24 y25 y26 y27 y32 z0 z1 z2 z3 z4 z5 z6 z7 z8 z9 z10 z11 z12 z13 z14 z15 z16 : AV, trim [(21, z16), (20, z15), (19, z14), (18, z13), (17, z12), (16, z11), (15, z10), (14, z9), (13, z8), (12, z7), (11, z6), (10, z5), (9, z4), (8, z3), (7, z2), (6, z1), (5, z0), (0, y0), (1, y1), (2, y2), (4, y4), (21, y21), (24, y24), (25, y25), (26, y26), (27, y27), (32, y32)] [(0, y0), (1, y1), (2, y2), (4, y4), (21, y21), (24, y24), (25, y25), (26, y26), (27, y27), (32, y32)] = [(0, y0), (1, y1), (2, y2), (4, y4), (21, z16), (24, y24), (25, y25), (26, y26), (27, y27), (32, y32)] := fun y0 y1 y2 y4 y21 y24 y25 y26 y27 y32 z0 z1 z2 z3 z4 z5 z6 z7 z8 z9 z10 z11 z12 z13 z14 z15 z16 => rfl
      refine R_nil (tr _ _ _ _ _ _ _ _ _ _ _ _ _ _ _ _ _ _ _ _ _ _ _ _ _ _ _) ?_; clear tr
      refine then_n ?_
      refine cdd (fun h3 => ?_) (fun h3 => ?_)
      · try simp only [decide_eq_true_eq, decide_eq_false_iff_not, Bool.not_eq_true', Bool.not_eq_false', beq_iff_eq, beq_eq_false_iff_ne, ne_eq] at h3
        refine at_seq rfl ?_
        refine rg rfl ?_
        refine Rq ?_
        have tr : ∀ y0 y1 y2 y4 y21 y24 y25 y26 y27 y32 z0 : AV, trim [(2, z0), (0, y0), (1, y1), (2, y2), (4, y4), (21, y21), (24, y24), (25, y25), (26, y26), (27, y27), (32, y32)] [(0, y0), (1, y1), (2, y2), (4, y4), (21, y21), (24, y24), (25, y25), (26, y26), (27, y27), (32, y32)] = [(0, y0), (1, y1), (2, z0), (4, y4), (21, y21), (24, y24), (25, y25), (26, y26), (27, y27), (32, y32)] := fun y0 y1 y2 y4 y21 y24 y25 y26 y27 y32 z0 => rfl
        refine R_nil (tr _ _ _ _ _ _ _ _ _ _ _) ?_; clear tr
        refine then_n ?_
        refine at_ret rfl ?_
        refine then_r ?_
        refine fpure ?_
        exact ⟨⟨_, rfl, fun hh => by first | omega | (cases hh; done) | (simp only [decide_eq_true_eq] at hh; omega)⟩, rfl⟩
      · try simp only [decide_eq_true_eq, decide_eq_false_iff_not, Bool.not_eq_true', Bool.not_eq_false', beq_iff_eq, beq_eq_false_iff_ne, ne_eq] at h3
        refine at_skip rfl ?_
        refine then_n ?_
        refine at_seq rfl ?_
        refine at_seq rfl ?_
        refine rg rfl ?_
        refine Rq ?_
        refine Rq ?_
        refine Rq ?_
        refine Rq ?_
        refine Rq ?_
        have tr : ∀ y0 y1 y2 y4 y21 y24 y25 y26 y27 y32 z0 z1 z2 z3 z4 : AV, trim [(26, z4), (25, z3), (24, z2), (23, z1), (22, z0), (0, y0), (1, y1), (2, y2), (4, y4), (21, y21), (24, y24), (25, y25), (26, y26), (27, y27), (32, y32)] [(0, y0), (1, y1), (2, y2), (4, y4), (21, y21), (24, y24), (25, y25), (26, y26), (27, y27), (32, y32)] = [(0, y0), (1, y1), (2, y2), (4, y4), (21, y21), (24, z2), (25, z3), (26, z4), (27, y27), (32, y32)] := fun y0 y1 y2 y4 y21 y24 y25 y26 y27 y32 z0 z1 z2 z3 z4 => rfl
        refine R_nil (tr _ _ _ _ _ _ _ _ _ _ _ _ _ _ _) ?_; clear tr
        refine then_n ?_
        refine at_block rfl ?_
        refine loop_n rfl (fun mm kv H' => ∃ u : Nat, ∃ x2 x4 x27 x32 : AV, (kv = [(2, x2), (4, x4), (26, AV.i u), (27, x27), (32, x32)]) ∧ (mm = rows.length - u) ∧ (H' = H ++ [some [rowsAV rows, AV.i per, AV.i tot, AV.i wth, AV.i balls, stopsAV l, stopsAV m]]) ∧ (u ≤ rows.length)) ⟨0, _, _, _, _, rfl, rfl, rfl, by omega⟩ (by rfl) ?_
        rintro mm kv H' ⟨u, x2, x4, x27, x32, rfl, rfl, rfl, hu⟩
        have tr : ∀ y0 y1 y2 y4 y21 y24 y25 y26 y27 y32 z2 z4 z26 z27 z32 : AV, upd [(0, y0), (1, y1), (2, y2), (4, y4), (21, y21), (24, y24), (25, y25), (26, y26), (27, y27), (32, y32)] [(2, z2), (4, z4), (26, z26), (27, z27), (32, z32)] = [(0, y0), (1, y1), (2, z2), (4, z4), (21, y21), (24, y24), (25, y25), (26, z26), (27, z27), (32, z32)] := fun y0 y1 y2 y4 y21 y24 y25 y26 y27 y32 z2 z4 z26 z27 z32 => rfl
        refine W_to (tr _ _ _ _ _ _ _ _ _ _ _ _ _ _ _) ?_; clear tr
        refine at_seq rfl ?_
        refine rg rfl ?_
        refine Rq ?_
        have tr : ∀ y0 y1 y2 y4 y21 y24 y25 y26 y27 y32 z0 : AV, trim [(27, z0), (0, y0), (1, y1), (2, y2), (4, y4), (21, y21), (24, y24), (25, y25), (26, y26), (27, y27), (32, y32)] [(0, y0), (1, y1), (2, y2), (4, y4), (21, y21), (24, y24), (25, y25), (26, y26), (27, y27), (32, y32)] = [(0, y0), (1, y1), (2, y2), (4, y4), (21, y21), (24, y24), (25, y25), (26, y26), (27, z0), (32, y32)] := fun y0 y1 y2 y4 y21 y24 y25 y26 y27 y32 z0 => rfl
        refine R_nil (tr _ _ _ _ _ _ _ _ _ _ _) ?_; clear tr
        refine then_n ?_
        refine at_seq rfl ?_
        refine cdd (fun h4 => ?_) (fun h4 => ?_)
        · try simp only [decide_eq_true_eq, decide_eq_false_iff_not, Bool.not_eq_true', Bool.not_eq_false', beq_iff_eq, beq_eq_false_iff_ne, ne_eq] at h4
          refine at_skip rfl ?_
          refine then_n ?_
          refine at_seq rfl ?_
          refine at_block rfl ?_
          refine at_seq rfl ?_
          refine rg rfl ?_
          refine Rq ?_
          refine Rq ?_
          refine Rq ?_
          have tr : ∀ y0 y1 y2 y4 y21 y24 y25 y26 y27 y32 z0 z1 z2 : AV, trim [(4, z2), (29, z1), (28, z0), (0, y0), (1, y1), (2, y2), (4, y4), (21, y21), (24, y24), (25, y25), (26, y26), (27, y27), (32, y32)] [(0, y0), (1, y1), (2, y2), (4, y4), (21, y21), (24, y24), (25, y25), (26, y26), (27, y27), (32, y32)] = [(0, y0), (1, y1), (2, y2), (4, z2), (21, y21), (24, y24), (25, y25), (26, y26), (27, y27), (32, y32)] := fun y0 y1 y2 y4 y21 y24 y25 y26 y27 y32 z0 z1 z2 => rfl
          refine R_nil (tr _ _ _ _ _ _ _ _ _ _ _ _ _) ?_; clear tr
          refine then_n ?_
          refine at_seq rfl ?_
          refine rg rfl ?_
          refine Rq ?_
          refine Rq ?_
          refine Rq ?_
          have tr : ∀ y0 y1 y2 y4 y21 y24 y25 y26 y27 y32 z0 z1 z2 : AV, trim [(32, z2), (31, z1), (30, z0), (0, y0), (1, y1), (2, y2), (4, y4), (21, y21), (24, y24), (25, y25), (26, y26), (27, y27), (32, y32)] [(0, y0), (1, y1), (2, y2), (4, y4), (21, y21), (24, y24), (25, y25), (26, y26), (27, y27), (32, y32)] = [(0, y0), (1, y1), (2, y2), (4, y4), (21, y21), (24, y24), (25, y25), (26, y26), (27, y27), (32, z2)] := fun y0 y1 y2 y4 y21 y24 y25 y26 y27 y32 z0 z1 z2 => rfl
          refine R_nil (tr _ _ _ _ _ _ _ _ _ _ _ _ _) ?_; clear tr
          refine then_n ?_
          refine cdd (fun h5 => ?_) (fun h5 => ?_)
          · try simp only [decide_eq_true_eq, decide_eq_false_iff_not, Bool.not_eq_true', Bool.not_eq_false', beq_iff_eq, beq_eq_false_iff_ne, ne_eq] at h5
            refine at_seq rfl ?_
            refine rg rfl ?_
            refine Rq ?_
            have tr : ∀ y0 y1 y2 y4 y21 y24 y25 y26 y27 y32 z0 : AV, trim [(2, z0), (0, y0), (1, y1), (2, y2), (4, y4), (21, y21), (24, y24), (25, y25), (26, y26), (27, y27), (32, y32)] [(0, y0), (1, y1), (2, y2), (4, y4), (21, y21), (24, y24), (25, y25), (26, y26), (27, y27), (32, y32)] = [(0, y0), (1, y1), (2, z0), (4, y4), (21, y21), (24, y24), (25, y25), (26, y26), (27, y27), (32, y32)] := fun y0 y1 y2 y4 y21 y24 y25 y26 y27 y32 z0 => rfl
            refine R_nil (tr _ _ _ _ _ _ _ _ _ _ _) ?_; clear tr
            refine then_n ?_
            refine at_ret rfl ?_
            refine blk_r ?_
            refine then_r ?_
            refine then_r ?_
            refine blk_r ?_
            refine then_r ?_
            refine fpure ?_
            exact ⟨⟨_, rfl, fun hh => by first | omega | (cases hh; done) | (simp only [decide_eq_true_eq] at hh; omega)⟩, rfl⟩
          · try simp only [decide_eq_true_eq, decide_eq_false_iff_not, Bool.not_eq_true', Bool.not_eq_false', beq_iff_eq, beq_eq_false_iff_ne, ne_eq] at h5
            refine at_skip rfl ?_
            refine blk_n ?_
            refine then_n ?_
            refine rg rfl ?_
            refine Rq ?_
            refine Rq ?_
            have tr : ∀ y0 y1 y2 y4 y21 y24 y25 y26 y27 y32 z0 z1 : AV, trim [(26, z1), (33, z0), (0, y0), (1, y1), (2, y2), (4, y4), (21, y21), (24, y24), (25, y25), (26, y26), (27, y27), (32, y32)] [(0, y0), (1, y1), (2, y2), (4, y4), (21, y21), (24, y24), (25, y25), (26, y26), (27, y27), (32, y32)] = [(0, y0), (1, y1), (2, y2), (4, y4), (21, y21), (24, y24), (25, y25), (26, z1), (27, y27), (32, y32)] := fun y0 y1 y2 y4 y21 y24 y25 y26 y27 y32 z0 z1 => rfl
            refine R_nil (tr _ _ _ _ _ _ _ _ _ _ _ _) ?_; clear tr
            refine then_n ?_
            exact ⟨_, _, ⟨u + 1, _, _, _, _, rfl, rfl, rfl, by omega⟩, by rfl, by omega⟩
        · try simp only [decide_eq_true_eq, decide_eq_false_iff_not, Bool.not_eq_true', Bool.not_eq_false', beq_iff_eq, beq_eq_false_iff_ne, ne_eq] at h4
          refine at_exit rfl ?_
          refine then_x ?_
          refine then_x ?_
          refine blk_x ?_
          refine then_n ?_
          refine at_seq rfl ?_
          refine rg rfl ?_
          refine Rq ?_
          have tr : ∀ y0 y1 y2 y4 y21 y24 y25 y26 y27 y32 z0 : AV, trim [(2, z0), (0, y0), (1, y1), (2, y2), (4, y4), (21, y21), (24, y24), (25, y25), (26, y26), (27, y27), (32, y32)] [(0, y0), (1, y1), (2, y2), (4, y4), (21, y21), (24, y24), (25, y25), (26, y26), (27, y27), (32, y32)] = [(0, y0), (1, y1), (2, z0), (4, y4), (21, y21), (24, y24), (25, y25), (26, y26), (27, y27), (32, y32)] := fun y0 y1 y2 y4 y21 y24 y25 y26 y27 y32 z0 => rfl
          refine R_nil (tr _ _ _ _ _ _ _ _ _ _ _) ?_; clear tr
          refine then_n ?_
          refine at_ret rfl ?_
          refine fpure ?_
          exact ⟨⟨_, rfl, fun hh => by first | omega | (cases hh; done) | (simp only [decide_eq_true_eq] at hh; omega)⟩, rfl⟩

end Go.Proofs.Ytaoondlakhocnaa
