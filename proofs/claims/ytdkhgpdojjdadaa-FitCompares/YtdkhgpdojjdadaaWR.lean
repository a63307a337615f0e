/-
  Walks of chapter 38. The steps are written by program (walk.py).
-/
import Derived.Test.YtdkhgpdojjdadaaWQ
set_option linter.unusedSimpArgs false
set_option linter.unusedVariables false
set_option maxHeartbeats 40000000
set_option maxRecDepth 4000
namespace Go.Proofs.Ytdkhgpdojjdadaa
open Go Go.Am

theorem OutT.other {lm : Nat} {H : Heap} {o : AV} {l : Tb} (h : OutT lm H o l) (q : Nat) (x : Option Blk) (hq : q < lm) : OutT lm (hset H q x) o l := by
  rcases h with h | ⟨b, bs, h1, T⟩
  · exact .inl h
  · exact .inr ⟨b, bs, h1, T.other q x hq⟩
theorem OutT.st {lm : Nat} {H : Heap} {o : AV} {l : Tb} (h : OutT lm H o l) : storable o = true := by
  rcases h with ⟨_, h⟩ | ⟨b, bs, h, _⟩
  · rw [h]; rfl
  · rw [h]; rfl
theorem OutT.cells {lm : Nat} {H : Heap} {o : AV} {l : Tb} (h : OutT lm H o l) : cellsOf o = some [o] := by
  rcases h with ⟨_, h⟩ | ⟨b, bs, h, _⟩
  · rw [h]; rfl
  · rw [h]; rfl
theorem ms37 (lim : Nat) (H : Heap) (n : Nat) (x y : Operand) (ev : Operand → AV) (hn : n ≤ 1000000) (h : ev x = AV.i n) (h' : ev y = AV.i n) :
    effV Try.prog lim (.makeSlice 37 x y) ev H = some (.own 1 H.length 0 n, H ++ [some ((List.replicate n (0 : Int)).map AV.i)]) := by
  simp only [effV, tk37, ty2, h, h']
  rw [if_pos ⟨rfl, by decide, by omega, by omega, by omega, by omega⟩]
  have key : ∀ k, (List.replicate k ([Value.int .i64 0].map AV.v)).flatten = (List.replicate k (0 : Int)).map AV.i := by
    intro k
    induction k with
    | zero => rfl
    | succ k ih => rw [List.replicate_succ, List.flatten_cons, ih, List.replicate_succ]; rfl
  rw [Int.toNat_natCast, key]
theorem gt_rep (n j : Nat) (h : j < n) : gt (List.replicate n (0 : Int)) j = 0 := by
  rw [gt_eq _ _ (by simpa using h)]; simp
theorem mtake_succ (a b : Tb) (u : Nat) (h : u < a.length) : (mtab a b).take (u + 1) = (mtab a b).take u ++ [mrow a b u] := by
  rw [take_gt _ u (by rw [mtab_len]; exact h), mtab_gt a b u h]
theorem rowset {r : List Int} {f : Nat → Int} {n w : Nat} (hrl : r.length = n) (hs : ∀ j, j < w → gt r j = f j) (hw : w < n) (x : Int) (hx : x = f w) : ∀ j, j < w + 1 → gt (r.set w x) j = f j := by
  intro j hj
  rw [gt_set _ _ _ _ (by omega)]
  split
  · rename_i e; subst e; exact hx
  · exact hs j (by omega)
theorem rowset0 {r : List Int} {n w : Nat} (hrl : r.length = n) (hz : ∀ j, w ≤ j → j < n → gt r j = 0) (hw : w < n) (x : Int) : ∀ j, w + 1 ≤ j → j < n → gt (r.set w x) j = 0 := by
  intro j hj hn
  rw [gt_set _ _ _ _ (by omega), if_neg (by omega)]
  exact hz j (by omega) hn

theorem rmean_ok (lim : Nat) (H : Heap) (a b : Tb) (hI : I64T a) :
    ACall sig lim 17 [rowsAV a, rowsAV b] H fun r H' => H' = H ∧ r = .tup [.agg [meanAV a b], AV.i (formS a b)] := by
  have hrw : True := trivial
  have hT := hrw
  have cu := hrw
  have hcell := hrw
  have hrow := hrw
  have hp7 := hrw
  refine ACall_pure (fa := fa17) rfl rfl rfl rfl ?_
  have tr : ∀ a0 a1 : AV, env0 fa17.keep [a0, a1] = [(0, a0), (1, a1), (4, .any), (5, .any), (6, .any), (7, .any), (8, .any), (9, .any), (10, .any), (15, .any), (19, .any), (20, .any), (21, .any), (30, .any), (31, .any), (32, .any), (45, .any)] := fun a0 a1 => rfl
  refine W_to (tr _ _) ?_; clear tr
  refine at_seq rfl ?_
  refine rg rfl ?_
  refine R_alloc (by simp (disch := first | omega | (simp only [List.length_map, List.length_append, List.length_set, List.length_cons, List.length_nil, List.length_take, List.length_drop]; omega)) only [go_sem, ↓reduceIte, Nat.reduceEqDiff, reduceCtorEq, hrw, hT, cu, hrow, hcell, hp7]; rfl) rfl (by simp only [List.map_cons, List.map_nil]; rfl) ?_
  refine Rq ?_
  have tr : ∀ y0 y1 y4 y5 y6 y7 y8 y9 y10 y15 y19 y20 y21 y30 y31 y32 y45 z0 z1 : AV, trim [(5, z1), (4, z0), (0, y0), (1, y1), (4, y4), (5, y5), (6, y6), (7, y7), (8, y8), (9, y9), (10, y10), (15, y15), (19, y19), (20, y20), (21, y21), (30, y30), (31, y31), (32, y32), (45, y45)] [(0, y0), (1, y1), (4, y4), (5, y5), (6, y6), (7, y7), (8, y8), (9, y9), (10, y10), (15, y15), (19, y19), (20, y20), (21, y21), (30, y30), (31, y31), (32, y32), (45, y45)] = [(0, y0), (1, y1), (4, z0), (5, z1), (6, y6), (7, y7), (8, y8), (9, y9), (10, y10), (15, y15), (19, y19), (20, y20), (21, y21), (30, y30), (31, y31), (32, y32), (45, y45)] := fun y0 y1 y4 y5 y6 y7 y8 y9 y10 y15 y19 y20 y21 y30 y31 y32 y45 z0 z1 => rfl
  refine R_nil (tr _ _ _ _ _ _ _ _ _ _ _ _ _ _ _ _ _ _ _) ?_; clear tr
  refine then_n ?_
  refine at_seq rfl ?_
  refine at_seq rfl ?_
  refine rg rfl ?_
  refine Rq ?_
  refine Rq ?_
  refine Rcall ?_
  refine ACall_eq (rform_ok _ _ _ _) ?_
  refine Rq ?_
  have tr : ∀ y0 y1 y4 y5 y6 y7 y8 y9 y10 y15 y19 y20 y21 y30 y31 y32 y45 z0 z1 z2 z3 : AV, trim [(6, z3), (13, z2), (12, z1), (11, z0), (0, y0), (1, y1), (4, y4), (5, y5), (6, y6), (7, y7), (8, y8), (9, y9), (10, y10), (15, y15), (19, y19), (20, y20), (21, y21), (30, y30), (31, y31), (32, y32), (45, y45)] [(0, y0), (1, y1), (4, y4), (5, y5), (6, y6), (7, y7), (8, y8), (9, y9), (10, y10), (15, y15), (19, y19), (20, y20), (21, y21), (30, y30), (31, y31), (32, y32), (45, y45)] = [(0, y0), (1, y1), (4, y4), (5, y5), (6, z3), (7, y7), (8, y8), (9, y9), (10, y10), (15, y15), (19, y19), (20, y20), (21, y21), (30, y30), (31, y31), (32, y32), (45, y45)] := fun y0 y1 y4 y5 y6 y7 y8 y9 y10 y15 y19 y20 y21 y30 y31 y32 y45 z0 z1 z2 z3 => rfl
  refine R_nil (tr _ _ _ _ _ _ _ _ _ _ _ _ _ _ _ _ _ _ _ _ _) ?_; clear tr
  refine then_n ?_
  refine at_seq rfl ?_
  refine rg rfl ?_
  refine Rq ?_
  refine Rq ?_
  have tr : ∀ y0 y1 y4 y5 y6 y7 y8 y9 y10 y15 y19 y20 y21 y30 y31 y32 y45 z0 z1 : AV, trim [(15, z1), (14, z0), (0, y0), (1, y1), (4, y4), (5, y5), (6, y6), (7, y7), (8, y8), (9, y9), (10, y10), (15, y15), (19, y19), (20, y20), (21, y21), (30, y30), (31, y31), (32, y32), (45, y45)] [(0, y0), (1, y1), (4, y4), (5, y5), (6, y6), (7, y7), (8, y8), (9, y9), (10, y10), (15, y15), (19, y19), (20, y20), (21, y21), (30, y30), (31, y31), (32, y32), (45, y45)] = [(0, y0), (1, y1), (4, y4), (5, y5), (6, y6), (7, y7), (8, y8), (9, y9), (10, y10), (15, z1), (19, y19), (20, y20), (21, y21), (30, y30), (31, y31), (32, y32), (45, y45)] := fun y0 y1 y4 y5 y6 y7 y8 y9 y10 y15 y19 y20 y21 y30 y31 y32 y45 z0 z1 => rfl
  refine R_nil (tr _ _ _ _ _ _ _ _ _ _ _ _ _ _ _ _ _ _ _) ?_; clear tr
  refine then_n ?_
  refine cdd (fun h1 => ?_) (fun h1 => ?_)
  · try simp only [decide_eq_true_eq, decide_eq_false_iff_not, Bool.not_eq_true', Bool.not_eq_false', beq_iff_eq, beq_eq_false_iff_ne, ne_eq] at h1
    refine at_seq rfl ?_
    refine rg rfl ?_
    refine R_q rfl (by simp only [go_sem, List.map_nil, bld24_0]; rfl) ?_
    refine Rq ?_
    refine R_store ty24 (by simp (disch := first | omega | (simp only [List.length_map, List.length_append, List.length_set, List.length_cons, List.length_nil, List.length_take, List.length_drop]; omega)) only [go_sem, ↓reduceIte, Nat.reduceEqDiff, reduceCtorEq, hrw, hT, cu, hrow, hcell, hp7]; rfl) (by simp (disch := first | omega | (simp only [List.length_map, List.length_append, List.length_set, List.length_cons, List.length_nil, List.length_take, List.length_drop]; omega)) only [go_sem, ↓reduceIte, Nat.reduceEqDiff, reduceCtorEq, hrw, hT, cu, hrow, hcell, hp7]; rfl) (by simp (disch := first | omega | (simp only [List.length_map, List.length_append, List.length_set, List.length_cons, List.length_nil, List.length_take, List.length_drop]; omega)) only [go_sem, ↓reduceIte, Nat.reduceEqDiff, reduceCtorEq, hrw, hT, cu, hrow, hcell, hp7]; rfl) (by simp) (by rfl) (by simp (disch := first | omega | (simp only [List.length_map, List.length_append, List.length_set, List.length_cons, List.length_nil, List.length_take, List.length_drop]; omega)) only [go_sem, ↓reduceIte, Nat.reduceEqDiff, reduceCtorEq, hrw, hT, cu, hrow, hcell, hp7]; rfl) ?_
    refine Rq ?_
    have tr : ∀ y0 y1 y4 y5 y6 y7 y8 y9 y10 y15 y19 y20 y21 y30 y31 y32 y45 z0 z1 z2 : AV, trim [(5, z2), (17, z1), (16, z0), (0, y0), (1, y1), (4, y4), (5, y5), (6, y6), (7, y7), (8, y8), (9, y9), (10, y10), (15, y15), (19, y19), (20, y20), (21, y21), (30, y30), (31, y31), (32, y32), (45, y45)] [(0, y0), (1, y1), (4, y4), (5, y5), (6, y6), (7, y7), (8, y8), (9, y9), (10, y10), (15, y15), (19, y19), (20, y20), (21, y21), (30, y30), (31, y31), (32, y32), (45, y45)] = [(0, y0), (1, y1), (4, y4), (5, z2), (6, y6), (7, y7), (8, y8), (9, y9), (10, y10), (15, y15), (19, y19), (20, y20), (21, y21), (30, y30), (31, y31), (32, y32), (45, y45)] := fun y0 y1 y4 y5 y6 y7 y8 y9 y10 y15 y19 y20 y21 y30 y31 y32 y45 z0 z1 z2 => rfl
    refine R_nil (tr _ _ _ _ _ _ _ _ _ _ _ _ _ _ _ _ _ _ _ _) ?_; clear tr
    refine then_n ?_
    refine at_ret rfl ?_
    refine then_r ?_
    refine fin_pure (rs := [.cell 4 24, .tmp 5]) rfl (by simp only [go_sem, ↓reduceIte, Nat.reduceEqDiff]; rfl) (by simp only [go_sem, ↓reduceIte, Nat.reduceEqDiff]; rfl) ?_
    exact ⟨rfl, by rw [meanAV, if_neg h1]⟩
  · try simp only [decide_eq_true_eq, decide_eq_false_iff_not, Bool.not_eq_true', Bool.not_eq_false', beq_iff_eq, beq_eq_false_iff_ne, ne_eq] at h1
    refine at_skip rfl ?_
    refine then_n ?_
    refine at_seq rfl ?_
    refine rg rfl ?_
    obtain ⟨g2, g91, g1, g10, ge, gl, gp⟩ := formed_of h1
    refine R_alloc (by simp (disch := first | omega | (simp only [List.length_map, List.length_append, List.length_set, List.length_cons, List.length_nil, List.length_take, List.length_drop]; omega)) only [go_sem, ↓reduceIte, Nat.reduceEqDiff, reduceCtorEq, hrw, hT, cu, hrow, hcell, hp7]; rfl) rfl (by simp only [List.map_cons, List.map_nil]; rfl) ?_
    have tr : ∀ y0 y1 y4 y5 y6 y7 y8 y9 y10 y15 y19 y20 y21 y30 y31 y32 y45 z0 : AV, trim [(7, z0), (0, y0), (1, y1), (4, y4), (5, y5), (6, y6), (7, y7), (8, y8), (9, y9), (10, y10), (15, y15), (19, y19), (20, y20), (21, y21), (30, y30), (31, y31), (32, y32), (45, y45)] [(0, y0), (1, y1), (4, y4), (5, y5), (6, y6), (7, y7), (8, y8), (9, y9), (10, y10), (15, y15), (19, y19), (20, y20), (21, y21), (30, y30), (31, y31), (32, y32), (45, y45)] = [(0, y0), (1, y1), (4, y4), (5, y5), (6, y6), (7, z0), (8, y8), (9, y9), (10, y10), (15, y15), (19, y19), (20, y20), (21, y21), (30, y30), (31, y31), (32, y32), (45, y45)] := fun y0 y1 y4 y5 y6 y7 y8 y9 y10 y15 y19 y20 y21 y30 y31 y32 y45 z0 => rfl
    refine R_nil (tr _ _ _ _ _ _ _ _ _ _ _ _ _ _ _ _ _ _) ?_; clear tr
    refine then_n ?_
    refine at_seq rfl ?_
    refine at_seq rfl ?_
    refine rg rfl ?_
    refine Rq ?_
    refine Rq ?_
    refine Rq ?_
    have tr : ∀ y0 y1 y4 y5 y6 y7 y8 y9 y10 y15 y19 y20 y21 y30 y31 y32 y45 z0 z1 z2 : AV, trim [(20, z2), (19, z1), (18, z0), (0, y0), (1, y1), (4, y4), (5, y5), (6, y6), (7, y7), (8, y8), (9, y9), (10, y10), (15, y15), (19, y19), (20, y20), (21, y21), (30, y30), (31, y31), (32, y32), (45, y45)] [(0, y0), (1, y1), (4, y4), (5, y5), (6, y6), (7, y7), (8, y8), (9, y9), (10, y10), (15, y15), (19, y19), (20, y20), (21, y21), (30, y30), (31, y31), (32, y32), (45, y45)] = [(0, y0), (1, y1), (4, y4), (5, y5), (6, y6), (7, y7), (8, y8), (9, y9), (10, y10), (15, y15), (19, z1), (20, z2), (21, y21), (30, y30), (31, y31), (32, y32), (45, y45)] := fun y0 y1 y4 y5 y6 y7 y8 y9 y10 y15 y19 y20 y21 y30 y31 y32 y45 z0 z1 z2 => rfl
    refine R_nil (tr _ _ _ _ _ _ _ _ _ _ _ _ _ _ _ _ _ _ _ _) ?_; clear tr
    refine then_n ?_
    refine at_block rfl ?_
    refine loop_n rfl (fun mm kv H' => ∃ u : Nat, ∃ o : AV, ∃ X : Heap, ∃ x8 x9 x10 x21 x30 x31 x32 x45 : AV, (kv = [(8, x8), (9, x9), (10, x10), (20, AV.i u), (21, x21), (30, x30), (31, x31), (32, x32), (45, x45)]) ∧ (mm = a.length - u) ∧ (H' = ((H ++ [some [AV.v (.slice none 0 0)]]) ++ [some [o]]) ++ X) ∧ (u ≤ a.length) ∧ (OutT ((H ++ [some [AV.v (.slice none 0 0)]]) ++ [some [o]]).length (((H ++ [some [AV.v (.slice none 0 0)]]) ++ [some [o]]) ++ X) o ((mtab a b).take u))) ⟨0, _, [], _, _, _, _, _, _, _, _, rfl, rfl, by simp; rfl, by omega, by exact Or.inl ⟨rfl, rfl⟩⟩ (by rfl) ?_
    rintro mm kv H1' ⟨u, o, X, x8, x9, x10, x21, x30, x31, x32, x45, rfl, rfl, hX, hu, hO⟩
    have tr : ∀ y0 y1 y4 y5 y6 y7 y8 y9 y10 y15 y19 y20 y21 y30 y31 y32 y45 z8 z9 z10 z20 z21 z30 z31 z32 z45 : AV, upd [(0, y0), (1, y1), (4, y4), (5, y5), (6, y6), (7, y7), (8, y8), (9, y9), (10, y10), (15, y15), (19, y19), (20, y20), (21, y21), (30, y30), (31, y31), (32, y32), (45, y45)] [(8, z8), (9, z9), (10, z10), (20, z20), (21, z21), (30, z30), (31, z31), (32, z32), (45, z45)] = [(0, y0), (1, y1), (4, y4), (5, y5), (6, y6), (7, y7), (8, z8), (9, z9), (10, z10), (15, y15), (19, y19), (20, z20), (21, z21), (30, z30), (31, z31), (32, z32), (45, z45)] := fun y0 y1 y4 y5 y6 y7 y8 y9 y10 y15 y19 y20 y21 y30 y31 y32 y45 z8 z9 z10 z20 z21 z30 z31 z32 z45 => rfl
    refine W_to (tr _ _ _ _ _ _ _ _ _ _ _ _ _ _ _ _ _ _ _ _ _ _ _ _ _ _) ?_; clear tr
    subst hX
    refine at_seq rfl ?_
    refine rg rfl ?_
    refine Rq ?_
    have tr : ∀ y0 y1 y4 y5 y6 y7 y8 y9 y10 y15 y19 y20 y21 y30 y31 y32 y45 z0 : AV, trim [(21, z0), (0, y0), (1, y1), (4, y4), (5, y5), (6, y6), (7, y7), (8, y8), (9, y9), (10, y10), (15, y15), (19, y19), (20, y20), (21, y21), (30, y30), (31, y31), (32, y32), (45, y45)] [(0, y0), (1, y1), (4, y4), (5, y5), (6, y6), (7, y7), (8, y8), (9, y9), (10, y10), (15, y15), (19, y19), (20, y20), (21, y21), (30, y30), (31, y31), (32, y32), (45, y45)] = [(0, y0), (1, y1), (4, y4), (5, y5), (6, y6), (7, y7), (8, y8), (9, y9), (10, y10), (15, y15), (19, y19), (20, y20), (21, z0), (30, y30), (31, y31), (32, y32), (45, y45)] := fun y0 y1 y4 y5 y6 y7 y8 y9 y10 y15 y19 y20 y21 y30 y31 y32 y45 z0 => rfl
    refine R_nil (tr _ _ _ _ _ _ _ _ _ _ _ _ _ _ _ _ _ _) ?_; clear tr
    refine then_n ?_
    refine at_seq rfl ?_
    refine cdd (fun h2 => ?_) (fun h2 => ?_)
    · try simp only [decide_eq_true_eq, decide_eq_false_iff_not, Bool.not_eq_true', Bool.not_eq_false', beq_iff_eq, beq_eq_false_iff_ne, ne_eq] at h2
      refine at_skip rfl ?_
      refine then_n ?_
      refine at_seq rfl ?_
      refine at_block rfl ?_
      refine at_seq rfl ?_
      refine rg rfl ?_
      refine Rq ?_
      refine Rq ?_
      have tr : ∀ y0 y1 y4 y5 y6 y7 y8 y9 y10 y15 y19 y20 y21 y30 y31 y32 y45 z0 z1 : AV, trim [(8, z1), (22, z0), (0, y0), (1, y1), (4, y4), (5, y5), (6, y6), (7, y7), (8, y8), (9, y9), (10, y10), (15, y15), (19, y19), (20, y20), (21, y21), (30, y30), (31, y31), (32, y32), (45, y45)] [(0, y0), (1, y1), (4, y4), (5, y5), (6, y6), (7, y7), (8, y8), (9, y9), (10, y10), (15, y15), (19, y19), (20, y20), (21, y21), (30, y30), (31, y31), (32, y32), (45, y45)] = [(0, y0), (1, y1), (4, y4), (5, y5), (6, y6), (7, y7), (8, z1), (9, y9), (10, y10), (15, y15), (19, y19), (20, y20), (21, y21), (30, y30), (31, y31), (32, y32), (45, y45)] := fun y0 y1 y4 y5 y6 y7 y8 y9 y10 y15 y19 y20 y21 y30 y31 y32 y45 z0 z1 => rfl
      refine R_nil (tr _ _ _ _ _ _ _ _ _ _ _ _ _ _ _ _ _ _ _) ?_; clear tr
      refine then_n ?_
      refine at_seq rfl ?_
      refine rg rfl ?_
      have hglu := gl u (by omega)
      refine Rq ?_
      refine Rq ?_
      refine Rq ?_
      refine R_q rfl (by simp (disch := first | omega | (simp only [List.length_map, List.length_append, List.length_set, List.length_cons, List.length_nil, List.length_take, List.length_drop]; omega)) only [go_sem, ↓reduceIte, Nat.reduceEqDiff, reduceCtorEq, hrw, hT, cu, hrow, hcell, hp7]; rfl) ?_
      refine Rq ?_
      refine R_makeSlice (ms37 _ _ (gt a u).length _ _ _ (by omega) (by simp only [go_sem, ↓reduceIte, Nat.reduceEqDiff]) (by simp only [go_sem, ↓reduceIte, Nat.reduceEqDiff])) ?_
      refine Rq ?_
      have tr : ∀ y0 y1 y4 y5 y6 y7 y8 y9 y10 y15 y19 y20 y21 y30 y31 y32 y45 z0 z1 z2 z3 z4 z5 z6 : AV, trim [(9, z6), (28, z5), (27, z4), (26, z3), (25, z2), (24, z1), (23, z0), (0, y0), (1, y1), (4, y4), (5, y5), (6, y6), (7, y7), (8, y8), (9, y9), (10, y10), (15, y15), (19, y19), (20, y20), (21, y21), (30, y30), (31, y31), (32, y32), (45, y45)] [(0, y0), (1, y1), (4, y4), (5, y5), (6, y6), (7, y7), (8, y8), (9, y9), (10, y10), (15, y15), (19, y19), (20, y20), (21, y21), (30, y30), (31, y31), (32, y32), (45, y45)] = [(0, y0), (1, y1), (4, y4), (5, y5), (6, y6), (7, y7), (8, y8), (9, z6), (10, y10), (15, y15), (19, y19), (20, y20), (21, y21), (30, y30), (31, y31), (32, y32), (45, y45)] := fun y0 y1 y4 y5 y6 y7 y8 y9 y10 y15 y19 y20 y21 y30 y31 y32 y45 z0 z1 z2 z3 z4 z5 z6 => rfl
      refine R_nil (tr _ _ _ _ _ _ _ _ _ _ _ _ _ _ _ _ _ _ _ _ _ _ _ _) ?_; clear tr
      refine then_n ?_
      refine at_seq rfl ?_
      refine at_seq rfl ?_
      refine rg rfl ?_
      refine Rq ?_
      refine Rq ?_
      refine Rq ?_
      have tr : ∀ y0 y1 y4 y5 y6 y7 y8 y9 y10 y15 y19 y20 y21 y30 y31 y32 y45 z0 z1 z2 : AV, trim [(31, z2), (30, z1), (29, z0), (0, y0), (1, y1), (4, y4), (5, y5), (6, y6), (7, y7), (8, y8), (9, y9), (10, y10), (15, y15), (19, y19), (20, y20), (21, y21), (30, y30), (31, y31), (32, y32), (45, y45)] [(0, y0), (1, y1), (4, y4), (5, y5), (6, y6), (7, y7), (8, y8), (9, y9), (10, y10), (15, y15), (19, y19), (20, y20), (21, y21), (30, y30), (31, y31), (32, y32), (45, y45)] = [(0, y0), (1, y1), (4, y4), (5, y5), (6, y6), (7, y7), (8, y8), (9, y9), (10, y10), (15, y15), (19, y19), (20, y20), (21, y21), (30, z1), (31, z2), (32, y32), (45, y45)] := fun y0 y1 y4 y5 y6 y7 y8 y9 y10 y15 y19 y20 y21 y30 y31 y32 y45 z0 z1 z2 => rfl
      refine R_nil (tr _ _ _ _ _ _ _ _ _ _ _ _ _ _ _ _ _ _ _ _) ?_; clear tr
      refine then_n ?_
      refine at_block rfl ?_
      refine loop_n rfl (fun mm kv H' => ∃ w : Nat, ∃ r : List Int, ∃ x10 x32 x45 : AV, (kv = [(10, x10), (31, AV.i w), (32, x32), (45, x45)]) ∧ (mm = (gt a u).length - w) ∧ (H' = ((H ++ [some [AV.v (.slice none 0 0)]]) ++ [some [o]]) ++ X ++ [some (r.map AV.i)]) ∧ (w ≤ (gt a u).length) ∧ (r.length = (gt a u).length) ∧ (∀ j, j < w → gt r j = mcell a b u j) ∧ (∀ j, w ≤ j → j < (gt a u).length → gt r j = 0)) ⟨0, _, _, _, _, rfl, rfl, by rfl, by omega, by simp, by intro j hj; omega, by intro j _ hj; exact gt_rep _ _ hj⟩ (by rfl) ?_
      rintro mm kv H2' ⟨w, r, x10, x32, x45, rfl, rfl, hX, hw, hrl, hs, hz⟩
      have tr : ∀ y0 y1 y4 y5 y6 y7 y8 y9 y10 y15 y19 y20 y21 y30 y31 y32 y45 z10 z31 z32 z45 : AV, upd [(0, y0), (1, y1), (4, y4), (5, y5), (6, y6), (7, y7), (8, y8), (9, y9), (10, y10), (15, y15), (19, y19), (20, y20), (21, y21), (30, y30), (31, y31), (32, y32), (45, y45)] [(10, z10), (31, z31), (32, z32), (45, z45)] = [(0, y0), (1, y1), (4, y4), (5, y5), (6, y6), (7, y7), (8, y8), (9, y9), (10, z10), (15, y15), (19, y19), (20, y20), (21, y21), (30, y30), (31, z31), (32, z32), (45, z45)] := fun y0 y1 y4 y5 y6 y7 y8 y9 y10 y15 y19 y20 y21 y30 y31 y32 y45 z10 z31 z32 z45 => rfl
      refine W_to (tr _ _ _ _ _ _ _ _ _ _ _ _ _ _ _ _ _ _ _ _ _) ?_; clear tr
      subst hX
      have hrw : hget (((H ++ [some [AV.v (.slice none 0 0)]]) ++ [some [o]]) ++ X ++ [some (r.map AV.i)]) (((H ++ [some [AV.v (.slice none 0 0)]]) ++ [some [o]]) ++ X).length = some (r.map AV.i) := by rw [hget_app]; rfl
      refine at_seq rfl ?_
      refine rg rfl ?_
      refine Rq ?_
      have tr : ∀ y0 y1 y4 y5 y6 y7 y8 y9 y10 y15 y19 y20 y21 y30 y31 y32 y45 z0 : AV, trim [(32, z0), (0, y0), (1, y1), (4, y4), (5, y5), (6, y6), (7, y7), (8, y8), (9, y9), (10, y10), (15, y15), (19, y19), (20, y20), (21, y21), (30, y30), (31, y31), (32, y32), (45, y45)] [(0, y0), (1, y1), (4, y4), (5, y5), (6, y6), (7, y7), (8, y8), (9, y9), (10, y10), (15, y15), (19, y19), (20, y20), (21, y21), (30, y30), (31, y31), (32, y32), (45, y45)] = [(0, y0), (1, y1), (4, y4), (5, y5), (6, y6), (7, y7), (8, y8), (9, y9), (10, y10), (15, y15), (19, y19), (20, y20), (21, y21), (30, y30), (31, y31), (32, z0), (45, y45)] := fun y0 y1 y4 y5 y6 y7 y8 y9 y10 y15 y19 y20 y21 y30 y31 y32 y45 z0 => rfl
      refine R_nil (tr _ _ _ _ _ _ _ _ _ _ _ _ _ _ _ _ _ _) ?_; clear tr
      refine then_n ?_
      refine at_seq rfl ?_
      refine cdd (fun h3 => ?_) (fun h3 => ?_)
      · try simp only [decide_eq_true_eq, decide_eq_false_iff_not, Bool.not_eq_true', Bool.not_eq_false', beq_iff_eq, beq_eq_false_iff_ne, ne_eq] at h3
        refine at_skip rfl ?_
        refine then_n ?_
        refine at_seq rfl ?_
        refine at_block rfl ?_
        refine at_seq rfl ?_
        refine rg rfl ?_
        refine Rq ?_
        refine Rq ?_
        have tr : ∀ y0 y1 y4 y5 y6 y7 y8 y9 y10 y15 y19 y20 y21 y30 y31 y32 y45 z0 z1 : AV, trim [(10, z1), (33, z0), (0, y0), (1, y1), (4, y4), (5, y5), (6, y6), (7, y7), (8, y8), (9, y9), (10, y10), (15, y15), (19, y19), (20, y20), (21, y21), (30, y30), (31, y31), (32, y32), (45, y45)] [(0, y0), (1, y1), (4, y4), (5, y5), (6, y6), (7, y7), (8, y8), (9, y9), (10, y10), (15, y15), (19, y19), (20, y20), (21, y21), (30, y30), (31, y31), (32, y32), (45, y45)] = [(0, y0), (1, y1), (4, y4), (5, y5), (6, y6), (7, y7), (8, y8), (9, y9), (10, z1), (15, y15), (19, y19), (20, y20), (21, y21), (30, y30), (31, y31), (32, y32), (45, y45)] := fun y0 y1 y4 y5 y6 y7 y8 y9 y10 y15 y19 y20 y21 y30 y31 y32 y45 z0 z1 => rfl
        refine R_nil (tr _ _ _ _ _ _ _ _ _ _ _ _ _ _ _ _ _ _ _) ?_; clear tr
        refine then_n ?_
        refine at_seq rfl ?_
        refine rg rfl ?_
        refine Rq ?_
        refine Rq ?_
        refine Rq ?_
        refine Rp_split (fun h4 => ?_) (fun h4 => ?_)
        · try simp only [decide_eq_true_eq, decide_eq_false_iff_not, Bool.not_eq_true', Bool.not_eq_false', beq_iff_eq, beq_eq_false_iff_ne, ne_eq] at h4
          refine Ry ?_
          refine Rq ?_
          refine Ry ?_
          refine Rq ?_
          refine Ry ?_
          refine Rq ?_
          refine Ry ?_
          refine R_q rfl (by simp (disch := first | omega | (simp only [List.length_map, List.length_append, List.length_set, List.length_cons, List.length_nil, List.length_take, List.length_drop]; omega)) only [go_sem, ↓reduceIte, Nat.reduceEqDiff, reduceCtorEq, hrw, hT, cu, hrow, hcell, hp7]; rfl) ?_
          refine Ry ?_
          refine Rq ?_
          refine Ry ?_
          refine Rq ?_
          refine Ry ?_
          refine R_q rfl (by simp (disch := first | omega | (simp only [List.length_map, List.length_append, List.length_set, List.length_cons, List.length_nil, List.length_take, List.length_drop]; omega)) only [go_sem, ↓reduceIte, Nat.reduceEqDiff, reduceCtorEq, hrw, hT, cu, hrow, hcell, hp7]; rfl) ?_
          refine Ry ?_
          refine Rq ?_
          refine Rq ?_
          have tr : ∀ y0 y1 y4 y5 y6 y7 y8 y9 y10 y15 y19 y20 y21 y30 y31 y32 y45 z0 z1 z2 z3 z4 z5 z6 z7 z8 z9 z10 z11 : AV, trim [(45, z11), (44, z10), (43, z9), (42, z8), (41, z7), (40, z6), (39, z5), (38, z4), (37, z3), (36, z2), (35, z1), (34, z0), (0, y0), (1, y1), (4, y4), (5, y5), (6, y6), (7, y7), (8, y8), (9, y9), (10, y10), (15, y15), (19, y19), (20, y20), (21, y21), (30, y30), (31, y31), (32, y32), (45, y45)] [(0, y0), (1, y1), (4, y4), (5, y5), (6, y6), (7, y7), (8, y8), (9, y9), (10, y10), (15, y15), (19, y19), (20, y20), (21, y21), (30, y30), (31, y31), (32, y32), (45, y45)] = [(0, y0), (1, y1), (4, y4), (5, y5), (6, y6), (7, y7), (8, y8), (9, y9), (10, y10), (15, y15), (19, y19), (20, y20), (21, y21), (30, y30), (31, y31), (32, y32), (45, z11)] := fun y0 y1 y4 y5 y6 y7 y8 y9 y10 y15 y19 y20 y21 y30 y31 y32 y45 z0 z1 z2 z3 z4 z5 z6 z7 z8 z9 z10 z11 => rfl
          refine R_nil (tr _ _ _ _ _ _ _ _ _ _ _ _ _ _ _ _ _ _ _ _ _ _ _ _ _ _ _ _ _) ?_; clear tr
          refine then_n ?_
          refine cdd (fun h5 => ?_) (fun h5 => ?_)
          · try simp only [decide_eq_true_eq, decide_eq_false_iff_not, Bool.not_eq_true', Bool.not_eq_false', beq_iff_eq, beq_eq_false_iff_ne, ne_eq] at h5
            refine rd rfl rfl ?_
            have hp := gp u (by omega) w (by omega)
            have hi := hI u (by omega) w (by omega)
            have hq0 : 0 ≤ gt (gt a u) w / gt (gt b u) w := Int.ediv_nonneg (by omega) (by omega)
            have hq1 : gt (gt a u) w / gt (gt b u) w ≤ gt (gt a u) w := Int.ediv_le_self _ (by omega)
            refine Qq ?_
            refine Qq ?_
            refine Qq ?_
            refine Qq ?_
            refine Qq ?_
            refine Q_q rfl (by simp (disch := first | omega | (simp only [List.length_map, List.length_append, List.length_set, List.length_cons, List.length_nil, List.length_take, List.length_drop]; omega)) only [go_sem, ↓reduceIte, Nat.reduceEqDiff, reduceCtorEq, hrw, hT, cu, hrow, hcell, hp7]; rfl) ?_
            refine Qq ?_
            refine Qq ?_
            refine Q_q rfl (by simp (disch := first | omega | (simp only [List.length_map, List.length_append, List.length_set, List.length_cons, List.length_nil, List.length_take, List.length_drop]; omega)) only [go_sem, ↓reduceIte, Nat.reduceEqDiff, reduceCtorEq, hrw, hT, cu, hrow, hcell, hp7]; rfl) ?_
            refine Qq ?_
            refine Qq ?_
            refine Qq ?_
            refine Q_q rfl (by simp (disch := first | omega | (simp only [List.length_map, List.length_append, List.length_set, List.length_cons, List.length_nil, List.length_take, List.length_drop]; omega)) only [go_sem, ↓reduceIte, Nat.reduceEqDiff, reduceCtorEq, hrw, hT, cu, hrow, hcell, hp7]; rfl) ?_
            refine Qq ?_
            refine Qq ?_
            refine Q_q rfl (by simp (disch := first | omega | (simp only [List.length_map, List.length_append, List.length_set, List.length_cons, List.length_nil, List.length_take, List.length_drop]; omega)) only [go_sem, ↓reduceIte, Nat.reduceEqDiff, reduceCtorEq, hrw, hT, cu, hrow, hcell, hp7]; rfl) ?_
            refine Qq ?_
            refine Qq ?_
            refine Qq ?_
            refine Q_nil ?_
            refine R_store ty2 (by simp (disch := first | omega | (simp only [List.length_map, List.length_append, List.length_set, List.length_cons, List.length_nil, List.length_take, List.length_drop]; omega)) only [go_sem, ↓reduceIte, Nat.reduceEqDiff, reduceCtorEq, hrw, hT, cu, hrow, hcell]; rfl) (by simp (disch := first | omega | (simp only [List.length_map, List.length_append, List.length_set, List.length_cons, List.length_nil, List.length_take, List.length_drop]; omega)) only [go_sem, ↓reduceIte, Nat.reduceEqDiff, reduceCtorEq, hrw, hT, cu, hrow, hcell]; rfl) hrw ⟨by simp, rfl, by simp only [List.length_map]; omega⟩ (setL_map _ _ _) rfl ?_
            have tr : ∀ y0 y1 y4 y5 y6 y7 y8 y9 y10 y15 y19 y20 y21 y30 y31 y32 y45 z0 z1 z2 z3 z4 z5 z6 z7 z8 z9 z10 z11 z12 z13 z14 z15 z16 z17 z18 : AV, trim [(64, z18), (63, z17), (62, z16), (61, z15), (60, z14), (59, z13), (58, z12), (57, z11), (56, z10), (55, z9), (54, z8), (53, z7), (52, z6), (51, z5), (50, z4), (49, z3), (48, z2), (47, z1), (46, z0), (0, y0), (1, y1), (4, y4), (5, y5), (6, y6), (7, y7), (8, y8), (9, y9), (10, y10), (15, y15), (19, y19), (20, y20), (21, y21), (30, y30), (31, y31), (32, y32), (45, y45)] [(0, y0), (1, y1), (4, y4), (5, y5), (6, y6), (7, y7), (8, y8), (9, y9), (10, y10), (15, y15), (19, y19), (20, y20), (21, y21), (30, y30), (31, y31), (32, y32), (45, y45)] = [(0, y0), (1, y1), (4, y4), (5, y5), (6, y6), (7, y7), (8, y8), (9, y9), (10, y10), (15, y15), (19, y19), (20, y20), (21, y21), (30, y30), (31, y31), (32, y32), (45, y45)] := fun y0 y1 y4 y5 y6 y7 y8 y9 y10 y15 y19 y20 y21 y30 y31 y32 y45 z0 z1 z2 z3 z4 z5 z6 z7 z8 z9 z10 z11 z12 z13 z14 z15 z16 z17 z18 => rfl
            refine R_nil (tr _ _ _ _ _ _ _ _ _ _ _ _ _ _ _ _ _ _ _ _ _ _ _ _ _ _ _ _ _ _ _ _ _ _ _ _) ?_; clear tr
            refine blk_n ?_
            refine then_n ?_
            refine rg rfl ?_
            have hp2 := gp u (by omega) w (by omega)
            refine Rq ?_
            refine Rq ?_
            have tr : ∀ y0 y1 y4 y5 y6 y7 y8 y9 y10 y15 y19 y20 y21 y30 y31 y32 y45 z0 z1 : AV, trim [(31, z1), (65, z0), (0, y0), (1, y1), (4, y4), (5, y5), (6, y6), (7, y7), (8, y8), (9, y9), (10, y10), (15, y15), (19, y19), (20, y20), (21, y21), (30, y30), (31, y31), (32, y32), (45, y45)] [(0, y0), (1, y1), (4, y4), (5, y5), (6, y6), (7, y7), (8, y8), (9, y9), (10, y10), (15, y15), (19, y19), (20, y20), (21, y21), (30, y30), (31, y31), (32, y32), (45, y45)] = [(0, y0), (1, y1), (4, y4), (5, y5), (6, y6), (7, y7), (8, y8), (9, y9), (10, y10), (15, y15), (19, y19), (20, y20), (21, y21), (30, y30), (31, z1), (32, y32), (45, y45)] := fun y0 y1 y4 y5 y6 y7 y8 y9 y10 y15 y19 y20 y21 y30 y31 y32 y45 z0 z1 => rfl
            refine R_nil (tr _ _ _ _ _ _ _ _ _ _ _ _ _ _ _ _ _ _ _) ?_; clear tr
            refine then_n ?_
            exact ⟨_, _, ⟨w + 1, _, _, _, _, rfl, rfl, by first | rfl | exact hset_app _ _ _, by omega, by first | exact hrl | (rw [List.length_set]; exact hrl), by first | exact all_step hs (by rw [hz w (by omega) (by omega), mcell, if_pos (by omega)]) | exact rowset hrl hs (by omega) _ (by rewrite [mcell, if_neg (by omega)]; omega), by first | exact rowset0 hrl hz (by omega) _ | exact fun j hj hn => hz j (by omega) hn⟩, by rfl, by omega⟩
          · try simp only [decide_eq_true_eq, decide_eq_false_iff_not, Bool.not_eq_true', Bool.not_eq_false', beq_iff_eq, beq_eq_false_iff_ne, ne_eq] at h5
            refine at_skip rfl ?_
            refine blk_n ?_
            refine then_n ?_
            refine rg rfl ?_
            have hp2 := gp u (by omega) w (by omega)
            refine Rq ?_
            refine Rq ?_
            have tr : ∀ y0 y1 y4 y5 y6 y7 y8 y9 y10 y15 y19 y20 y21 y30 y31 y32 y45 z0 z1 : AV, trim [(31, z1), (65, z0), (0, y0), (1, y1), (4, y4), (5, y5), (6, y6), (7, y7), (8, y8), (9, y9), (10, y10), (15, y15), (19, y19), (20, y20), (21, y21), (30, y30), (31, y31), (32, y32), (45, y45)] [(0, y0), (1, y1), (4, y4), (5, y5), (6, y6), (7, y7), (8, y8), (9, y9), (10, y10), (15, y15), (19, y19), (20, y20), (21, y21), (30, y30), (31, y31), (32, y32), (45, y45)] = [(0, y0), (1, y1), (4, y4), (5, y5), (6, y6), (7, y7), (8, y8), (9, y9), (10, y10), (15, y15), (19, y19), (20, y20), (21, y21), (30, y30), (31, z1), (32, y32), (45, y45)] := fun y0 y1 y4 y5 y6 y7 y8 y9 y10 y15 y19 y20 y21 y30 y31 y32 y45 z0 z1 => rfl
            refine R_nil (tr _ _ _ _ _ _ _ _ _ _ _ _ _ _ _ _ _ _ _) ?_; clear tr
            refine then_n ?_
            exact ⟨_, _, ⟨w + 1, _, _, _, _, rfl, rfl, by first | rfl | exact hset_app _ _ _, by omega, by first | exact hrl | (rw [List.length_set]; exact hrl), by first | exact all_step hs (by rw [hz w (by omega) (by omega), mcell, if_pos (by omega)]) | exact rowset hrl hs (by omega) _ (by rewrite [mcell, if_neg (by omega)]; omega), by first | exact rowset0 hrl hz (by omega) _ | exact fun j hj hn => hz j (by omega) hn⟩, by rfl, by omega⟩
        · try simp only [decide_eq_true_eq, decide_eq_false_iff_not, Bool.not_eq_true', Bool.not_eq_false', beq_iff_eq, beq_eq_false_iff_ne, ne_eq] at h4
          refine Rn ?_
          refine Rn ?_
          refine Rn ?_
          refine Rn ?_
          refine Rn ?_
          refine Rn ?_
          refine Rn ?_
          refine Rn ?_
          refine Rq ?_
          have tr : ∀ y0 y1 y4 y5 y6 y7 y8 y9 y10 y15 y19 y20 y21 y30 y31 y32 y45 z0 z1 z2 z3 z4 z5 z6 z7 z8 z9 z10 z11 : AV, trim [(45, z11), (44, z10), (43, z9), (42, z8), (41, z7), (40, z6), (39, z5), (38, z4), (37, z3), (36, z2), (35, z1), (34, z0), (0, y0), (1, y1), (4, y4), (5, y5), (6, y6), (7, y7), (8, y8), (9, y9), (10, y10), (15, y15), (19, y19), (20, y20), (21, y21), (30, y30), (31, y31), (32, y32), (45, y45)] [(0, y0), (1, y1), (4, y4), (5, y5), (6, y6), (7, y7), (8, y8), (9, y9), (10, y10), (15, y15), (19, y19), (20, y20), (21, y21), (30, y30), (31, y31), (32, y32), (45, y45)] = [(0, y0), (1, y1), (4, y4), (5, y5), (6, y6), (7, y7), (8, y8), (9, y9), (10, y10), (15, y15), (19, y19), (20, y20), (21, y21), (30, y30), (31, y31), (32, y32), (45, z11)] := fun y0 y1 y4 y5 y6 y7 y8 y9 y10 y15 y19 y20 y21 y30 y31 y32 y45 z0 z1 z2 z3 z4 z5 z6 z7 z8 z9 z10 z11 => rfl
          refine R_nil (tr _ _ _ _ _ _ _ _ _ _ _ _ _ _ _ _ _ _ _ _ _ _ _ _ _ _ _ _ _) ?_; clear tr
          refine then_n ?_
          refine cdf ?_
          refine at_skip rfl ?_
          refine blk_n ?_
          refine then_n ?_
          refine rg rfl ?_
          have hp2 := gp u (by omega) w (by omega)
          refine Rq ?_
          refine Rq ?_
          have tr : ∀ y0 y1 y4 y5 y6 y7 y8 y9 y10 y15 y19 y20 y21 y30 y31 y32 y45 z0 z1 : AV, trim [(31, z1), (65, z0), (0, y0), (1, y1), (4, y4), (5, y5), (6, y6), (7, y7), (8, y8), (9, y9), (10, y10), (15, y15), (19, y19), (20, y20), (21, y21), (30, y30), (31, y31), (32, y32), (45, y45)] [(0, y0), (1, y1), (4, y4), (5, y5), (6, y6), (7, y7), (8, y8), (9, y9), (10, y10), (15, y15), (19, y19), (20, y20), (21, y21), (30, y30), (31, y31), (32, y32), (45, y45)] = [(0, y0), (1, y1), (4, y4), (5, y5), (6, y6), (7, y7), (8, y8), (9, y9), (10, y10), (15, y15), (19, y19), (20, y20), (21, y21), (30, y30), (31, z1), (32, y32), (45, y45)] := fun y0 y1 y4 y5 y6 y7 y8 y9 y10 y15 y19 y20 y21 y30 y31 y32 y45 z0 z1 => rfl
          refine R_nil (tr _ _ _ _ _ _ _ _ _ _ _ _ _ _ _ _ _ _ _) ?_; clear tr
          refine then_n ?_
          exact ⟨_, _, ⟨w + 1, _, _, _, _, rfl, rfl, by first | rfl | exact hset_app _ _ _, by omega, by first | exact hrl | (rw [List.length_set]; exact hrl), by first | exact all_step hs (by rw [hz w (by omega) (by omega), mcell, if_pos (by omega)]) | exact rowset hrl hs (by omega) _ (by rewrite [mcell, if_neg (by omega)]; omega), by first | exact rowset0 hrl hz (by omega) _ | exact fun j hj hn => hz j (by omega) hn⟩, by rfl, by omega⟩
      · try simp only [decide_eq_true_eq, decide_eq_false_iff_not, Bool.not_eq_true', Bool.not_eq_false', beq_iff_eq, beq_eq_false_iff_ne, ne_eq] at h3
        refine at_exit rfl ?_
        refine then_x ?_
        refine then_x ?_
        refine blk_x ?_
        refine then_n ?_
        refine rg rfl ?_
        have er : r = mrow a b u := ext_gt (by rw [mrow_len]; omega) fun j hj => by rw [mrow_gt a b u j (by omega), hs j (by omega)]
        subst er
        have hml := mrow_len a b u
        refine Rq ?_
        refine R_q rfl (by simp (disch := first | omega | (simp only [List.length_map, List.length_append, List.length_set, List.length_cons, List.length_nil, List.length_take, List.length_drop]; omega)) only [go_sem, ↓reduceIte, Nat.reduceEqDiff, reduceCtorEq, hrw, hT, cu, hrow, hcell, hp7]; rfl) ?_
        refine Rq ?_
        refine R_buildSlice (bs22 _ _ _ _ _ _ _ _ (by simp only [go_sem, ↓reduceIte, Nat.reduceEqDiff]; rfl)) ?_
        obtain ⟨o', X', hap, hO'⟩ := out_append (lim := H.length) (A := ((H ++ [some [AV.v (.slice none 0 0)]]) ++ [some [o]])) (by simp) (mrow a b u) hO (by rw [List.length_take, mtab_len]; omega)
        rw [hml] at hap
        have hst' := hO'.st
        have hcs' := hO'.cells
        have hg7 : hget (((H ++ [some [AV.v (.slice none 0 0)]]) ++ [some [o]]) ++ X') (H ++ [some [AV.v (.slice none 0 0)]]).length = some [o] := by rw [hget_low _ _ _ (by simp), hget_app]; rfl
        refine R_append (by simp only [go_sem, ↓reduceIte, Nat.reduceEqDiff]; exact hap) ?_
        refine Rq ?_
        refine R_store ty22 (by simp (disch := first | omega | (simp only [List.length_map, List.length_append, List.length_set, List.length_cons, List.length_nil, List.length_take, List.length_drop]; omega)) only [go_sem, ↓reduceIte, Nat.reduceEqDiff, reduceCtorEq, hrw, hT, cu, hrow, hcell]; rfl) (by simp only [go_sem, ↓reduceIte, Nat.reduceEqDiff, hcs']; rfl) hg7 ⟨by simp, rfl, by simp⟩ rfl rfl ?_
        have tr : ∀ y0 y1 y4 y5 y6 y7 y8 y9 y10 y15 y19 y20 y21 y30 y31 y32 y45 z0 z1 z2 z3 z4 z5 : AV, trim [(71, z5), (70, z4), (69, z3), (68, z2), (67, z1), (66, z0), (0, y0), (1, y1), (4, y4), (5, y5), (6, y6), (7, y7), (8, y8), (9, y9), (10, y10), (15, y15), (19, y19), (20, y20), (21, y21), (30, y30), (31, y31), (32, y32), (45, y45)] [(0, y0), (1, y1), (4, y4), (5, y5), (6, y6), (7, y7), (8, y8), (9, y9), (10, y10), (15, y15), (19, y19), (20, y20), (21, y21), (30, y30), (31, y31), (32, y32), (45, y45)] = [(0, y0), (1, y1), (4, y4), (5, y5), (6, y6), (7, y7), (8, y8), (9, y9), (10, y10), (15, y15), (19, y19), (20, y20), (21, y21), (30, y30), (31, y31), (32, y32), (45, y45)] := fun y0 y1 y4 y5 y6 y7 y8 y9 y10 y15 y19 y20 y21 y30 y31 y32 y45 z0 z1 z2 z3 z4 z5 => rfl
        refine R_nil (tr _ _ _ _ _ _ _ _ _ _ _ _ _ _ _ _ _ _ _ _ _ _ _) ?_; clear tr
        refine blk_n ?_
        refine then_n ?_
        refine rg rfl ?_
        refine Rq ?_
        refine Rq ?_
        have tr : ∀ y0 y1 y4 y5 y6 y7 y8 y9 y10 y15 y19 y20 y21 y30 y31 y32 y45 z0 z1 : AV, trim [(20, z1), (72, z0), (0, y0), (1, y1), (4, y4), (5, y5), (6, y6), (7, y7), (8, y8), (9, y9), (10, y10), (15, y15), (19, y19), (20, y20), (21, y21), (30, y30), (31, y31), (32, y32), (45, y45)] [(0, y0), (1, y1), (4, y4), (5, y5), (6, y6), (7, y7), (8, y8), (9, y9), (10, y10), (15, y15), (19, y19), (20, y20), (21, y21), (30, y30), (31, y31), (32, y32), (45, y45)] = [(0, y0), (1, y1), (4, y4), (5, y5), (6, y6), (7, y7), (8, y8), (9, y9), (10, y10), (15, y15), (19, y19), (20, z1), (21, y21), (30, y30), (31, y31), (32, y32), (45, y45)] := fun y0 y1 y4 y5 y6 y7 y8 y9 y10 y15 y19 y20 y21 y30 y31 y32 y45 z0 z1 => rfl
        refine R_nil (tr _ _ _ _ _ _ _ _ _ _ _ _ _ _ _ _ _ _ _) ?_; clear tr
        refine then_n ?_
        have hO2 : OutT ((H ++ [some [AV.v (.slice none 0 0)]]) ++ [some [o']]).length ((H ++ [some [AV.v (.slice none 0 0)]]) ++ [some [o']] ++ X') o' ((mtab a b).take (u + 1)) := by
          rw [mtake_succ _ _ _ (by omega)]
          have hh := hO'.other (H ++ [some [AV.v (.slice none 0 0)]]).length (some [o']) (by simp)
          rw [hset_low _ _ _ _ (by simp), hset_app] at hh
          rw [show ((H ++ [some [AV.v (.slice none 0 0)]]) ++ [some [o']]).length = ((H ++ [some [AV.v (.slice none 0 0)]]) ++ [some [o]]).length by simp]
          exact hh
        exact ⟨_, _, ⟨u + 1, o', X', _, _, _, _, _, _, _, _, rfl, rfl, by rw [hset_low _ _ _ _ (by simp), hset_app]; rfl, by omega, by exact hO2⟩, by rfl, by omega⟩
    · try simp only [decide_eq_true_eq, decide_eq_false_iff_not, Bool.not_eq_true', Bool.not_eq_false', beq_iff_eq, beq_eq_false_iff_ne, ne_eq] at h2
      refine at_exit rfl ?_
      refine then_x ?_
      refine then_x ?_
      refine blk_x ?_
      refine then_n ?_
      refine at_seq rfl ?_
      refine rg rfl ?_
      rw [List.take_of_length_le (by rw [mtab_len]; omega)] at hO
      have hml := mtab_len a b
      rcases hO with ⟨h0, _⟩ | ⟨b0, bs, rfl, T⟩
      · exfalso; rw [h0] at hml; simp at hml; omega
      have hrl : Rect (mtab a b) (gt a 0).length := (mtab_same a b).rect fun i hi => (gl i hi).1
      have hT := T.outer
      obtain ⟨cu, hcell⟩ := tab_facts T hrl
      have hrow := T.row
      have hrl9 := hrl ((mtab a b).length - 1) (by omega)
      have hrw9 := hrow ((mtab a b).length - 1) (by omega)
      refine Rq ?_
      refine R_q rfl (by simp (disch := first | omega | (simp only [List.length_map, List.length_append, List.length_set, List.length_cons, List.length_nil, List.length_take, List.length_drop]; omega)) only [go_sem, ↓reduceIte, Nat.reduceEqDiff, reduceCtorEq, hrw, hT, cu, hrow, hcell, hp7]; rfl) ?_
      refine Rq ?_
      refine R_q rfl (by simp (disch := first | omega | (simp only [List.length_map, List.length_append, List.length_set, List.length_cons, List.length_nil, List.length_take, List.length_drop]; omega)) only [go_sem, ↓reduceIte, Nat.reduceEqDiff, reduceCtorEq, hrw, hT, cu, hrow, hcell, hp7]; rfl) ?_
      refine Rq ?_
      refine Rq ?_
      refine Rq ?_
      refine R_q rfl (by simp (disch := first | omega | (simp only [List.length_map, List.length_append, List.length_set, List.length_cons, List.length_nil, List.length_take, List.length_drop]; omega)) only [go_sem, ↓reduceIte, Nat.reduceEqDiff, reduceCtorEq, hrw, hT, cu, hrow, hcell, hp7]; rfl) ?_
      refine Rq ?_
      refine R_store ty2 (by simp (disch := first | omega | (simp only [List.length_map, List.length_append, List.length_set, List.length_cons, List.length_nil, List.length_take, List.length_drop]; omega)) only [go_sem, ↓reduceIte, Nat.reduceEqDiff, reduceCtorEq, hrw, hT, cu, hrow, hcell]; rfl) (by simp (disch := first | omega | (simp only [List.length_map, List.length_append, List.length_set, List.length_cons, List.length_nil, List.length_take, List.length_drop]; omega)) only [go_sem, ↓reduceIte, Nat.reduceEqDiff, reduceCtorEq, hrw, hT, cu, hrow, hcell]; rfl) hrw9 ⟨Nat.le_trans (by simp) (T.low _ (by omega)), rfl, by simp only [List.length_map]; omega⟩ (setL_map _ _ _) rfl ?_
      have tr : ∀ y0 y1 y4 y5 y6 y7 y8 y9 y10 y15 y19 y20 y21 y30 y31 y32 y45 z0 z1 z2 z3 z4 z5 z6 z7 z8 : AV, trim [(81, z8), (80, z7), (79, z6), (78, z5), (77, z4), (76, z3), (75, z2), (74, z1), (73, z0), (0, y0), (1, y1), (4, y4), (5, y5), (6, y6), (7, y7), (8, y8), (9, y9), (10, y10), (15, y15), (19, y19), (20, y20), (21, y21), (30, y30), (31, y31), (32, y32), (45, y45)] [(0, y0), (1, y1), (4, y4), (5, y5), (6, y6), (7, y7), (8, y8), (9, y9), (10, y10), (15, y15), (19, y19), (20, y20), (21, y21), (30, y30), (31, y31), (32, y32), (45, y45)] = [(0, y0), (1, y1), (4, y4), (5, y5), (6, y6), (7, y7), (8, y8), (9, y9), (10, y10), (15, y15), (19, y19), (20, y20), (21, y21), (30, y30), (31, y31), (32, y32), (45, y45)] := fun y0 y1 y4 y5 y6 y7 y8 y9 y10 y15 y19 y20 y21 y30 y31 y32 y45 z0 z1 z2 z3 z4 z5 z6 z7 z8 => rfl
      refine R_nil (tr _ _ _ _ _ _ _ _ _ _ _ _ _ _ _ _ _ _ _ _ _ _ _ _ _ _) ?_; clear tr
      refine then_n ?_
      refine at_seq rfl ?_
      refine rg rfl ?_
      have T9 := T.upd ((mtab a b).length - 1) 0 10000 (by omega)
      have e8 : updT (mtab a b) ((mtab a b).length - 1) 0 10000 = meanT a b := by rw [meanT, mtab_len]
      rw [e8] at T9
      have hl8 : (meanT a b).length = (mtab a b).length := by rw [← (mean_same a b (by omega)).len]; omega
      have hlo := T.low ((mtab a b).length - 1) (by omega)
      have hq0 : hget (hset ((H ++ [some [AV.v (.slice none 0 0)]]) ++ [some [AV.own 1 b0 0 (mtab a b).length]] ++ X) (bs ((mtab a b).length - 1)) (some (((gt (mtab a b) ((mtab a b).length - 1)).set 0 10000).map AV.i))) H.length = some [AV.v (.slice none 0 0)] := by
        rw [hget_set _ _ _ _ (by simp at hlo; omega), hget_low _ _ _ (by simp), hget_low _ _ _ (by simp), hget_app]; rfl
      have hp7 : hget (hset ((H ++ [some [AV.v (.slice none 0 0)]]) ++ [some [AV.own 1 b0 0 (mtab a b).length]] ++ X) (bs ((mtab a b).length - 1)) (some (((gt (mtab a b) ((mtab a b).length - 1)).set 0 10000).map AV.i))) (H ++ [some [AV.v (.slice none 0 0)]]).length = some [AV.own 1 b0 0 (mtab a b).length] := by
        rw [hget_set _ _ _ _ (by simp at hlo ⊢; omega), hget_low _ _ _ (by simp), hget_app]; rfl
      have hq1 := hget_lt hq0
      refine R_q rfl (by simp (disch := first | omega | (simp only [List.length_map, List.length_append, List.length_set, List.length_cons, List.length_nil, List.length_take, List.length_drop]; omega)) only [go_sem, ↓reduceIte, Nat.reduceEqDiff, reduceCtorEq, hrw, hT, cu, hrow, hcell, hp7]; rfl) ?_
      refine R_store ty24 (by simp (disch := first | omega | (simp only [List.length_map, List.length_append, List.length_set, List.length_cons, List.length_nil, List.length_take, List.length_drop]; omega)) only [go_sem, ↓reduceIte, Nat.reduceEqDiff, reduceCtorEq]; rfl) (by simp (disch := first | omega | (simp only [List.length_map, List.length_append, List.length_set, List.length_cons, List.length_nil, List.length_take, List.length_drop]; omega)) only [go_sem, ↓reduceIte, Nat.reduceEqDiff, reduceCtorEq]; rfl) hq0 (by simp) (by rfl) (by rfl) ?_
      refine Rq ?_
      have tr : ∀ y0 y1 y4 y5 y6 y7 y8 y9 y10 y15 y19 y20 y21 y30 y31 y32 y45 z0 z1 : AV, trim [(5, z1), (82, z0), (0, y0), (1, y1), (4, y4), (5, y5), (6, y6), (7, y7), (8, y8), (9, y9), (10, y10), (15, y15), (19, y19), (20, y20), (21, y21), (30, y30), (31, y31), (32, y32), (45, y45)] [(0, y0), (1, y1), (4, y4), (5, y5), (6, y6), (7, y7), (8, y8), (9, y9), (10, y10), (15, y15), (19, y19), (20, y20), (21, y21), (30, y30), (31, y31), (32, y32), (45, y45)] = [(0, y0), (1, y1), (4, y4), (5, z1), (6, y6), (7, y7), (8, y8), (9, y9), (10, y10), (15, y15), (19, y19), (20, y20), (21, y21), (30, y30), (31, y31), (32, y32), (45, y45)] := fun y0 y1 y4 y5 y6 y7 y8 y9 y10 y15 y19 y20 y21 y30 y31 y32 y45 z0 z1 => rfl
      refine R_nil (tr _ _ _ _ _ _ _ _ _ _ _ _ _ _ _ _ _ _ _) ?_; clear tr
      refine then_n ?_
      refine at_ret rfl ?_
      have hfr := (T9.other H.length (some [AV.own 1 b0 0 (mtab a b).length]) (by simp)).frz H.length 3 (by simp)
      rw [hl8] at hfr
      refine fin_pure (rs := [.cell 4 24, .tmp 5]) rfl (l := [.agg [.own 1 b0 0 (mtab a b).length], AV.i 0]) (by simp only [go_sem, ↓reduceIte, Nat.reduceEqDiff, hget_set_self _ _ _ hq1]; rfl) (by simp only [go_sem, hfr]; rfl) ?_
      exact ⟨rfl, by rw [meanAV, if_pos h1, h1]⟩

end Go.Proofs.Ytdkhgpdojjdadaa
