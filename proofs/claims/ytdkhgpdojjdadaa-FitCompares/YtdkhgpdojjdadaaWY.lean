/-
  Walks of chapter 38. The steps are written by program (walk.py).
-/
import Derived.Test.YtdkhgpdojjdadaaWX
set_option linter.unusedSimpArgs false
set_option linter.unusedVariables false
set_option maxHeartbeats 40000000
set_option maxRecDepth 4000
namespace Go.Proofs.Ytdkhgpdojjdadaa
open Go Go.Am

def rowC (x y : List Int) : Nat → Int × Int
  | 0 => (0, 0)
  | w + 1 => ((rowC x y w).1 + (if gt x w = gt y w then 0 else 1), (rowC x y w).2 + (max (gt x w) (gt y w) - min (gt x w) (gt y w)))
def tabC (a b : Tb) : Nat → Int × Int
  | 0 => (0, 0)
  | u + 1 => ((tabC a b u).1 + (rowC (gt a u) (gt b u) (gt a u).length).1, (tabC a b u).2 + (rowC (gt a u) (gt b u) (gt a u).length).2)
open Classical in
noncomputable def raisedS (a b : Tb) : Int × Int := if Alike a b then tabC a b a.length else (0, 0)

theorem raised_ok (lim : Nat) (H : Heap) (a b : Tb) :
    ACall sig lim 21 [.agg [rowsAV a], .agg [rowsAV b]] H fun r H' => r = .tup [AV.i (raisedS a b).1, AV.i (raisedS a b).2] ∧ H' = H := by
  refine ACall_pure (fa := fa21) rfl rfl rfl rfl ?_
  have tr : ∀ a0 a1 : AV, env0 fa21.keep [a0, a1] = [(0, a0), (1, a1), (2, .any), (3, .any), (4, .any), (5, .any), (6, .any), (7, .any), (8, .any), (9, .any), (10, .any), (11, .any), (12, .any), (16, .any), (18, .any), (19, .any), (20, .any), (21, .any), (25, .any), (26, .any), (27, .any), (28, .any), (43, .any)] := fun a0 a1 => rfl
  refine W_to (tr _ _) ?_; clear tr
  refine at_seq rfl ?_
  refine rg rfl ?_
  refine R_box rfl (by simp (disch := first | omega | (simp only [List.length_map, List.length_append, List.length_set, List.length_cons, List.length_nil, List.length_take, List.length_drop]; omega)) only [go_sem, ↓reduceIte, Nat.reduceEqDiff, reduceCtorEq]; rfl) rfl rfl ?_
  refine R_box rfl (by simp (disch := first | omega | (simp only [List.length_map, List.length_append, List.length_set, List.length_cons, List.length_nil, List.length_take, List.length_drop]; omega)) only [go_sem, ↓reduceIte, Nat.reduceEqDiff, reduceCtorEq]; rfl) rfl rfl ?_
  refine Rq ?_
  refine Rq ?_
  have tr : ∀ y0 y1 y2 y3 y4 y5 y6 y7 y8 y9 y10 y11 y12 y16 y18 y19 y20 y21 y25 y26 y27 y28 y43 z0 z1 z2 z3 : AV, trim [(5, z3), (4, z2), (3, z1), (2, z0), (0, y0), (1, y1), (2, y2), (3, y3), (4, y4), (5, y5), (6, y6), (7, y7), (8, y8), (9, y9), (10, y10), (11, y11), (12, y12), (16, y16), (18, y18), (19, y19), (20, y20), (21, y21), (25, y25), (26, y26), (27, y27), (28, y28), (43, y43)] [(0, y0), (1, y1), (2, y2), (3, y3), (4, y4), (5, y5), (6, y6), (7, y7), (8, y8), (9, y9), (10, y10), (11, y11), (12, y12), (16, y16), (18, y18), (19, y19), (20, y20), (21, y21), (25, y25), (26, y26), (27, y27), (28, y28), (43, y43)] = [(0, y0), (1, y1), (2, z0), (3, z1), (4, z2), (5, z3), (6, y6), (7, y7), (8, y8), (9, y9), (10, y10), (11, y11), (12, y12), (16, y16), (18, y18), (19, y19), (20, y20), (21, y21), (25, y25), (26, y26), (27, y27), (28, y28), (43, y43)] := fun y0 y1 y2 y3 y4 y5 y6 y7 y8 y9 y10 y11 y12 y16 y18 y19 y20 y21 y25 y26 y27 y28 y43 z0 z1 z2 z3 => rfl
  refine R_nil (tr _ _ _ _ _ _ _ _ _ _ _ _ _ _ _ _ _ _ _ _ _ _ _ _ _ _ _) ?_; clear tr
  refine then_n ?_
  refine at_seq rfl ?_
  refine at_seq rfl ?_
  refine rg rfl ?_
  refine Rq ?_
  refine Rq ?_
  refine Rcall ?_
  refine ACall_eq (alike_ok _ _ a b) ?_
  refine Rq ?_
  have tr : ∀ y0 y1 y2 y3 y4 y5 y6 y7 y8 y9 y10 y11 y12 y16 y18 y19 y20 y21 y25 y26 y27 y28 y43 z0 z1 z2 z3 : AV, trim [(16, z3), (15, z2), (14, z1), (13, z0), (0, y0), (1, y1), (2, y2), (3, y3), (4, y4), (5, y5), (6, y6), (7, y7), (8, y8), (9, y9), (10, y10), (11, y11), (12, y12), (16, y16), (18, y18), (19, y19), (20, y20), (21, y21), (25, y25), (26, y26), (27, y27), (28, y28), (43, y43)] [(0, y0), (1, y1), (2, y2), (3, y3), (4, y4), (5, y5), (6, y6), (7, y7), (8, y8), (9, y9), (10, y10), (11, y11), (12, y12), (16, y16), (18, y18), (19, y19), (20, y20), (21, y21), (25, y25), (26, y26), (27, y27), (28, y28), (43, y43)] = [(0, y0), (1, y1), (2, y2), (3, y3), (4, y4), (5, y5), (6, y6), (7, y7), (8, y8), (9, y9), (10, y10), (11, y11), (12, y12), (16, z3), (18, y18), (19, y19), (20, y20), (21, y21), (25, y25), (26, y26), (27, y27), (28, y28), (43, y43)] := fun y0 y1 y2 y3 y4 y5 y6 y7 y8 y9 y10 y11 y12 y16 y18 y19 y20 y21 y25 y26 y27 y28 y43 z0 z1 z2 z3 => rfl
  refine R_nil (tr _ _ _ _ _ _ _ _ _ _ _ _ _ _ _ _ _ _ _ _ _ _ _ _ _ _ _) ?_; clear tr
  refine then_n ?_
  refine cdd (fun h1 => ?_) (fun h1 => ?_)
  · try simp only [decide_eq_true_eq, decide_eq_false_iff_not, Bool.not_eq_true', Bool.not_eq_false', beq_iff_eq, beq_eq_false_iff_ne, ne_eq] at h1
    refine at_seq rfl ?_
    refine rg rfl ?_
    refine Rq ?_
    refine Rq ?_
    have tr : ∀ y0 y1 y2 y3 y4 y5 y6 y7 y8 y9 y10 y11 y12 y16 y18 y19 y20 y21 y25 y26 y27 y28 y43 z0 z1 : AV, trim [(5, z1), (4, z0), (0, y0), (1, y1), (2, y2), (3, y3), (4, y4), (5, y5), (6, y6), (7, y7), (8, y8), (9, y9), (10, y10), (11, y11), (12, y12), (16, y16), (18, y18), (19, y19), (20, y20), (21, y21), (25, y25), (26, y26), (27, y27), (28, y28), (43, y43)] [(0, y0), (1, y1), (2, y2), (3, y3), (4, y4), (5, y5), (6, y6), (7, y7), (8, y8), (9, y9), (10, y10), (11, y11), (12, y12), (16, y16), (18, y18), (19, y19), (20, y20), (21, y21), (25, y25), (26, y26), (27, y27), (28, y28), (43, y43)] = [(0, y0), (1, y1), (2, y2), (3, y3), (4, z0), (5, z1), (6, y6), (7, y7), (8, y8), (9, y9), (10, y10), (11, y11), (12, y12), (16, y16), (18, y18), (19, y19), (20, y20), (21, y21), (25, y25), (26, y26), (27, y27), (28, y28), (43, y43)] := fun y0 y1 y2 y3 y4 y5 y6 y7 y8 y9 y10 y11 y12 y16 y18 y19 y20 y21 y25 y26 y27 y28 y43 z0 z1 => rfl
    refine R_nil (tr _ _ _ _ _ _ _ _ _ _ _ _ _ _ _ _ _ _ _ _ _ _ _ _ _) ?_; clear tr
    refine then_n ?_
    refine at_ret rfl ?_
    refine then_r ?_
    refine fpure ?_
    refine ⟨?_, rfl⟩
    rw [raisedS, if_neg (of_alikeB_f (by assumption))]
  · try simp only [decide_eq_true_eq, decide_eq_false_iff_not, Bool.not_eq_true', Bool.not_eq_false', beq_iff_eq, beq_eq_false_iff_ne, ne_eq] at h1
    refine at_skip rfl ?_
    refine then_n ?_
    refine at_seq rfl ?_
    refine rg rfl ?_
    have hal := of_alikeB (by assumption)
    obtain ⟨ha, hb, hl, hl0⟩ := id hal
    obtain ⟨a2, a91, a1, a10, al, ar⟩ := shaped_of ha
    obtain ⟨b2, b91, b1, b10, bl, br⟩ := shaped_of hb
    refine Rq ?_
    refine Rq ?_
    have tr : ∀ y0 y1 y2 y3 y4 y5 y6 y7 y8 y9 y10 y11 y12 y16 y18 y19 y20 y21 y25 y26 y27 y28 y43 z0 z1 : AV, trim [(7, z1), (6, z0), (0, y0), (1, y1), (2, y2), (3, y3), (4, y4), (5, y5), (6, y6), (7, y7), (8, y8), (9, y9), (10, y10), (11, y11), (12, y12), (16, y16), (18, y18), (19, y19), (20, y20), (21, y21), (25, y25), (26, y26), (27, y27), (28, y28), (43, y43)] [(0, y0), (1, y1), (2, y2), (3, y3), (4, y4), (5, y5), (6, y6), (7, y7), (8, y8), (9, y9), (10, y10), (11, y11), (12, y12), (16, y16), (18, y18), (19, y19), (20, y20), (21, y21), (25, y25), (26, y26), (27, y27), (28, y28), (43, y43)] = [(0, y0), (1, y1), (2, y2), (3, y3), (4, y4), (5, y5), (6, z0), (7, z1), (8, y8), (9, y9), (10, y10), (11, y11), (12, y12), (16, y16), (18, y18), (19, y19), (20, y20), (21, y21), (25, y25), (26, y26), (27, y27), (28, y28), (43, y43)] := fun y0 y1 y2 y3 y4 y5 y6 y7 y8 y9 y10 y11 y12 y16 y18 y19 y20 y21 y25 y26 y27 y28 y43 z0 z1 => rfl
    refine R_nil (tr _ _ _ _ _ _ _ _ _ _ _ _ _ _ _ _ _ _ _ _ _ _ _ _ _) ?_; clear tr
    refine then_n ?_
    refine at_seq rfl ?_
    refine at_seq rfl ?_
    refine rg rfl ?_
    refine Rq ?_
    refine Rq ?_
    refine Rq ?_
    refine Rq ?_
    have tr : ∀ y0 y1 y2 y3 y4 y5 y6 y7 y8 y9 y10 y11 y12 y16 y18 y19 y20 y21 y25 y26 y27 y28 y43 z0 z1 z2 z3 : AV, trim [(20, z3), (19, z2), (18, z1), (17, z0), (0, y0), (1, y1), (2, y2), (3, y3), (4, y4), (5, y5), (6, y6), (7, y7), (8, y8), (9, y9), (10, y10), (11, y11), (12, y12), (16, y16), (18, y18), (19, y19), (20, y20), (21, y21), (25, y25), (26, y26), (27, y27), (28, y28), (43, y43)] [(0, y0), (1, y1), (2, y2), (3, y3), (4, y4), (5, y5), (6, y6), (7, y7), (8, y8), (9, y9), (10, y10), (11, y11), (12, y12), (16, y16), (18, y18), (19, y19), (20, y20), (21, y21), (25, y25), (26, y26), (27, y27), (28, y28), (43, y43)] = [(0, y0), (1, y1), (2, y2), (3, y3), (4, y4), (5, y5), (6, y6), (7, y7), (8, y8), (9, y9), (10, y10), (11, y11), (12, y12), (16, y16), (18, z1), (19, z2), (20, z3), (21, y21), (25, y25), (26, y26), (27, y27), (28, y28), (43, y43)] := fun y0 y1 y2 y3 y4 y5 y6 y7 y8 y9 y10 y11 y12 y16 y18 y19 y20 y21 y25 y26 y27 y28 y43 z0 z1 z2 z3 => rfl
    refine R_nil (tr _ _ _ _ _ _ _ _ _ _ _ _ _ _ _ _ _ _ _ _ _ _ _ _ _ _ _) ?_; clear tr
    refine then_n ?_
    refine at_block rfl ?_
    refine loop_n rfl (fun mm kv H' => ∃ u : Nat, ∃ n : Int, ∃ m : Int, ∃ x8 x9 x10 x11 x12 x21 x25 x26 x27 x28 x43 : AV, (kv = [(6, AV.i n), (7, AV.i m), (8, x8), (9, x9), (10, x10), (11, x11), (12, x12), (20, AV.i u), (21, x21), (25, x25), (26, x26), (27, x27), (28, x28), (43, x43)]) ∧ (mm = a.length - u) ∧ (H' = H ++ [some [rowsAV a]] ++ [some [rowsAV b]]) ∧ (u ≤ a.length) ∧ (n = (tabC a b u).1) ∧ (m = (tabC a b u).2) ∧ (0 ≤ n ∧ n ≤ 10 * (u : Int)) ∧ (0 ≤ m ∧ m ≤ 100000 * (u : Int))) ⟨0, 0, 0, _, _, _, _, _, _, _, _, _, _, _, rfl, rfl, rfl, by omega, by rfl, by rfl, by omega, by omega⟩ (by rfl) ?_
    rintro mm kv H' ⟨u, n, m, x8, x9, x10, x11, x12, x21, x25, x26, x27, x28, x43, rfl, rfl, rfl, hu, hn, hm, hnb, hmb⟩
    have tr : ∀ y0 y1 y2 y3 y4 y5 y6 y7 y8 y9 y10 y11 y12 y16 y18 y19 y20 y21 y25 y26 y27 y28 y43 z6 z7 z8 z9 z10 z11 z12 z20 z21 z25 z26 z27 z28 z43 : AV, upd [(0, y0), (1, y1), (2, y2), (3, y3), (4, y4), (5, y5), (6, y6), (7, y7), (8, y8), (9, y9), (10, y10), (11, y11), (12, y12), (16, y16), (18, y18), (19, y19), (20, y20), (21, y21), (25, y25), (26, y26), (27, y27), (28, y28), (43, y43)] [(6, z6), (7, z7), (8, z8), (9, z9), (10, z10), (11, z11), (12, z12), (20, z20), (21, z21), (25, z25), (26, z26), (27, z27), (28, z28), (43, z43)] = [(0, y0), (1, y1), (2, y2), (3, y3), (4, y4), (5, y5), (6, z6), (7, z7), (8, z8), (9, z9), (10, z10), (11, z11), (12, z12), (16, y16), (18, y18), (19, y19), (20, z20), (21, z21), (25, z25), (26, z26), (27, z27), (28, z28), (43, z43)] := fun y0 y1 y2 y3 y4 y5 y6 y7 y8 y9 y10 y11 y12 y16 y18 y19 y20 y21 y25 y26 y27 y28 y43 z6 z7 z8 z9 z10 z11 z12 z20 z21 z25 z26 z27 z28 z43 => rfl
    refine W_to (tr _ _ _ _ _ _ _ _ _ _ _ _ _ _ _ _ _ _ _ _ _ _ _ _ _ _ _ _ _ _ _ _ _ _ _ _ _) ?_; clear tr
    refine at_seq rfl ?_
    refine rg rfl ?_
    refine Rq ?_
    have tr : ∀ y0 y1 y2 y3 y4 y5 y6 y7 y8 y9 y10 y11 y12 y16 y18 y19 y20 y21 y25 y26 y27 y28 y43 z0 : AV, trim [(21, z0), (0, y0), (1, y1), (2, y2), (3, y3), (4, y4), (5, y5), (6, y6), (7, y7), (8, y8), (9, y9), (10, y10), (11, y11), (12, y12), (16, y16), (18, y18), (19, y19), (20, y20), (21, y21), (25, y25), (26, y26), (27, y27), (28, y28), (43, y43)] [(0, y0), (1, y1), (2, y2), (3, y3), (4, y4), (5, y5), (6, y6), (7, y7), (8, y8), (9, y9), (10, y10), (11, y11), (12, y12), (16, y16), (18, y18), (19, y19), (20, y20), (21, y21), (25, y25), (26, y26), (27, y27), (28, y28), (43, y43)] = [(0, y0), (1, y1), (2, y2), (3, y3), (4, y4), (5, y5), (6, y6), (7, y7), (8, y8), (9, y9), (10, y10), (11, y11), (12, y12), (16, y16), (18, y18), (19, y19), (20, y20), (21, z0), (25, y25), (26, y26), (27, y27), (28, y28), (43, y43)] := fun y0 y1 y2 y3 y4 y5 y6 y7 y8 y9 y10 y11 y12 y16 y18 y19 y20 y21 y25 y26 y27 y28 y43 z0 => rfl
    refine R_nil (tr _ _ _ _ _ _ _ _ _ _ _ _ _ _ _ _ _ _ _ _ _ _ _ _) ?_; clear tr
    refine then_n ?_
    refine at_seq rfl ?_
    refine cdd (fun h2 => ?_) (fun h2 => ?_)
    · try simp only [decide_eq_true_eq, decide_eq_false_iff_not, Bool.not_eq_true', Bool.not_eq_false', beq_iff_eq, beq_eq_false_iff_ne, ne_eq] at h2
      refine at_skip rfl ?_
      refine then_n ?_
      refine at_seq rfl ?_
      refine at_block rfl ?_
      refine at_seq rfl ?_
      refine rg rfl ?_
      refine Rq ?_
      refine Rq ?_
      refine Rq ?_
      refine Rq ?_
      refine Rq ?_
      have tr : ∀ y0 y1 y2 y3 y4 y5 y6 y7 y8 y9 y10 y11 y12 y16 y18 y19 y20 y21 y25 y26 y27 y28 y43 z0 z1 z2 z3 z4 : AV, trim [(9, z4), (8, z3), (24, z2), (23, z1), (22, z0), (0, y0), (1, y1), (2, y2), (3, y3), (4, y4), (5, y5), (6, y6), (7, y7), (8, y8), (9, y9), (10, y10), (11, y11), (12, y12), (16, y16), (18, y18), (19, y19), (20, y20), (21, y21), (25, y25), (26, y26), (27, y27), (28, y28), (43, y43)] [(0, y0), (1, y1), (2, y2), (3, y3), (4, y4), (5, y5), (6, y6), (7, y7), (8, y8), (9, y9), (10, y10), (11, y11), (12, y12), (16, y16), (18, y18), (19, y19), (20, y20), (21, y21), (25, y25), (26, y26), (27, y27), (28, y28), (43, y43)] = [(0, y0), (1, y1), (2, y2), (3, y3), (4, y4), (5, y5), (6, y6), (7, y7), (8, z3), (9, z4), (10, y10), (11, y11), (12, y12), (16, y16), (18, y18), (19, y19), (20, y20), (21, y21), (25, y25), (26, y26), (27, y27), (28, y28), (43, y43)] := fun y0 y1 y2 y3 y4 y5 y6 y7 y8 y9 y10 y11 y12 y16 y18 y19 y20 y21 y25 y26 y27 y28 y43 z0 z1 z2 z3 z4 => rfl
      refine R_nil (tr _ _ _ _ _ _ _ _ _ _ _ _ _ _ _ _ _ _ _ _ _ _ _ _ _ _ _ _) ?_; clear tr
      refine then_n ?_
      refine at_seq rfl ?_
      refine rg rfl ?_
      have hau := al u (by omega)
      have hbu := bl u (by omega)
      refine Rq ?_
      refine Rq ?_
      refine Rq ?_
      have tr : ∀ y0 y1 y2 y3 y4 y5 y6 y7 y8 y9 y10 y11 y12 y16 y18 y19 y20 y21 y25 y26 y27 y28 y43 z0 z1 z2 : AV, trim [(27, z2), (26, z1), (25, z0), (0, y0), (1, y1), (2, y2), (3, y3), (4, y4), (5, y5), (6, y6), (7, y7), (8, y8), (9, y9), (10, y10), (11, y11), (12, y12), (16, y16), (18, y18), (19, y19), (20, y20), (21, y21), (25, y25), (26, y26), (27, y27), (28, y28), (43, y43)] [(0, y0), (1, y1), (2, y2), (3, y3), (4, y4), (5, y5), (6, y6), (7, y7), (8, y8), (9, y9), (10, y10), (11, y11), (12, y12), (16, y16), (18, y18), (19, y19), (20, y20), (21, y21), (25, y25), (26, y26), (27, y27), (28, y28), (43, y43)] = [(0, y0), (1, y1), (2, y2), (3, y3), (4, y4), (5, y5), (6, y6), (7, y7), (8, y8), (9, y9), (10, y10), (11, y11), (12, y12), (16, y16), (18, y18), (19, y19), (20, y20), (21, y21), (25, z0), (26, z1), (27, z2), (28, y28), (43, y43)] := fun y0 y1 y2 y3 y4 y5 y6 y7 y8 y9 y10 y11 y12 y16 y18 y19 y20 y21 y25 y26 y27 y28 y43 z0 z1 z2 => rfl
      refine R_nil (tr _ _ _ _ _ _ _ _ _ _ _ _ _ _ _ _ _ _ _ _ _ _ _ _ _ _) ?_; clear tr
      refine then_n ?_
      refine at_block rfl ?_
      refine loop_n rfl (fun mm kv H' => ∃ w : Nat, ∃ n1 : Int, ∃ m1 : Int, ∃ x10 x11 x12 x28 x43 : AV, (kv = [(6, AV.i n1), (7, AV.i m1), (10, x10), (11, x11), (12, x12), (27, AV.i w), (28, x28), (43, x43)]) ∧ (mm = (gt a u).length - w) ∧ (H' = H ++ [some [rowsAV a]] ++ [some [rowsAV b]]) ∧ (w ≤ (gt a u).length) ∧ (n1 = n + (rowC (gt a u) (gt b u) w).1) ∧ (m1 = m + (rowC (gt a u) (gt b u) w).2) ∧ (0 ≤ n1 ∧ n1 ≤ 10 * (u : Int) + w) ∧ (0 ≤ m1 ∧ m1 ≤ 100000 * (u : Int) + 10000 * (w : Int))) ⟨0, n, m, _, _, _, _, _, rfl, rfl, rfl, by omega, by simp [rowC], by simp [rowC], by omega, by omega⟩ (by rfl) ?_
      rintro mm kv H' ⟨w, n1, m1, x10, x11, x12, x28, x43, rfl, rfl, rfl, hw, hn1, hm1, hn1b, hm1b⟩
      have tr : ∀ y0 y1 y2 y3 y4 y5 y6 y7 y8 y9 y10 y11 y12 y16 y18 y19 y20 y21 y25 y26 y27 y28 y43 z6 z7 z10 z11 z12 z27 z28 z43 : AV, upd [(0, y0), (1, y1), (2, y2), (3, y3), (4, y4), (5, y5), (6, y6), (7, y7), (8, y8), (9, y9), (10, y10), (11, y11), (12, y12), (16, y16), (18, y18), (19, y19), (20, y20), (21, y21), (25, y25), (26, y26), (27, y27), (28, y28), (43, y43)] [(6, z6), (7, z7), (10, z10), (11, z11), (12, z12), (27, z27), (28, z28), (43, z43)] = [(0, y0), (1, y1), (2, y2), (3, y3), (4, y4), (5, y5), (6, z6), (7, z7), (8, y8), (9, y9), (10, z10), (11, z11), (12, z12), (16, y16), (18, y18), (19, y19), (20, y20), (21, y21), (25, y25), (26, y26), (27, z27), (28, z28), (43, z43)] := fun y0 y1 y2 y3 y4 y5 y6 y7 y8 y9 y10 y11 y12 y16 y18 y19 y20 y21 y25 y26 y27 y28 y43 z6 z7 z10 z11 z12 z27 z28 z43 => rfl
      refine W_to (tr _ _ _ _ _ _ _ _ _ _ _ _ _ _ _ _ _ _ _ _ _ _ _ _ _ _ _ _ _ _ _) ?_; clear tr
      refine at_seq rfl ?_
      refine rg rfl ?_
      refine Rq ?_
      have tr : ∀ y0 y1 y2 y3 y4 y5 y6 y7 y8 y9 y10 y11 y12 y16 y18 y19 y20 y21 y25 y26 y27 y28 y43 z0 : AV, trim [(28, z0), (0, y0), (1, y1), (2, y2), (3, y3), (4, y4), (5, y5), (6, y6), (7, y7), (8, y8), (9, y9), (10, y10), (11, y11), (12, y12), (16, y16), (18, y18), (19, y19), (20, y20), (21, y21), (25, y25), (26, y26), (27, y27), (28, y28), (43, y43)] [(0, y0), (1, y1), (2, y2), (3, y3), (4, y4), (5, y5), (6, y6), (7, y7), (8, y8), (9, y9), (10, y10), (11, y11), (12, y12), (16, y16), (18, y18), (19, y19), (20, y20), (21, y21), (25, y25), (26, y26), (27, y27), (28, y28), (43, y43)] = [(0, y0), (1, y1), (2, y2), (3, y3), (4, y4), (5, y5), (6, y6), (7, y7), (8, y8), (9, y9), (10, y10), (11, y11), (12, y12), (16, y16), (18, y18), (19, y19), (20, y20), (21, y21), (25, y25), (26, y26), (27, y27), (28, z0), (43, y43)] := fun y0 y1 y2 y3 y4 y5 y6 y7 y8 y9 y10 y11 y12 y16 y18 y19 y20 y21 y25 y26 y27 y28 y43 z0 => rfl
      refine R_nil (tr _ _ _ _ _ _ _ _ _ _ _ _ _ _ _ _ _ _ _ _ _ _ _ _) ?_; clear tr
      refine then_n ?_
      refine at_seq rfl ?_
      refine cdd (fun h3 => ?_) (fun h3 => ?_)
      · try simp only [decide_eq_true_eq, decide_eq_false_iff_not, Bool.not_eq_true', Bool.not_eq_false', beq_iff_eq, beq_eq_false_iff_ne, ne_eq] at h3
        refine at_skip rfl ?_
        refine then_n ?_
        refine at_seq rfl ?_
        refine at_block rfl ?_
        refine at_seq rfl ?_
        refine rg rfl ?_
        refine Rq ?_
        refine Rq ?_
        refine Rq ?_
        refine Rq ?_
        refine Rq ?_
        have tr : ∀ y0 y1 y2 y3 y4 y5 y6 y7 y8 y9 y10 y11 y12 y16 y18 y19 y20 y21 y25 y26 y27 y28 y43 z0 z1 z2 z3 z4 : AV, trim [(11, z4), (10, z3), (31, z2), (30, z1), (29, z0), (0, y0), (1, y1), (2, y2), (3, y3), (4, y4), (5, y5), (6, y6), (7, y7), (8, y8), (9, y9), (10, y10), (11, y11), (12, y12), (16, y16), (18, y18), (19, y19), (20, y20), (21, y21), (25, y25), (26, y26), (27, y27), (28, y28), (43, y43)] [(0, y0), (1, y1), (2, y2), (3, y3), (4, y4), (5, y5), (6, y6), (7, y7), (8, y8), (9, y9), (10, y10), (11, y11), (12, y12), (16, y16), (18, y18), (19, y19), (20, y20), (21, y21), (25, y25), (26, y26), (27, y27), (28, y28), (43, y43)] = [(0, y0), (1, y1), (2, y2), (3, y3), (4, y4), (5, y5), (6, y6), (7, y7), (8, y8), (9, y9), (10, z3), (11, z4), (12, y12), (16, y16), (18, y18), (19, y19), (20, y20), (21, y21), (25, y25), (26, y26), (27, y27), (28, y28), (43, y43)] := fun y0 y1 y2 y3 y4 y5 y6 y7 y8 y9 y10 y11 y12 y16 y18 y19 y20 y21 y25 y26 y27 y28 y43 z0 z1 z2 z3 z4 => rfl
        refine R_nil (tr _ _ _ _ _ _ _ _ _ _ _ _ _ _ _ _ _ _ _ _ _ _ _ _ _ _ _ _) ?_; clear tr
        refine then_n ?_
        refine at_seq rfl ?_
        refine rg rfl ?_
        have ra : 0 ≤ gt (gt a u) w ∧ gt (gt a u) w ≤ 10000 := ar u (by omega) w (by omega)
        have rb : 0 ≤ gt (gt b u) w ∧ gt (gt b u) w ≤ 10000 := br u (by omega) w (by omega)
        refine Rq ?_
        refine Rq ?_
        refine Rq ?_
        refine Rq ?_
        refine Rq ?_
        refine Rq ?_
        refine Rq ?_
        refine Rq ?_
        refine Rq ?_
        refine Rq ?_
        refine Rq ?_
        have tr : ∀ y0 y1 y2 y3 y4 y5 y6 y7 y8 y9 y10 y11 y12 y16 y18 y19 y20 y21 y25 y26 y27 y28 y43 z0 z1 z2 z3 z4 z5 z6 z7 z8 z9 z10 : AV, trim [(12, z10), (41, z9), (40, z8), (39, z7), (38, z6), (37, z5), (36, z4), (35, z3), (34, z2), (33, z1), (32, z0), (0, y0), (1, y1), (2, y2), (3, y3), (4, y4), (5, y5), (6, y6), (7, y7), (8, y8), (9, y9), (10, y10), (11, y11), (12, y12), (16, y16), (18, y18), (19, y19), (20, y20), (21, y21), (25, y25), (26, y26), (27, y27), (28, y28), (43, y43)] [(0, y0), (1, y1), (2, y2), (3, y3), (4, y4), (5, y5), (6, y6), (7, y7), (8, y8), (9, y9), (10, y10), (11, y11), (12, y12), (16, y16), (18, y18), (19, y19), (20, y20), (21, y21), (25, y25), (26, y26), (27, y27), (28, y28), (43, y43)] = [(0, y0), (1, y1), (2, y2), (3, y3), (4, y4), (5, y5), (6, y6), (7, y7), (8, y8), (9, y9), (10, y10), (11, y11), (12, z10), (16, y16), (18, y18), (19, y19), (20, y20), (21, y21), (25, y25), (26, y26), (27, y27), (28, y28), (43, y43)] := fun y0 y1 y2 y3 y4 y5 y6 y7 y8 y9 y10 y11 y12 y16 y18 y19 y20 y21 y25 y26 y27 y28 y43 z0 z1 z2 z3 z4 z5 z6 z7 z8 z9 z10 => rfl
        refine R_nil (tr _ _ _ _ _ _ _ _ _ _ _ _ _ _ _ _ _ _ _ _ _ _ _ _ _ _ _ _ _ _ _ _ _ _) ?_; clear tr
        refine then_n ?_
        refine at_seq rfl ?_
        refine rg rfl ?_
        refine Rq ?_
        refine Rq ?_
        have tr : ∀ y0 y1 y2 y3 y4 y5 y6 y7 y8 y9 y10 y11 y12 y16 y18 y19 y20 y21 y25 y26 y27 y28 y43 z0 z1 : AV, trim [(43, z1), (42, z0), (0, y0), (1, y1), (2, y2), (3, y3), (4, y4), (5, y5), (6, y6), (7, y7), (8, y8), (9, y9), (10, y10), (11, y11), (12, y12), (16, y16), (18, y18), (19, y19), (20, y20), (21, y21), (25, y25), (26, y26), (27, y27), (28, y28), (43, y43)] [(0, y0), (1, y1), (2, y2), (3, y3), (4, y4), (5, y5), (6, y6), (7, y7), (8, y8), (9, y9), (10, y10), (11, y11), (12, y12), (16, y16), (18, y18), (19, y19), (20, y20), (21, y21), (25, y25), (26, y26), (27, y27), (28, y28), (43, y43)] = [(0, y0), (1, y1), (2, y2), (3, y3), (4, y4), (5, y5), (6, y6), (7, y7), (8, y8), (9, y9), (10, y10), (11, y11), (12, y12), (16, y16), (18, y18), (19, y19), (20, y20), (21, y21), (25, y25), (26, y26), (27, y27), (28, y28), (43, z1)] := fun y0 y1 y2 y3 y4 y5 y6 y7 y8 y9 y10 y11 y12 y16 y18 y19 y20 y21 y25 y26 y27 y28 y43 z0 z1 => rfl
        refine R_nil (tr _ _ _ _ _ _ _ _ _ _ _ _ _ _ _ _ _ _ _ _ _ _ _ _ _) ?_; clear tr
        refine then_n ?_
        refine cdd (fun h4 => ?_) (fun h4 => ?_)
        · try simp only [decide_eq_true_eq, decide_eq_false_iff_not, Bool.not_eq_true', Bool.not_eq_false', beq_iff_eq, beq_eq_false_iff_ne, ne_eq] at h4
          refine at_seq rfl ?_
          refine rg rfl ?_
          refine Rq ?_
          refine Rq ?_
          refine Rq ?_
          have tr : ∀ y0 y1 y2 y3 y4 y5 y6 y7 y8 y9 y10 y11 y12 y16 y18 y19 y20 y21 y25 y26 y27 y28 y43 z0 z1 z2 : AV, trim [(6, z2), (45, z1), (44, z0), (0, y0), (1, y1), (2, y2), (3, y3), (4, y4), (5, y5), (6, y6), (7, y7), (8, y8), (9, y9), (10, y10), (11, y11), (12, y12), (16, y16), (18, y18), (19, y19), (20, y20), (21, y21), (25, y25), (26, y26), (27, y27), (28, y28), (43, y43)] [(0, y0), (1, y1), (2, y2), (3, y3), (4, y4), (5, y5), (6, y6), (7, y7), (8, y8), (9, y9), (10, y10), (11, y11), (12, y12), (16, y16), (18, y18), (19, y19), (20, y20), (21, y21), (25, y25), (26, y26), (27, y27), (28, y28), (43, y43)] = [(0, y0), (1, y1), (2, y2), (3, y3), (4, y4), (5, y5), (6, z2), (7, y7), (8, y8), (9, y9), (10, y10), (11, y11), (12, y12), (16, y16), (18, y18), (19, y19), (20, y20), (21, y21), (25, y25), (26, y26), (27, y27), (28, y28), (43, y43)] := fun y0 y1 y2 y3 y4 y5 y6 y7 y8 y9 y10 y11 y12 y16 y18 y19 y20 y21 y25 y26 y27 y28 y43 z0 z1 z2 => rfl
          refine R_nil (tr _ _ _ _ _ _ _ _ _ _ _ _ _ _ _ _ _ _ _ _ _ _ _ _ _ _) ?_; clear tr
          refine then_n ?_
          refine rg rfl ?_
          refine Rq ?_
          refine Rq ?_
          refine Rq ?_
          refine Rq ?_
          refine Rq ?_
          refine Rq ?_
          refine Rq ?_
          have tr : ∀ y0 y1 y2 y3 y4 y5 y6 y7 y8 y9 y10 y11 y12 y16 y18 y19 y20 y21 y25 y26 y27 y28 y43 z0 z1 z2 z3 z4 z5 z6 : AV, trim [(7, z6), (51, z5), (50, z4), (49, z3), (48, z2), (47, z1), (46, z0), (0, y0), (1, y1), (2, y2), (3, y3), (4, y4), (5, y5), (6, y6), (7, y7), (8, y8), (9, y9), (10, y10), (11, y11), (12, y12), (16, y16), (18, y18), (19, y19), (20, y20), (21, y21), (25, y25), (26, y26), (27, y27), (28, y28), (43, y43)] [(0, y0), (1, y1), (2, y2), (3, y3), (4, y4), (5, y5), (6, y6), (7, y7), (8, y8), (9, y9), (10, y10), (11, y11), (12, y12), (16, y16), (18, y18), (19, y19), (20, y20), (21, y21), (25, y25), (26, y26), (27, y27), (28, y28), (43, y43)] = [(0, y0), (1, y1), (2, y2), (3, y3), (4, y4), (5, y5), (6, y6), (7, z6), (8, y8), (9, y9), (10, y10), (11, y11), (12, y12), (16, y16), (18, y18), (19, y19), (20, y20), (21, y21), (25, y25), (26, y26), (27, y27), (28, y28), (43, y43)] := fun y0 y1 y2 y3 y4 y5 y6 y7 y8 y9 y10 y11 y12 y16 y18 y19 y20 y21 y25 y26 y27 y28 y43 z0 z1 z2 z3 z4 z5 z6 => rfl
          refine R_nil (tr _ _ _ _ _ _ _ _ _ _ _ _ _ _ _ _ _ _ _ _ _ _ _ _ _ _ _ _ _ _) ?_; clear tr
          refine blk_n ?_
          refine then_n ?_
          refine rg rfl ?_
          refine Rq ?_
          refine Rq ?_
          have tr : ∀ y0 y1 y2 y3 y4 y5 y6 y7 y8 y9 y10 y11 y12 y16 y18 y19 y20 y21 y25 y26 y27 y28 y43 z0 z1 : AV, trim [(27, z1), (52, z0), (0, y0), (1, y1), (2, y2), (3, y3), (4, y4), (5, y5), (6, y6), (7, y7), (8, y8), (9, y9), (10, y10), (11, y11), (12, y12), (16, y16), (18, y18), (19, y19), (20, y20), (21, y21), (25, y25), (26, y26), (27, y27), (28, y28), (43, y43)] [(0, y0), (1, y1), (2, y2), (3, y3), (4, y4), (5, y5), (6, y6), (7, y7), (8, y8), (9, y9), (10, y10), (11, y11), (12, y12), (16, y16), (18, y18), (19, y19), (20, y20), (21, y21), (25, y25), (26, y26), (27, y27), (28, y28), (43, y43)] = [(0, y0), (1, y1), (2, y2), (3, y3), (4, y4), (5, y5), (6, y6), (7, y7), (8, y8), (9, y9), (10, y10), (11, y11), (12, y12), (16, y16), (18, y18), (19, y19), (20, y20), (21, y21), (25, y25), (26, y26), (27, z1), (28, y28), (43, y43)] := fun y0 y1 y2 y3 y4 y5 y6 y7 y8 y9 y10 y11 y12 y16 y18 y19 y20 y21 y25 y26 y27 y28 y43 z0 z1 => rfl
          refine R_nil (tr _ _ _ _ _ _ _ _ _ _ _ _ _ _ _ _ _ _ _ _ _ _ _ _ _) ?_; clear tr
          refine then_n ?_
          have f1 : (rowC (gt a u) (gt b u) (w + 1)).1 = (rowC (gt a u) (gt b u) w).1 + (if gt (gt a u) w = gt (gt b u) w then 0 else 1) := rfl
          have f2 : (rowC (gt a u) (gt b u) (w + 1)).2 = (rowC (gt a u) (gt b u) w).2 + (max (gt (gt a u) w) (gt (gt b u) w) - min (gt (gt a u) w) (gt (gt b u) w)) := rfl
          have f3 : (if gt (gt a u) w = gt (gt b u) w then (0 : Int) else 1) = 0 ∨ (if gt (gt a u) w = gt (gt b u) w then (0 : Int) else 1) = 1 := by split <;> simp
          exact ⟨_, _, ⟨w + 1, n1 + 1, m1 + max (gt (gt a u) w - gt (gt b u) w) (0 - (gt (gt a u) w - gt (gt b u) w)), _, _, _, _, _, rfl, rfl, rfl, by omega, by rw [f1]; first | (rw [if_neg (by omega)]; omega) | (rw [if_pos (by omega)]; omega), by rw [f2]; omega, by omega, by omega⟩, by rfl, by omega⟩
        · try simp only [decide_eq_true_eq, decide_eq_false_iff_not, Bool.not_eq_true', Bool.not_eq_false', beq_iff_eq, beq_eq_false_iff_ne, ne_eq] at h4
          refine at_skip rfl ?_
          refine blk_n ?_
          refine then_n ?_
          refine rg rfl ?_
          refine Rq ?_
          refine Rq ?_
          have tr : ∀ y0 y1 y2 y3 y4 y5 y6 y7 y8 y9 y10 y11 y12 y16 y18 y19 y20 y21 y25 y26 y27 y28 y43 z0 z1 : AV, trim [(27, z1), (52, z0), (0, y0), (1, y1), (2, y2), (3, y3), (4, y4), (5, y5), (6, y6), (7, y7), (8, y8), (9, y9), (10, y10), (11, y11), (12, y12), (16, y16), (18, y18), (19, y19), (20, y20), (21, y21), (25, y25), (26, y26), (27, y27), (28, y28), (43, y43)] [(0, y0), (1, y1), (2, y2), (3, y3), (4, y4), (5, y5), (6, y6), (7, y7), (8, y8), (9, y9), (10, y10), (11, y11), (12, y12), (16, y16), (18, y18), (19, y19), (20, y20), (21, y21), (25, y25), (26, y26), (27, y27), (28, y28), (43, y43)] = [(0, y0), (1, y1), (2, y2), (3, y3), (4, y4), (5, y5), (6, y6), (7, y7), (8, y8), (9, y9), (10, y10), (11, y11), (12, y12), (16, y16), (18, y18), (19, y19), (20, y20), (21, y21), (25, y25), (26, y26), (27, z1), (28, y28), (43, y43)] := fun y0 y1 y2 y3 y4 y5 y6 y7 y8 y9 y10 y11 y12 y16 y18 y19 y20 y21 y25 y26 y27 y28 y43 z0 z1 => rfl
          refine R_nil (tr _ _ _ _ _ _ _ _ _ _ _ _ _ _ _ _ _ _ _ _ _ _ _ _ _) ?_; clear tr
          refine then_n ?_
          have f1 : (rowC (gt a u) (gt b u) (w + 1)).1 = (rowC (gt a u) (gt b u) w).1 + (if gt (gt a u) w = gt (gt b u) w then 0 else 1) := rfl
          have f2 : (rowC (gt a u) (gt b u) (w + 1)).2 = (rowC (gt a u) (gt b u) w).2 + (max (gt (gt a u) w) (gt (gt b u) w) - min (gt (gt a u) w) (gt (gt b u) w)) := rfl
          have f3 : (if gt (gt a u) w = gt (gt b u) w then (0 : Int) else 1) = 0 ∨ (if gt (gt a u) w = gt (gt b u) w then (0 : Int) else 1) = 1 := by split <;> simp
          exact ⟨_, _, ⟨w + 1, n1, m1, _, _, _, _, _, rfl, rfl, rfl, by omega, by rw [f1]; first | (rw [if_neg (by omega)]; omega) | (rw [if_pos (by omega)]; omega), by rw [f2]; omega, by omega, by omega⟩, by rfl, by omega⟩
      · try simp only [decide_eq_true_eq, decide_eq_false_iff_not, Bool.not_eq_true', Bool.not_eq_false', beq_iff_eq, beq_eq_false_iff_ne, ne_eq] at h3
        refine at_exit rfl ?_
        refine then_x ?_
        refine then_x ?_
        refine blk_x ?_
        refine blk_n ?_
        refine then_n ?_
        refine rg rfl ?_
        refine Rq ?_
        refine Rq ?_
        have tr : ∀ y0 y1 y2 y3 y4 y5 y6 y7 y8 y9 y10 y11 y12 y16 y18 y19 y20 y21 y25 y26 y27 y28 y43 z0 z1 : AV, trim [(20, z1), (53, z0), (0, y0), (1, y1), (2, y2), (3, y3), (4, y4), (5, y5), (6, y6), (7, y7), (8, y8), (9, y9), (10, y10), (11, y11), (12, y12), (16, y16), (18, y18), (19, y19), (20, y20), (21, y21), (25, y25), (26, y26), (27, y27), (28, y28), (43, y43)] [(0, y0), (1, y1), (2, y2), (3, y3), (4, y4), (5, y5), (6, y6), (7, y7), (8, y8), (9, y9), (10, y10), (11, y11), (12, y12), (16, y16), (18, y18), (19, y19), (20, y20), (21, y21), (25, y25), (26, y26), (27, y27), (28, y28), (43, y43)] = [(0, y0), (1, y1), (2, y2), (3, y3), (4, y4), (5, y5), (6, y6), (7, y7), (8, y8), (9, y9), (10, y10), (11, y11), (12, y12), (16, y16), (18, y18), (19, y19), (20, z1), (21, y21), (25, y25), (26, y26), (27, y27), (28, y28), (43, y43)] := fun y0 y1 y2 y3 y4 y5 y6 y7 y8 y9 y10 y11 y12 y16 y18 y19 y20 y21 y25 y26 y27 y28 y43 z0 z1 => rfl
        refine R_nil (tr _ _ _ _ _ _ _ _ _ _ _ _ _ _ _ _ _ _ _ _ _ _ _ _ _) ?_; clear tr
        refine then_n ?_
        have e1 : (tabC a b (u + 1)).1 = (tabC a b u).1 + (rowC (gt a u) (gt b u) (gt a u).length).1 := rfl
        have e2 : (tabC a b (u + 1)).2 = (tabC a b u).2 + (rowC (gt a u) (gt b u) (gt a u).length).2 := rfl
        have ew : w = (gt a u).length := by omega
        subst ew
        exact ⟨_, _, ⟨u + 1, n1, m1, _, _, _, _, _, _, _, _, _, _, _, rfl, rfl, rfl, by omega, by omega, by omega, by omega, by omega⟩, by rfl, by omega⟩
    · try simp only [decide_eq_true_eq, decide_eq_false_iff_not, Bool.not_eq_true', Bool.not_eq_false', beq_iff_eq, beq_eq_false_iff_ne, ne_eq] at h2
      refine at_exit rfl ?_
      refine then_x ?_
      refine then_x ?_
      refine blk_x ?_
      refine then_n ?_
      refine at_seq rfl ?_
      refine rg rfl ?_
      refine Rq ?_
      refine Rq ?_
      refine Rq ?_
      refine Rq ?_
      have tr : ∀ y0 y1 y2 y3 y4 y5 y6 y7 y8 y9 y10 y11 y12 y16 y18 y19 y20 y21 y25 y26 y27 y28 y43 z0 z1 z2 z3 : AV, trim [(5, z3), (4, z2), (55, z1), (54, z0), (0, y0), (1, y1), (2, y2), (3, y3), (4, y4), (5, y5), (6, y6), (7, y7), (8, y8), (9, y9), (10, y10), (11, y11), (12, y12), (16, y16), (18, y18), (19, y19), (20, y20), (21, y21), (25, y25), (26, y26), (27, y27), (28, y28), (43, y43)] [(0, y0), (1, y1), (2, y2), (3, y3), (4, y4), (5, y5), (6, y6), (7, y7), (8, y8), (9, y9), (10, y10), (11, y11), (12, y12), (16, y16), (18, y18), (19, y19), (20, y20), (21, y21), (25, y25), (26, y26), (27, y27), (28, y28), (43, y43)] = [(0, y0), (1, y1), (2, y2), (3, y3), (4, z2), (5, z3), (6, y6), (7, y7), (8, y8), (9, y9), (10, y10), (11, y11), (12, y12), (16, y16), (18, y18), (19, y19), (20, y20), (21, y21), (25, y25), (26, y26), (27, y27), (28, y28), (43, y43)] := fun y0 y1 y2 y3 y4 y5 y6 y7 y8 y9 y10 y11 y12 y16 y18 y19 y20 y21 y25 y26 y27 y28 y43 z0 z1 z2 z3 => rfl
      refine R_nil (tr _ _ _ _ _ _ _ _ _ _ _ _ _ _ _ _ _ _ _ _ _ _ _ _ _ _ _) ?_; clear tr
      refine then_n ?_
      refine at_ret rfl ?_
      refine fpure ?_
      refine ⟨?_, rfl⟩
      rw [raisedS, if_pos hal, hn, hm, show a.length = u by omega]

theorem rraised_ok (lim : Nat) (H : Heap) (a b : Tb) :
    ACall sig lim 22 [.agg [rowsAV a], .agg [rowsAV b]] H fun r H' => r = .tup [AV.i (raisedS a b).1, AV.i (raisedS a b).2] ∧ H' = H := by
  refine ACall_pure (fa := fa22) rfl rfl rfl rfl ?_
  have tr : ∀ a0 a1 : AV, env0 fa22.keep [a0, a1] = [(0, a0), (1, a1), (2, .any), (3, .any), (4, .any), (5, .any), (6, .any), (7, .any), (8, .any), (9, .any), (10, .any), (11, .any), (12, .any), (16, .any), (18, .any), (19, .any), (20, .any), (21, .any), (25, .any), (26, .any), (27, .any), (28, .any), (54, .any)] := fun a0 a1 => rfl
  refine W_to (tr _ _) ?_; clear tr
  refine at_seq rfl ?_
  refine rg rfl ?_
  refine R_box rfl (by simp (disch := first | omega | (simp only [List.length_map, List.length_append, List.length_set, List.length_cons, List.length_nil, List.length_take, List.length_drop]; omega)) only [go_sem, ↓reduceIte, Nat.reduceEqDiff, reduceCtorEq]; rfl) rfl rfl ?_
  refine R_box rfl (by simp (disch := first | omega | (simp only [List.length_map, List.length_append, List.length_set, List.length_cons, List.length_nil, List.length_take, List.length_drop]; omega)) only [go_sem, ↓reduceIte, Nat.reduceEqDiff, reduceCtorEq]; rfl) rfl rfl ?_
  refine Rq ?_
  refine Rq ?_
  have tr : ∀ y0 y1 y2 y3 y4 y5 y6 y7 y8 y9 y10 y11 y12 y16 y18 y19 y20 y21 y25 y26 y27 y28 y54 z0 z1 z2 z3 : AV, trim [(5, z3), (4, z2), (3, z1), (2, z0), (0, y0), (1, y1), (2, y2), (3, y3), (4, y4), (5, y5), (6, y6), (7, y7), (8, y8), (9, y9), (10, y10), (11, y11), (12, y12), (16, y16), (18, y18), (19, y19), (20, y20), (21, y21), (25, y25), (26, y26), (27, y27), (28, y28), (54, y54)] [(0, y0), (1, y1), (2, y2), (3, y3), (4, y4), (5, y5), (6, y6), (7, y7), (8, y8), (9, y9), (10, y10), (11, y11), (12, y12), (16, y16), (18, y18), (19, y19), (20, y20), (21, y21), (25, y25), (26, y26), (27, y27), (28, y28), (54, y54)] = [(0, y0), (1, y1), (2, z0), (3, z1), (4, z2), (5, z3), (6, y6), (7, y7), (8, y8), (9, y9), (10, y10), (11, y11), (12, y12), (16, y16), (18, y18), (19, y19), (20, y20), (21, y21), (25, y25), (26, y26), (27, y27), (28, y28), (54, y54)] := fun y0 y1 y2 y3 y4 y5 y6 y7 y8 y9 y10 y11 y12 y16 y18 y19 y20 y21 y25 y26 y27 y28 y54 z0 z1 z2 z3 => rfl
  refine R_nil (tr _ _ _ _ _ _ _ _ _ _ _ _ _ _ _ _ _ _ _ _ _ _ _ _ _ _ _) ?_; clear tr
  refine then_n ?_
  refine at_seq rfl ?_
  refine at_seq rfl ?_
  refine rg rfl ?_
  refine Rq ?_
  refine Rq ?_
  refine Rcall ?_
  refine ACall_eq (ralike_ok _ _ a b) ?_
  refine Rq ?_
  have tr : ∀ y0 y1 y2 y3 y4 y5 y6 y7 y8 y9 y10 y11 y12 y16 y18 y19 y20 y21 y25 y26 y27 y28 y54 z0 z1 z2 z3 : AV, trim [(16, z3), (15, z2), (14, z1), (13, z0), (0, y0), (1, y1), (2, y2), (3, y3), (4, y4), (5, y5), (6, y6), (7, y7), (8, y8), (9, y9), (10, y10), (11, y11), (12, y12), (16, y16), (18, y18), (19, y19), (20, y20), (21, y21), (25, y25), (26, y26), (27, y27), (28, y28), (54, y54)] [(0, y0), (1, y1), (2, y2), (3, y3), (4, y4), (5, y5), (6, y6), (7, y7), (8, y8), (9, y9), (10, y10), (11, y11), (12, y12), (16, y16), (18, y18), (19, y19), (20, y20), (21, y21), (25, y25), (26, y26), (27, y27), (28, y28), (54, y54)] = [(0, y0), (1, y1), (2, y2), (3, y3), (4, y4), (5, y5), (6, y6), (7, y7), (8, y8), (9, y9), (10, y10), (11, y11), (12, y12), (16, z3), (18, y18), (19, y19), (20, y20), (21, y21), (25, y25), (26, y26), (27, y27), (28, y28), (54, y54)] := fun y0 y1 y2 y3 y4 y5 y6 y7 y8 y9 y10 y11 y12 y16 y18 y19 y20 y21 y25 y26 y27 y28 y54 z0 z1 z2 z3 => rfl
  refine R_nil (tr _ _ _ _ _ _ _ _ _ _ _ _ _ _ _ _ _ _ _ _ _ _ _ _ _ _ _) ?_; clear tr
  refine then_n ?_
  refine cdd (fun h1 => ?_) (fun h1 => ?_)
  · try simp only [decide_eq_true_eq, decide_eq_false_iff_not, Bool.not_eq_true', Bool.not_eq_false', beq_iff_eq, beq_eq_false_iff_ne, ne_eq] at h1
    refine at_seq rfl ?_
    refine rg rfl ?_
    refine Rq ?_
    refine Rq ?_
    have tr : ∀ y0 y1 y2 y3 y4 y5 y6 y7 y8 y9 y10 y11 y12 y16 y18 y19 y20 y21 y25 y26 y27 y28 y54 z0 z1 : AV, trim [(5, z1), (4, z0), (0, y0), (1, y1), (2, y2), (3, y3), (4, y4), (5, y5), (6, y6), (7, y7), (8, y8), (9, y9), (10, y10), (11, y11), (12, y12), (16, y16), (18, y18), (19, y19), (20, y20), (21, y21), (25, y25), (26, y26), (27, y27), (28, y28), (54, y54)] [(0, y0), (1, y1), (2, y2), (3, y3), (4, y4), (5, y5), (6, y6), (7, y7), (8, y8), (9, y9), (10, y10), (11, y11), (12, y12), (16, y16), (18, y18), (19, y19), (20, y20), (21, y21), (25, y25), (26, y26), (27, y27), (28, y28), (54, y54)] = [(0, y0), (1, y1), (2, y2), (3, y3), (4, z0), (5, z1), (6, y6), (7, y7), (8, y8), (9, y9), (10, y10), (11, y11), (12, y12), (16, y16), (18, y18), (19, y19), (20, y20), (21, y21), (25, y25), (26, y26), (27, y27), (28, y28), (54, y54)] := fun y0 y1 y2 y3 y4 y5 y6 y7 y8 y9 y10 y11 y12 y16 y18 y19 y20 y21 y25 y26 y27 y28 y54 z0 z1 => rfl
    refine R_nil (tr _ _ _ _ _ _ _ _ _ _ _ _ _ _ _ _ _ _ _ _ _ _ _ _ _) ?_; clear tr
    refine then_n ?_
    refine at_ret rfl ?_
    refine then_r ?_
    refine fpure ?_
    refine ⟨?_, rfl⟩
    rw [raisedS, if_neg (of_alikeB_f (by assumption))]
  · try simp only [decide_eq_true_eq, decide_eq_false_iff_not, Bool.not_eq_true', Bool.not_eq_false', beq_iff_eq, beq_eq_false_iff_ne, ne_eq] at h1
    refine at_skip rfl ?_
    refine then_n ?_
    refine at_seq rfl ?_
    refine rg rfl ?_
    have hal := of_alikeB (by assumption)
    obtain ⟨ha, hb, hl, hl0⟩ := id hal
    obtain ⟨a2, a91, a1, a10, al, ar⟩ := shaped_of ha
    obtain ⟨b2, b91, b1, b10, bl, br⟩ := shaped_of hb
    refine Rq ?_
    refine Rq ?_
    have tr : ∀ y0 y1 y2 y3 y4 y5 y6 y7 y8 y9 y10 y11 y12 y16 y18 y19 y20 y21 y25 y26 y27 y28 y54 z0 z1 : AV, trim [(7, z1), (6, z0), (0, y0), (1, y1), (2, y2), (3, y3), (4, y4), (5, y5), (6, y6), (7, y7), (8, y8), (9, y9), (10, y10), (11, y11), (12, y12), (16, y16), (18, y18), (19, y19), (20, y20), (21, y21), (25, y25), (26, y26), (27, y27), (28, y28), (54, y54)] [(0, y0), (1, y1), (2, y2), (3, y3), (4, y4), (5, y5), (6, y6), (7, y7), (8, y8), (9, y9), (10, y10), (11, y11), (12, y12), (16, y16), (18, y18), (19, y19), (20, y20), (21, y21), (25, y25), (26, y26), (27, y27), (28, y28), (54, y54)] = [(0, y0), (1, y1), (2, y2), (3, y3), (4, y4), (5, y5), (6, z0), (7, z1), (8, y8), (9, y9), (10, y10), (11, y11), (12, y12), (16, y16), (18, y18), (19, y19), (20, y20), (21, y21), (25, y25), (26, y26), (27, y27), (28, y28), (54, y54)] := fun y0 y1 y2 y3 y4 y5 y6 y7 y8 y9 y10 y11 y12 y16 y18 y19 y20 y21 y25 y26 y27 y28 y54 z0 z1 => rfl
    refine R_nil (tr _ _ _ _ _ _ _ _ _ _ _ _ _ _ _ _ _ _ _ _ _ _ _ _ _) ?_; clear tr
    refine then_n ?_
    refine at_seq rfl ?_
    refine at_seq rfl ?_
    refine rg rfl ?_
    refine Rq ?_
    refine Rq ?_
    refine Rq ?_
    refine Rq ?_
    have tr : ∀ y0 y1 y2 y3 y4 y5 y6 y7 y8 y9 y10 y11 y12 y16 y18 y19 y20 y21 y25 y26 y27 y28 y54 z0 z1 z2 z3 : AV, trim [(20, z3), (19, z2), (18, z1), (17, z0), (0, y0), (1, y1), (2, y2), (3, y3), (4, y4), (5, y5), (6, y6), (7, y7), (8, y8), (9, y9), (10, y10), (11, y11), (12, y12), (16, y16), (18, y18), (19, y19), (20, y20), (21, y21), (25, y25), (26, y26), (27, y27), (28, y28), (54, y54)] [(0, y0), (1, y1), (2, y2), (3, y3), (4, y4), (5, y5), (6, y6), (7, y7), (8, y8), (9, y9), (10, y10), (11, y11), (12, y12), (16, y16), (18, y18), (19, y19), (20, y20), (21, y21), (25, y25), (26, y26), (27, y27), (28, y28), (54, y54)] = [(0, y0), (1, y1), (2, y2), (3, y3), (4, y4), (5, y5), (6, y6), (7, y7), (8, y8), (9, y9), (10, y10), (11, y11), (12, y12), (16, y16), (18, z1), (19, z2), (20, z3), (21, y21), (25, y25), (26, y26), (27, y27), (28, y28), (54, y54)] := fun y0 y1 y2 y3 y4 y5 y6 y7 y8 y9 y10 y11 y12 y16 y18 y19 y20 y21 y25 y26 y27 y28 y54 z0 z1 z2 z3 => rfl
    refine R_nil (tr _ _ _ _ _ _ _ _ _ _ _ _ _ _ _ _ _ _ _ _ _ _ _ _ _ _ _) ?_; clear tr
    refine then_n ?_
    refine at_block rfl ?_
    refine loop_n rfl (fun mm kv H' => ∃ u : Nat, ∃ n : Int, ∃ m : Int, ∃ x8 x9 x10 x11 x12 x21 x25 x26 x27 x28 x54 : AV, (kv = [(6, AV.i n), (7, AV.i m), (8, x8), (9, x9), (10, x10), (11, x11), (12, x12), (20, AV.i u), (21, x21), (25, x25), (26, x26), (27, x27), (28, x28), (54, x54)]) ∧ (mm = a.length - u) ∧ (H' = H ++ [some [rowsAV a]] ++ [some [rowsAV b]]) ∧ (u ≤ a.length) ∧ (n = (tabC a b u).1) ∧ (m = (tabC a b u).2) ∧ (0 ≤ n ∧ n ≤ 10 * (u : Int)) ∧ (0 ≤ m ∧ m ≤ 100000 * (u : Int))) ⟨0, 0, 0, _, _, _, _, _, _, _, _, _, _, _, rfl, rfl, rfl, by omega, by rfl, by rfl, by omega, by omega⟩ (by rfl) ?_
    rintro mm kv H' ⟨u, n, m, x8, x9, x10, x11, x12, x21, x25, x26, x27, x28, x54, rfl, rfl, rfl, hu, hn, hm, hnb, hmb⟩
    have tr : ∀ y0 y1 y2 y3 y4 y5 y6 y7 y8 y9 y10 y11 y12 y16 y18 y19 y20 y21 y25 y26 y27 y28 y54 z6 z7 z8 z9 z10 z11 z12 z20 z21 z25 z26 z27 z28 z54 : AV, upd [(0, y0), (1, y1), (2, y2), (3, y3), (4, y4), (5, y5), (6, y6), (7, y7), (8, y8), (9, y9), (10, y10), (11, y11), (12, y12), (16, y16), (18, y18), (19, y19), (20, y20), (21, y21), (25, y25), (26, y26), (27, y27), (28, y28), (54, y54)] [(6, z6), (7, z7), (8, z8), (9, z9), (10, z10), (11, z11), (12, z12), (20, z20), (21, z21), (25, z25), (26, z26), (27, z27), (28, z28), (54, z54)] = [(0, y0), (1, y1), (2, y2), (3, y3), (4, y4), (5, y5), (6, z6), (7, z7), (8, z8), (9, z9), (10, z10), (11, z11), (12, z12), (16, y16), (18, y18), (19, y19), (20, z20), (21, z21), (25, z25), (26, z26), (27, z27), (28, z28), (54, z54)] := fun y0 y1 y2 y3 y4 y5 y6 y7 y8 y9 y10 y11 y12 y16 y18 y19 y20 y21 y25 y26 y27 y28 y54 z6 z7 z8 z9 z10 z11 z12 z20 z21 z25 z26 z27 z28 z54 => rfl
    refine W_to (tr _ _ _ _ _ _ _ _ _ _ _ _ _ _ _ _ _ _ _ _ _ _ _ _ _ _ _ _ _ _ _ _ _ _ _ _ _) ?_; clear tr
    refine at_seq rfl ?_
    refine rg rfl ?_
    refine Rq ?_
    have tr : ∀ y0 y1 y2 y3 y4 y5 y6 y7 y8 y9 y10 y11 y12 y16 y18 y19 y20 y21 y25 y26 y27 y28 y54 z0 : AV, trim [(21, z0), (0, y0), (1, y1), (2, y2), (3, y3), (4, y4), (5, y5), (6, y6), (7, y7), (8, y8), (9, y9), (10, y10), (11, y11), (12, y12), (16, y16), (18, y18), (19, y19), (20, y20), (21, y21), (25, y25), (26, y26), (27, y27), (28, y28), (54, y54)] [(0, y0), (1, y1), (2, y2), (3, y3), (4, y4), (5, y5), (6, y6), (7, y7), (8, y8), (9, y9), (10, y10), (11, y11), (12, y12), (16, y16), (18, y18), (19, y19), (20, y20), (21, y21), (25, y25), (26, y26), (27, y27), (28, y28), (54, y54)] = [(0, y0), (1, y1), (2, y2), (3, y3), (4, y4), (5, y5), (6, y6), (7, y7), (8, y8), (9, y9), (10, y10), (11, y11), (12, y12), (16, y16), (18, y18), (19, y19), (20, y20), (21, z0), (25, y25), (26, y26), (27, y27), (28, y28), (54, y54)] := fun y0 y1 y2 y3 y4 y5 y6 y7 y8 y9 y10 y11 y12 y16 y18 y19 y20 y21 y25 y26 y27 y28 y54 z0 => rfl
    refine R_nil (tr _ _ _ _ _ _ _ _ _ _ _ _ _ _ _ _ _ _ _ _ _ _ _ _) ?_; clear tr
    refine then_n ?_
    refine at_seq rfl ?_
    refine cdd (fun h2 => ?_) (fun h2 => ?_)
    · try simp only [decide_eq_true_eq, decide_eq_false_iff_not, Bool.not_eq_true', Bool.not_eq_false', beq_iff_eq, beq_eq_false_iff_ne, ne_eq] at h2
      refine at_skip rfl ?_
      refine then_n ?_
      refine at_seq rfl ?_
      refine at_block rfl ?_
      refine at_seq rfl ?_
      refine rg rfl ?_
      refine Rq ?_
      refine Rq ?_
      refine Rq ?_
      refine Rq ?_
      refine Rq ?_
      have tr : ∀ y0 y1 y2 y3 y4 y5 y6 y7 y8 y9 y10 y11 y12 y16 y18 y19 y20 y21 y25 y26 y27 y28 y54 z0 z1 z2 z3 z4 : AV, trim [(9, z4), (8, z3), (24, z2), (23, z1), (22, z0), (0, y0), (1, y1), (2, y2), (3, y3), (4, y4), (5, y5), (6, y6), (7, y7), (8, y8), (9, y9), (10, y10), (11, y11), (12, y12), (16, y16), (18, y18), (19, y19), (20, y20), (21, y21), (25, y25), (26, y26), (27, y27), (28, y28), (54, y54)] [(0, y0), (1, y1), (2, y2), (3, y3), (4, y4), (5, y5), (6, y6), (7, y7), (8, y8), (9, y9), (10, y10), (11, y11), (12, y12), (16, y16), (18, y18), (19, y19), (20, y20), (21, y21), (25, y25), (26, y26), (27, y27), (28, y28), (54, y54)] = [(0, y0), (1, y1), (2, y2), (3, y3), (4, y4), (5, y5), (6, y6), (7, y7), (8, z3), (9, z4), (10, y10), (11, y11), (12, y12), (16, y16), (18, y18), (19, y19), (20, y20), (21, y21), (25, y25), (26, y26), (27, y27), (28, y28), (54, y54)] := fun y0 y1 y2 y3 y4 y5 y6 y7 y8 y9 y10 y11 y12 y16 y18 y19 y20 y21 y25 y26 y27 y28 y54 z0 z1 z2 z3 z4 => rfl
      refine R_nil (tr _ _ _ _ _ _ _ _ _ _ _ _ _ _ _ _ _ _ _ _ _ _ _ _ _ _ _ _) ?_; clear tr
      refine then_n ?_
      refine at_seq rfl ?_
      refine rg rfl ?_
      have hau := al u (by omega)
      have hbu := bl u (by omega)
      refine Rq ?_
      refine Rq ?_
      refine Rq ?_
      have tr : ∀ y0 y1 y2 y3 y4 y5 y6 y7 y8 y9 y10 y11 y12 y16 y18 y19 y20 y21 y25 y26 y27 y28 y54 z0 z1 z2 : AV, trim [(27, z2), (26, z1), (25, z0), (0, y0), (1, y1), (2, y2), (3, y3), (4, y4), (5, y5), (6, y6), (7, y7), (8, y8), (9, y9), (10, y10), (11, y11), (12, y12), (16, y16), (18, y18), (19, y19), (20, y20), (21, y21), (25, y25), (26, y26), (27, y27), (28, y28), (54, y54)] [(0, y0), (1, y1), (2, y2), (3, y3), (4, y4), (5, y5), (6, y6), (7, y7), (8, y8), (9, y9), (10, y10), (11, y11), (12, y12), (16, y16), (18, y18), (19, y19), (20, y20), (21, y21), (25, y25), (26, y26), (27, y27), (28, y28), (54, y54)] = [(0, y0), (1, y1), (2, y2), (3, y3), (4, y4), (5, y5), (6, y6), (7, y7), (8, y8), (9, y9), (10, y10), (11, y11), (12, y12), (16, y16), (18, y18), (19, y19), (20, y20), (21, y21), (25, z0), (26, z1), (27, z2), (28, y28), (54, y54)] := fun y0 y1 y2 y3 y4 y5 y6 y7 y8 y9 y10 y11 y12 y16 y18 y19 y20 y21 y25 y26 y27 y28 y54 z0 z1 z2 => rfl
      refine R_nil (tr _ _ _ _ _ _ _ _ _ _ _ _ _ _ _ _ _ _ _ _ _ _ _ _ _ _) ?_; clear tr
      refine then_n ?_
      refine at_block rfl ?_
      refine loop_n rfl (fun mm kv H' => ∃ w : Nat, ∃ n1 : Int, ∃ m1 : Int, ∃ x10 x11 x12 x28 x54 : AV, (kv = [(6, AV.i n1), (7, AV.i m1), (10, x10), (11, x11), (12, x12), (27, AV.i w), (28, x28), (54, x54)]) ∧ (mm = (gt a u).length - w) ∧ (H' = H ++ [some [rowsAV a]] ++ [some [rowsAV b]]) ∧ (w ≤ (gt a u).length) ∧ (n1 = n + (rowC (gt a u) (gt b u) w).1) ∧ (m1 = m + (rowC (gt a u) (gt b u) w).2) ∧ (0 ≤ n1 ∧ n1 ≤ 10 * (u : Int) + w) ∧ (0 ≤ m1 ∧ m1 ≤ 100000 * (u : Int) + 10000 * (w : Int))) ⟨0, n, m, _, _, _, _, _, rfl, rfl, rfl, by omega, by simp [rowC], by simp [rowC], by omega, by omega⟩ (by rfl) ?_
      rintro mm kv H' ⟨w, n1, m1, x10, x11, x12, x28, x54, rfl, rfl, rfl, hw, hn1, hm1, hn1b, hm1b⟩
      have tr : ∀ y0 y1 y2 y3 y4 y5 y6 y7 y8 y9 y10 y11 y12 y16 y18 y19 y20 y21 y25 y26 y27 y28 y54 z6 z7 z10 z11 z12 z27 z28 z54 : AV, upd [(0, y0), (1, y1), (2, y2), (3, y3), (4, y4), (5, y5), (6, y6), (7, y7), (8, y8), (9, y9), (10, y10), (11, y11), (12, y12), (16, y16), (18, y18), (19, y19), (20, y20), (21, y21), (25, y25), (26, y26), (27, y27), (28, y28), (54, y54)] [(6, z6), (7, z7), (10, z10), (11, z11), (12, z12), (27, z27), (28, z28), (54, z54)] = [(0, y0), (1, y1), (2, y2), (3, y3), (4, y4), (5, y5), (6, z6), (7, z7), (8, y8), (9, y9), (10, z10), (11, z11), (12, z12), (16, y16), (18, y18), (19, y19), (20, y20), (21, y21), (25, y25), (26, y26), (27, z27), (28, z28), (54, z54)] := fun y0 y1 y2 y3 y4 y5 y6 y7 y8 y9 y10 y11 y12 y16 y18 y19 y20 y21 y25 y26 y27 y28 y54 z6 z7 z10 z11 z12 z27 z28 z54 => rfl
      refine W_to (tr _ _ _ _ _ _ _ _ _ _ _ _ _ _ _ _ _ _ _ _ _ _ _ _ _ _ _ _ _ _ _) ?_; clear tr
      refine at_seq rfl ?_
      refine rg rfl ?_
      refine Rq ?_
      have tr : ∀ y0 y1 y2 y3 y4 y5 y6 y7 y8 y9 y10 y11 y12 y16 y18 y19 y20 y21 y25 y26 y27 y28 y54 z0 : AV, trim [(28, z0), (0, y0), (1, y1), (2, y2), (3, y3), (4, y4), (5, y5), (6, y6), (7, y7), (8, y8), (9, y9), (10, y10), (11, y11), (12, y12), (16, y16), (18, y18), (19, y19), (20, y20), (21, y21), (25, y25), (26, y26), (27, y27), (28, y28), (54, y54)] [(0, y0), (1, y1), (2, y2), (3, y3), (4, y4), (5, y5), (6, y6), (7, y7), (8, y8), (9, y9), (10, y10), (11, y11), (12, y12), (16, y16), (18, y18), (19, y19), (20, y20), (21, y21), (25, y25), (26, y26), (27, y27), (28, y28), (54, y54)] = [(0, y0), (1, y1), (2, y2), (3, y3), (4, y4), (5, y5), (6, y6), (7, y7), (8, y8), (9, y9), (10, y10), (11, y11), (12, y12), (16, y16), (18, y18), (19, y19), (20, y20), (21, y21), (25, y25), (26, y26), (27, y27), (28, z0), (54, y54)] := fun y0 y1 y2 y3 y4 y5 y6 y7 y8 y9 y10 y11 y12 y16 y18 y19 y20 y21 y25 y26 y27 y28 y54 z0 => rfl
      refine R_nil (tr _ _ _ _ _ _ _ _ _ _ _ _ _ _ _ _ _ _ _ _ _ _ _ _) ?_; clear tr
      refine then_n ?_
      refine at_seq rfl ?_
      refine cdd (fun h3 => ?_) (fun h3 => ?_)
      · try simp only [decide_eq_true_eq, decide_eq_false_iff_not, Bool.not_eq_true', Bool.not_eq_false', beq_iff_eq, beq_eq_false_iff_ne, ne_eq] at h3
        refine at_skip rfl ?_
        refine then_n ?_
        refine at_seq rfl ?_
        refine at_block rfl ?_
        refine at_seq rfl ?_
        refine rg rfl ?_
        refine Rq ?_
        refine Rq ?_
        refine Rq ?_
        refine Rq ?_
        refine Rq ?_
        have tr : ∀ y0 y1 y2 y3 y4 y5 y6 y7 y8 y9 y10 y11 y12 y16 y18 y19 y20 y21 y25 y26 y27 y28 y54 z0 z1 z2 z3 z4 : AV, trim [(11, z4), (10, z3), (31, z2), (30, z1), (29, z0), (0, y0), (1, y1), (2, y2), (3, y3), (4, y4), (5, y5), (6, y6), (7, y7), (8, y8), (9, y9), (10, y10), (11, y11), (12, y12), (16, y16), (18, y18), (19, y19), (20, y20), (21, y21), (25, y25), (26, y26), (27, y27), (28, y28), (54, y54)] [(0, y0), (1, y1), (2, y2), (3, y3), (4, y4), (5, y5), (6, y6), (7, y7), (8, y8), (9, y9), (10, y10), (11, y11), (12, y12), (16, y16), (18, y18), (19, y19), (20, y20), (21, y21), (25, y25), (26, y26), (27, y27), (28, y28), (54, y54)] = [(0, y0), (1, y1), (2, y2), (3, y3), (4, y4), (5, y5), (6, y6), (7, y7), (8, y8), (9, y9), (10, z3), (11, z4), (12, y12), (16, y16), (18, y18), (19, y19), (20, y20), (21, y21), (25, y25), (26, y26), (27, y27), (28, y28), (54, y54)] := fun y0 y1 y2 y3 y4 y5 y6 y7 y8 y9 y10 y11 y12 y16 y18 y19 y20 y21 y25 y26 y27 y28 y54 z0 z1 z2 z3 z4 => rfl
        refine R_nil (tr _ _ _ _ _ _ _ _ _ _ _ _ _ _ _ _ _ _ _ _ _ _ _ _ _ _ _ _) ?_; clear tr
        refine then_n ?_
        refine at_seq rfl ?_
        refine rd rfl rfl ?_
        have ra : 0 ≤ gt (gt a u) w ∧ gt (gt a u) w ≤ 10000 := ar u (by omega) w (by omega)
        have rb : 0 ≤ gt (gt b u) w ∧ gt (gt b u) w ≤ 10000 := br u (by omega) w (by omega)
        refine Qq ?_
        refine Qq ?_
        refine Qq ?_
        refine Qq ?_
        refine Qq ?_
        refine Qq ?_
        refine Qq ?_
        refine Qq ?_
        refine Qq ?_
        refine Qq ?_
        refine Qq ?_
        refine Qq ?_
        refine Qq ?_
        refine Qq ?_
        refine Qq ?_
        refine Qq ?_
        refine Qq ?_
        refine Qq ?_
        refine Qq ?_
        refine Qq ?_
        refine Qq ?_
        refine Qq ?_
        refine Q_nil ?_
        have tr : ∀ y0 y1 y2 y3 y4 y5 y6 y7 y8 y9 y10 y11 y12 y16 y18 y19 y20 y21 y25 y26 y27 y28 y54 z0 z1 z2 z3 z4 z5 z6 z7 z8 z9 z10 z11 z12 z13 z14 z15 z16 z17 z18 z19 z20 z21 : AV, trim [(12, z21), (52, z20), (51, z19), (50, z18), (49, z17), (48, z16), (47, z15), (46, z14), (45, z13), (44, z12), (43, z11), (42, z10), (41, z9), (40, z8), (39, z7), (38, z6), (37, z5), (36, z4), (35, z3), (34, z2), (33, z1), (32, z0), (0, y0), (1, y1), (2, y2), (3, y3), (4, y4), (5, y5), (6, y6), (7, y7), (8, y8), (9, y9), (10, y10), (11, y11), (12, y12), (16, y16), (18, y18), (19, y19), (20, y20), (21, y21), (25, y25), (26, y26), (27, y27), (28, y28), (54, y54)] [(0, y0), (1, y1), (2, y2), (3, y3), (4, y4), (5, y5), (6, y6), (7, y7), (8, y8), (9, y9), (10, y10), (11, y11), (12, y12), (16, y16), (18, y18), (19, y19), (20, y20), (21, y21), (25, y25), (26, y26), (27, y27), (28, y28), (54, y54)] = [(0, y0), (1, y1), (2, y2), (3, y3), (4, y4), (5, y5), (6, y6), (7, y7), (8, y8), (9, y9), (10, y10), (11, y11), (12, z21), (16, y16), (18, y18), (19, y19), (20, y20), (21, y21), (25, y25), (26, y26), (27, y27), (28, y28), (54, y54)] := fun y0 y1 y2 y3 y4 y5 y6 y7 y8 y9 y10 y11 y12 y16 y18 y19 y20 y21 y25 y26 y27 y28 y54 z0 z1 z2 z3 z4 z5 z6 z7 z8 z9 z10 z11 z12 z13 z14 z15 z16 z17 z18 z19 z20 z21 => rfl
        refine R_nil (tr _ _ _ _ _ _ _ _ _ _ _ _ _ _ _ _ _ _ _ _ _ _ _ _ _ _ _ _ _ _ _ _ _ _ _ _ _ _ _ _ _ _ _ _ _) ?_; clear tr
        refine then_n ?_
        refine at_seq rfl ?_
        refine rg rfl ?_
        refine Rq ?_
        refine Rq ?_
        have tr : ∀ y0 y1 y2 y3 y4 y5 y6 y7 y8 y9 y10 y11 y12 y16 y18 y19 y20 y21 y25 y26 y27 y28 y54 z0 z1 : AV, trim [(54, z1), (53, z0), (0, y0), (1, y1), (2, y2), (3, y3), (4, y4), (5, y5), (6, y6), (7, y7), (8, y8), (9, y9), (10, y10), (11, y11), (12, y12), (16, y16), (18, y18), (19, y19), (20, y20), (21, y21), (25, y25), (26, y26), (27, y27), (28, y28), (54, y54)] [(0, y0), (1, y1), (2, y2), (3, y3), (4, y4), (5, y5), (6, y6), (7, y7), (8, y8), (9, y9), (10, y10), (11, y11), (12, y12), (16, y16), (18, y18), (19, y19), (20, y20), (21, y21), (25, y25), (26, y26), (27, y27), (28, y28), (54, y54)] = [(0, y0), (1, y1), (2, y2), (3, y3), (4, y4), (5, y5), (6, y6), (7, y7), (8, y8), (9, y9), (10, y10), (11, y11), (12, y12), (16, y16), (18, y18), (19, y19), (20, y20), (21, y21), (25, y25), (26, y26), (27, y27), (28, y28), (54, z1)] := fun y0 y1 y2 y3 y4 y5 y6 y7 y8 y9 y10 y11 y12 y16 y18 y19 y20 y21 y25 y26 y27 y28 y54 z0 z1 => rfl
        refine R_nil (tr _ _ _ _ _ _ _ _ _ _ _ _ _ _ _ _ _ _ _ _ _ _ _ _ _) ?_; clear tr
        refine then_n ?_
        refine cdd (fun h4 => ?_) (fun h4 => ?_)
        · try simp only [decide_eq_true_eq, decide_eq_false_iff_not, Bool.not_eq_true', Bool.not_eq_false', beq_iff_eq, beq_eq_false_iff_ne, ne_eq] at h4
          refine at_seq rfl ?_
          refine rg rfl ?_
          refine Rq ?_
          refine Rq ?_
          refine Rq ?_
          have tr : ∀ y0 y1 y2 y3 y4 y5 y6 y7 y8 y9 y10 y11 y12 y16 y18 y19 y20 y21 y25 y26 y27 y28 y54 z0 z1 z2 : AV, trim [(6, z2), (56, z1), (55, z0), (0, y0), (1, y1), (2, y2), (3, y3), (4, y4), (5, y5), (6, y6), (7, y7), (8, y8), (9, y9), (10, y10), (11, y11), (12, y12), (16, y16), (18, y18), (19, y19), (20, y20), (21, y21), (25, y25), (26, y26), (27, y27), (28, y28), (54, y54)] [(0, y0), (1, y1), (2, y2), (3, y3), (4, y4), (5, y5), (6, y6), (7, y7), (8, y8), (9, y9), (10, y10), (11, y11), (12, y12), (16, y16), (18, y18), (19, y19), (20, y20), (21, y21), (25, y25), (26, y26), (27, y27), (28, y28), (54, y54)] = [(0, y0), (1, y1), (2, y2), (3, y3), (4, y4), (5, y5), (6, z2), (7, y7), (8, y8), (9, y9), (10, y10), (11, y11), (12, y12), (16, y16), (18, y18), (19, y19), (20, y20), (21, y21), (25, y25), (26, y26), (27, y27), (28, y28), (54, y54)] := fun y0 y1 y2 y3 y4 y5 y6 y7 y8 y9 y10 y11 y12 y16 y18 y19 y20 y21 y25 y26 y27 y28 y54 z0 z1 z2 => rfl
          refine R_nil (tr _ _ _ _ _ _ _ _ _ _ _ _ _ _ _ _ _ _ _ _ _ _ _ _ _ _) ?_; clear tr
          refine then_n ?_
          refine rg rfl ?_
          refine Rq ?_
          refine Rq ?_
          refine Rq ?_
          refine Rq ?_
          have tr : ∀ y0 y1 y2 y3 y4 y5 y6 y7 y8 y9 y10 y11 y12 y16 y18 y19 y20 y21 y25 y26 y27 y28 y54 z0 z1 z2 z3 : AV, trim [(7, z3), (59, z2), (58, z1), (57, z0), (0, y0), (1, y1), (2, y2), (3, y3), (4, y4), (5, y5), (6, y6), (7, y7), (8, y8), (9, y9), (10, y10), (11, y11), (12, y12), (16, y16), (18, y18), (19, y19), (20, y20), (21, y21), (25, y25), (26, y26), (27, y27), (28, y28), (54, y54)] [(0, y0), (1, y1), (2, y2), (3, y3), (4, y4), (5, y5), (6, y6), (7, y7), (8, y8), (9, y9), (10, y10), (11, y11), (12, y12), (16, y16), (18, y18), (19, y19), (20, y20), (21, y21), (25, y25), (26, y26), (27, y27), (28, y28), (54, y54)] = [(0, y0), (1, y1), (2, y2), (3, y3), (4, y4), (5, y5), (6, y6), (7, z3), (8, y8), (9, y9), (10, y10), (11, y11), (12, y12), (16, y16), (18, y18), (19, y19), (20, y20), (21, y21), (25, y25), (26, y26), (27, y27), (28, y28), (54, y54)] := fun y0 y1 y2 y3 y4 y5 y6 y7 y8 y9 y10 y11 y12 y16 y18 y19 y20 y21 y25 y26 y27 y28 y54 z0 z1 z2 z3 => rfl
          refine R_nil (tr _ _ _ _ _ _ _ _ _ _ _ _ _ _ _ _ _ _ _ _ _ _ _ _ _ _ _) ?_; clear tr
          refine blk_n ?_
          refine then_n ?_
          refine rg rfl ?_
          refine Rq ?_
          refine Rq ?_
          have tr : ∀ y0 y1 y2 y3 y4 y5 y6 y7 y8 y9 y10 y11 y12 y16 y18 y19 y20 y21 y25 y26 y27 y28 y54 z0 z1 : AV, trim [(27, z1), (60, z0), (0, y0), (1, y1), (2, y2), (3, y3), (4, y4), (5, y5), (6, y6), (7, y7), (8, y8), (9, y9), (10, y10), (11, y11), (12, y12), (16, y16), (18, y18), (19, y19), (20, y20), (21, y21), (25, y25), (26, y26), (27, y27), (28, y28), (54, y54)] [(0, y0), (1, y1), (2, y2), (3, y3), (4, y4), (5, y5), (6, y6), (7, y7), (8, y8), (9, y9), (10, y10), (11, y11), (12, y12), (16, y16), (18, y18), (19, y19), (20, y20), (21, y21), (25, y25), (26, y26), (27, y27), (28, y28), (54, y54)] = [(0, y0), (1, y1), (2, y2), (3, y3), (4, y4), (5, y5), (6, y6), (7, y7), (8, y8), (9, y9), (10, y10), (11, y11), (12, y12), (16, y16), (18, y18), (19, y19), (20, y20), (21, y21), (25, y25), (26, y26), (27, z1), (28, y28), (54, y54)] := fun y0 y1 y2 y3 y4 y5 y6 y7 y8 y9 y10 y11 y12 y16 y18 y19 y20 y21 y25 y26 y27 y28 y54 z0 z1 => rfl
          refine R_nil (tr _ _ _ _ _ _ _ _ _ _ _ _ _ _ _ _ _ _ _ _ _ _ _ _ _) ?_; clear tr
          refine then_n ?_
          have f1 : (rowC (gt a u) (gt b u) (w + 1)).1 = (rowC (gt a u) (gt b u) w).1 + (if gt (gt a u) w = gt (gt b u) w then 0 else 1) := rfl
          have f2 : (rowC (gt a u) (gt b u) (w + 1)).2 = (rowC (gt a u) (gt b u) w).2 + (max (gt (gt a u) w) (gt (gt b u) w) - min (gt (gt a u) w) (gt (gt b u) w)) := rfl
          have f3 : (if gt (gt a u) w = gt (gt b u) w then (0 : Int) else 1) = 0 ∨ (if gt (gt a u) w = gt (gt b u) w then (0 : Int) else 1) = 1 := by split <;> simp
          exact ⟨_, _, ⟨w + 1, n1 + 1, m1 + (max (gt (gt a u) w) (gt (gt b u) w) - min (gt (gt a u) w) (gt (gt b u) w)), _, _, _, _, _, rfl, rfl, rfl, by omega, by rw [f1]; first | (rw [if_neg (by omega)]; omega) | (rw [if_pos (by omega)]; omega), by rw [f2]; omega, by omega, by omega⟩, by rfl, by omega⟩
        · try simp only [decide_eq_true_eq, decide_eq_false_iff_not, Bool.not_eq_true', Bool.not_eq_false', beq_iff_eq, beq_eq_false_iff_ne, ne_eq] at h4
          refine at_skip rfl ?_
          refine blk_n ?_
          refine then_n ?_
          refine rg rfl ?_
          refine Rq ?_
          refine Rq ?_
          have tr : ∀ y0 y1 y2 y3 y4 y5 y6 y7 y8 y9 y10 y11 y12 y16 y18 y19 y20 y21 y25 y26 y27 y28 y54 z0 z1 : AV, trim [(27, z1), (60, z0), (0, y0), (1, y1), (2, y2), (3, y3), (4, y4), (5, y5), (6, y6), (7, y7), (8, y8), (9, y9), (10, y10), (11, y11), (12, y12), (16, y16), (18, y18), (19, y19), (20, y20), (21, y21), (25, y25), (26, y26), (27, y27), (28, y28), (54, y54)] [(0, y0), (1, y1), (2, y2), (3, y3), (4, y4), (5, y5), (6, y6), (7, y7), (8, y8), (9, y9), (10, y10), (11, y11), (12, y12), (16, y16), (18, y18), (19, y19), (20, y20), (21, y21), (25, y25), (26, y26), (27, y27), (28, y28), (54, y54)] = [(0, y0), (1, y1), (2, y2), (3, y3), (4, y4), (5, y5), (6, y6), (7, y7), (8, y8), (9, y9), (10, y10), (11, y11), (12, y12), (16, y16), (18, y18), (19, y19), (20, y20), (21, y21), (25, y25), (26, y26), (27, z1), (28, y28), (54, y54)] := fun y0 y1 y2 y3 y4 y5 y6 y7 y8 y9 y10 y11 y12 y16 y18 y19 y20 y21 y25 y26 y27 y28 y54 z0 z1 => rfl
          refine R_nil (tr _ _ _ _ _ _ _ _ _ _ _ _ _ _ _ _ _ _ _ _ _ _ _ _ _) ?_; clear tr
          refine then_n ?_
          have f1 : (rowC (gt a u) (gt b u) (w + 1)).1 = (rowC (gt a u) (gt b u) w).1 + (if gt (gt a u) w = gt (gt b u) w then 0 else 1) := rfl
          have f2 : (rowC (gt a u) (gt b u) (w + 1)).2 = (rowC (gt a u) (gt b u) w).2 + (max (gt (gt a u) w) (gt (gt b u) w) - min (gt (gt a u) w) (gt (gt b u) w)) := rfl
          have f3 : (if gt (gt a u) w = gt (gt b u) w then (0 : Int) else 1) = 0 ∨ (if gt (gt a u) w = gt (gt b u) w then (0 : Int) else 1) = 1 := by split <;> simp
          exact ⟨_, _, ⟨w + 1, n1, m1, _, _, _, _, _, rfl, rfl, rfl, by omega, by rw [f1]; first | (rw [if_neg (by omega)]; omega) | (rw [if_pos (by omega)]; omega), by rw [f2]; omega, by omega, by omega⟩, by rfl, by omega⟩
      · try simp only [decide_eq_true_eq, decide_eq_false_iff_not, Bool.not_eq_true', Bool.not_eq_false', beq_iff_eq, beq_eq_false_iff_ne, ne_eq] at h3
        refine at_exit rfl ?_
        refine then_x ?_
        refine then_x ?_
        refine blk_x ?_
        refine blk_n ?_
        refine then_n ?_
        refine rg rfl ?_
        refine Rq ?_
        refine Rq ?_
        have tr : ∀ y0 y1 y2 y3 y4 y5 y6 y7 y8 y9 y10 y11 y12 y16 y18 y19 y20 y21 y25 y26 y27 y28 y54 z0 z1 : AV, trim [(20, z1), (61, z0), (0, y0), (1, y1), (2, y2), (3, y3), (4, y4), (5, y5), (6, y6), (7, y7), (8, y8), (9, y9), (10, y10), (11, y11), (12, y12), (16, y16), (18, y18), (19, y19), (20, y20), (21, y21), (25, y25), (26, y26), (27, y27), (28, y28), (54, y54)] [(0, y0), (1, y1), (2, y2), (3, y3), (4, y4), (5, y5), (6, y6), (7, y7), (8, y8), (9, y9), (10, y10), (11, y11), (12, y12), (16, y16), (18, y18), (19, y19), (20, y20), (21, y21), (25, y25), (26, y26), (27, y27), (28, y28), (54, y54)] = [(0, y0), (1, y1), (2, y2), (3, y3), (4, y4), (5, y5), (6, y6), (7, y7), (8, y8), (9, y9), (10, y10), (11, y11), (12, y12), (16, y16), (18, y18), (19, y19), (20, z1), (21, y21), (25, y25), (26, y26), (27, y27), (28, y28), (54, y54)] := fun y0 y1 y2 y3 y4 y5 y6 y7 y8 y9 y10 y11 y12 y16 y18 y19 y20 y21 y25 y26 y27 y28 y54 z0 z1 => rfl
        refine R_nil (tr _ _ _ _ _ _ _ _ _ _ _ _ _ _ _ _ _ _ _ _ _ _ _ _ _) ?_; clear tr
        refine then_n ?_
        have e1 : (tabC a b (u + 1)).1 = (tabC a b u).1 + (rowC (gt a u) (gt b u) (gt a u).length).1 := rfl
        have e2 : (tabC a b (u + 1)).2 = (tabC a b u).2 + (rowC (gt a u) (gt b u) (gt a u).length).2 := rfl
        have ew : w = (gt a u).length := by omega
        subst ew
        exact ⟨_, _, ⟨u + 1, n1, m1, _, _, _, _, _, _, _, _, _, _, _, rfl, rfl, rfl, by omega, by omega, by omega, by omega, by omega⟩, by rfl, by omega⟩
    · try simp only [decide_eq_true_eq, decide_eq_false_iff_not, Bool.not_eq_true', Bool.not_eq_false', beq_iff_eq, beq_eq_false_iff_ne, ne_eq] at h2
      refine at_exit rfl ?_
      refine then_x ?_
      refine then_x ?_
      refine blk_x ?_
      refine then_n ?_
      refine at_seq rfl ?_
      refine rg rfl ?_
      refine Rq ?_
      refine Rq ?_
      refine Rq ?_
      refine Rq ?_
      have tr : ∀ y0 y1 y2 y3 y4 y5 y6 y7 y8 y9 y10 y11 y12 y16 y18 y19 y20 y21 y25 y26 y27 y28 y54 z0 z1 z2 z3 : AV, trim [(5, z3), (4, z2), (63, z1), (62, z0), (0, y0), (1, y1), (2, y2), (3, y3), (4, y4), (5, y5), (6, y6), (7, y7), (8, y8), (9, y9), (10, y10), (11, y11), (12, y12), (16, y16), (18, y18), (19, y19), (20, y20), (21, y21), (25, y25), (26, y26), (27, y27), (28, y28), (54, y54)] [(0, y0), (1, y1), (2, y2), (3, y3), (4, y4), (5, y5), (6, y6), (7, y7), (8, y8), (9, y9), (10, y10), (11, y11), (12, y12), (16, y16), (18, y18), (19, y19), (20, y20), (21, y21), (25, y25), (26, y26), (27, y27), (28, y28), (54, y54)] = [(0, y0), (1, y1), (2, y2), (3, y3), (4, z2), (5, z3), (6, y6), (7, y7), (8, y8), (9, y9), (10, y10), (11, y11), (12, y12), (16, y16), (18, y18), (19, y19), (20, y20), (21, y21), (25, y25), (26, y26), (27, y27), (28, y28), (54, y54)] := fun y0 y1 y2 y3 y4 y5 y6 y7 y8 y9 y10 y11 y12 y16 y18 y19 y20 y21 y25 y26 y27 y28 y54 z0 z1 z2 z3 => rfl
      refine R_nil (tr _ _ _ _ _ _ _ _ _ _ _ _ _ _ _ _ _ _ _ _ _ _ _ _ _ _ _) ?_; clear tr
      refine then_n ?_
      refine at_ret rfl ?_
      refine fpure ?_
      refine ⟨?_, rfl⟩
      rw [raisedS, if_pos hal, hn, hm, show a.length = u by omega]

end Go.Proofs.Ytdkhgpdojjdadaa
