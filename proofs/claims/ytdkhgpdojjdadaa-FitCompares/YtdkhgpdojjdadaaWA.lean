/-
  Walks of chapter 38. The steps are written by program (walk.py).
-/
import Derived.Test.YtdkhgpdojjdadaaTy
set_option linter.unusedSimpArgs false
set_option linter.unusedVariables false
set_option maxHeartbeats 40000000
set_option maxRecDepth 4000
namespace Go.Proofs.Ytdkhgpdojjdadaa
open Go Go.Am

abbrev rowAV (r : List Int) : AV := .sl r.length (r.map AV.i)
abbrev rowsAV (r : List (List Int)) : AV := .sl r.length (r.map rowAV)
def smallB (t : List (List Int)) : Bool := decide (t.length ≤ 10) && t.all (fun r => decide (r.length ≤ 12))
def okN (n : Int) : Prop := 0 ≤ n ∧ n ≤ 10000
def SameLen (r : List (List Int)) : Prop := ∀ u, u < r.length → (gt r u).length = (gt r 0).length
def InRange (r : List (List Int)) : Prop := ∀ u, u < r.length → ∀ w, w < (gt r u).length → okN (gt (gt r u) w)
open Classical in
noncomputable def shapeS (r : List (List Int)) : Int :=
  if r.length < 2 ∨ (gt r 0).length = 0 then 1 else
  if 91 < r.length ∨ 10 < (gt r 0).length then 9 else
  if ¬ SameLen r then 1 else if ¬ InRange r then 2 else 0
def Zero0 (r : List (List Int)) : Prop := ∀ w, w < (gt r 0).length → gt (gt r 0) w = 0
open Classical in
noncomputable def endsS (r : List (List Int)) : Int :=
  if ¬ Zero0 r then 1 else if gt (gt r (r.length - 1)) 0 ≠ 10000 then 12 else 0
open Classical in
noncomputable def rawS (r : List (List Int)) : Int := if shapeS r ≠ 0 then shapeS r else endsS r
def Down (r : List (List Int)) : Prop := ∀ u, u < r.length → ∀ w, w < (gt r u).length → (0 < u → gt (gt r (u - 1)) w ≤ gt (gt r u) w) ∧ (w + 1 < (gt r u).length → gt (gt r u) (w + 1) ≤ gt (gt r u) w)
def Conc (r : List (List Int)) : Prop := ∀ u, u < r.length → 2 ≤ u → ∀ w, w < (gt r u).length → gt (gt r u) w - gt (gt r (u - 1)) w ≤ gt (gt r (u - 1)) w - gt (gt r (u - 2)) w
open Classical in
noncomputable def checkS (r : List (List Int)) : Int := if shapeS r ≠ 0 then shapeS r else if endsS r ≠ 0 then endsS r else if ¬ Down r then 8 else if ¬ Conc r then 13 else 0
/-- What a table without an error of its shape is. -/
structure Shaped (r : List (List Int)) : Prop where
  two : 2 ≤ r.length
  most : r.length ≤ 91
  one : 0 < (gt r 0).length
  ten : (gt r 0).length ≤ 10
  len : SameLen r
  rng : InRange r
theorem shaped_of {r : List (List Int)} (h : shapeS r = 0) : Shaped r := by
  unfold shapeS at h
  split at h
  · cases h
  · split at h
    · cases h
    · split at h
      · cases h
      · split at h
        · cases h
        · rename_i h1 h2 h3 h4
          exact ⟨by omega, by omega, by omega, by omega, Classical.not_not.mp h3, Classical.not_not.mp h4⟩
theorem Shaped.lenU {r : List (List Int)} (h : Shaped r) {u : Nat} (hu : u < r.length) : (gt r u).length = (gt r 0).length := h.len u hu

theorem small_ok (lim : Nat) (H : Heap) (b : Nat) (ts : List (List (List Int))) (hH : hget H b = some (ts.map rowsAV)) (hn : ts.length ≤ 4) :
    ACall sig lim 11 [.own 1 b 0 ts.length] H fun r H' => r = .v (.bool (ts.all smallB)) ∧ H' = H := by
  have hb := hget_lt hH
  refine ACall_pure (fa := fa11) rfl rfl rfl rfl ?_
  have tr : ∀ a0 : AV, env0 fa11.keep [a0] = [(0, a0), (2, .any), (4, .any), (6, .any), (7, .any), (8, .any), (9, .any), (10, .any), (16, .any), (18, .any), (19, .any), (20, .any), (21, .any), (26, .any)] := fun a0 => rfl
  refine W_to (tr _) ?_; clear tr
  refine at_seq rfl ?_
  refine rg rfl ?_
  refine Rq ?_
  have tr : ∀ y0 y2 y4 y6 y7 y8 y9 y10 y16 y18 y19 y20 y21 y26 z0 : AV, trim [(2, z0), (0, y0), (2, y2), (4, y4), (6, y6), (7, y7), (8, y8), (9, y9), (10, y10), (16, y16), (18, y18), (19, y19), (20, y20), (21, y21), (26, y26)] [(0, y0), (2, y2), (4, y4), (6, y6), (7, y7), (8, y8), (9, y9), (10, y10), (16, y16), (18, y18), (19, y19), (20, y20), (21, y21), (26, y26)] = [(0, y0), (2, z0), (4, y4), (6, y6), (7, y7), (8, y8), (9, y9), (10, y10), (16, y16), (18, y18), (19, y19), (20, y20), (21, y21), (26, y26)] := fun y0 y2 y4 y6 y7 y8 y9 y10 y16 y18 y19 y20 y21 y26 z0 => rfl
  refine R_nil (tr _ _ _ _ _ _ _ _ _ _ _ _ _ _ _) ?_; clear tr
  refine then_n ?_
  refine at_seq rfl ?_
  refine at_seq rfl ?_
  refine rg rfl ?_
  refine Rq ?_
  refine Rq ?_
  refine Rq ?_
  have tr : ∀ y0 y2 y4 y6 y7 y8 y9 y10 y16 y18 y19 y20 y21 y26 z0 z1 z2 : AV, trim [(9, z2), (8, z1), (7, z0), (0, y0), (2, y2), (4, y4), (6, y6), (7, y7), (8, y8), (9, y9), (10, y10), (16, y16), (18, y18), (19, y19), (20, y20), (21, y21), (26, y26)] [(0, y0), (2, y2), (4, y4), (6, y6), (7, y7), (8, y8), (9, y9), (10, y10), (16, y16), (18, y18), (19, y19), (20, y20), (21, y21), (26, y26)] = [(0, y0), (2, y2), (4, y4), (6, y6), (7, z0), (8, z1), (9, z2), (10, y10), (16, y16), (18, y18), (19, y19), (20, y20), (21, y21), (26, y26)] := fun y0 y2 y4 y6 y7 y8 y9 y10 y16 y18 y19 y20 y21 y26 z0 z1 z2 => rfl
  refine R_nil (tr _ _ _ _ _ _ _ _ _ _ _ _ _ _ _ _ _) ?_; clear tr
  refine then_n ?_
  refine at_block rfl ?_
  refine loop_n rfl (fun mm kv H' => ∃ u : Nat, ∃ X : Heap, ∃ x2 x4 x6 x10 x16 x18 x19 x20 x21 x26 : AV, (kv = [(2, x2), (4, x4), (6, x6), (9, AV.i u), (10, x10), (16, x16), (18, x18), (19, x19), (20, x20), (21, x21), (26, x26)]) ∧ (mm = ts.length - u) ∧ (H' = H ++ X) ∧ (u ≤ ts.length) ∧ (ts.all smallB = (ts.drop u).all smallB)) ⟨0, [], _, _, _, _, _, _, _, _, _, _, rfl, rfl, by simp, by omega, by simp⟩ (by rfl) ?_
  rintro mm kv H2 ⟨u, X, x2, x4, x6, x10, x16, x18, x19, x20, x21, x26, rfl, rfl, hX, hu, hall⟩
  have tr : ∀ y0 y2 y4 y6 y7 y8 y9 y10 y16 y18 y19 y20 y21 y26 z2 z4 z6 z9 z10 z16 z18 z19 z20 z21 z26 : AV, upd [(0, y0), (2, y2), (4, y4), (6, y6), (7, y7), (8, y8), (9, y9), (10, y10), (16, y16), (18, y18), (19, y19), (20, y20), (21, y21), (26, y26)] [(2, z2), (4, z4), (6, z6), (9, z9), (10, z10), (16, z16), (18, z18), (19, z19), (20, z20), (21, z21), (26, z26)] = [(0, y0), (2, z2), (4, z4), (6, z6), (7, y7), (8, y8), (9, z9), (10, z10), (16, z16), (18, z18), (19, z19), (20, z20), (21, z21), (26, z26)] := fun y0 y2 y4 y6 y7 y8 y9 y10 y16 y18 y19 y20 y21 y26 z2 z4 z6 z9 z10 z16 z18 z19 z20 z21 z26 => rfl
  refine W_to (tr _ _ _ _ _ _ _ _ _ _ _ _ _ _ _ _ _ _ _ _ _ _ _ _ _) ?_; clear tr
  subst hX
  refine at_seq rfl ?_
  refine rg rfl ?_
  refine Rq ?_
  have tr : ∀ y0 y2 y4 y6 y7 y8 y9 y10 y16 y18 y19 y20 y21 y26 z0 : AV, trim [(10, z0), (0, y0), (2, y2), (4, y4), (6, y6), (7, y7), (8, y8), (9, y9), (10, y10), (16, y16), (18, y18), (19, y19), (20, y20), (21, y21), (26, y26)] [(0, y0), (2, y2), (4, y4), (6, y6), (7, y7), (8, y8), (9, y9), (10, y10), (16, y16), (18, y18), (19, y19), (20, y20), (21, y21), (26, y26)] = [(0, y0), (2, y2), (4, y4), (6, y6), (7, y7), (8, y8), (9, y9), (10, z0), (16, y16), (18, y18), (19, y19), (20, y20), (21, y21), (26, y26)] := fun y0 y2 y4 y6 y7 y8 y9 y10 y16 y18 y19 y20 y21 y26 z0 => rfl
  refine R_nil (tr _ _ _ _ _ _ _ _ _ _ _ _ _ _ _) ?_; clear tr
  refine then_n ?_
  refine at_seq rfl ?_
  refine cdd (fun h1 => ?_) (fun h1 => ?_)
  · try simp only [decide_eq_true_eq, decide_eq_false_iff_not, Bool.not_eq_true', Bool.not_eq_false', beq_iff_eq, beq_eq_false_iff_ne, ne_eq] at h1
    refine at_skip rfl ?_
    refine then_n ?_
    refine at_seq rfl ?_
    refine at_block rfl ?_
    refine at_seq rfl ?_
    refine rg rfl ?_
    refine Rq ?_
    refine R_q rfl (by simp (disch := first | omega | (simp only [List.length_map, List.length_append, List.length_set, List.length_cons, List.length_nil, List.length_take, List.length_drop]; omega)) only [go_sem, ↓reduceIte, Nat.reduceEqDiff, reduceCtorEq, hH]; rfl) ?_
    refine R_alloc (by simp (disch := first | omega | (simp only [List.length_map, List.length_append, List.length_set, List.length_cons, List.length_nil, List.length_take, List.length_drop]; omega)) only [go_sem, ↓reduceIte, Nat.reduceEqDiff, reduceCtorEq, hH]; rfl) rfl (by simp only [List.map_cons, List.map_nil]; rfl) ?_
    refine R_store ty24 (by simp (disch := first | omega | (simp only [List.length_map, List.length_append, List.length_set, List.length_cons, List.length_nil, List.length_take, List.length_drop]; omega)) only [go_sem, ↓reduceIte, Nat.reduceEqDiff, reduceCtorEq, hH]; rfl) (by simp (disch := first | omega | (simp only [List.length_map, List.length_append, List.length_set, List.length_cons, List.length_nil, List.length_take, List.length_drop]; omega)) only [go_sem, ↓reduceIte, Nat.reduceEqDiff, reduceCtorEq, hH]; rfl) (by simp (disch := first | omega | (simp only [List.length_map, List.length_append, List.length_set, List.length_cons, List.length_nil, List.length_take, List.length_drop]; omega)) only [go_sem, ↓reduceIte, Nat.reduceEqDiff, reduceCtorEq, hH]; rfl) (by simp) (by rfl) (by simp (disch := first | omega | (simp only [List.length_map, List.length_append, List.length_set, List.length_cons, List.length_nil, List.length_take, List.length_drop]; omega)) only [go_sem, ↓reduceIte, Nat.reduceEqDiff, reduceCtorEq, hH]; rfl) ?_
    have tr : ∀ y0 y2 y4 y6 y7 y8 y9 y10 y16 y18 y19 y20 y21 y26 z0 z1 z2 : AV, trim [(4, z2), (12, z1), (11, z0), (0, y0), (2, y2), (4, y4), (6, y6), (7, y7), (8, y8), (9, y9), (10, y10), (16, y16), (18, y18), (19, y19), (20, y20), (21, y21), (26, y26)] [(0, y0), (2, y2), (4, y4), (6, y6), (7, y7), (8, y8), (9, y9), (10, y10), (16, y16), (18, y18), (19, y19), (20, y20), (21, y21), (26, y26)] = [(0, y0), (2, y2), (4, z2), (6, y6), (7, y7), (8, y8), (9, y9), (10, y10), (16, y16), (18, y18), (19, y19), (20, y20), (21, y21), (26, y26)] := fun y0 y2 y4 y6 y7 y8 y9 y10 y16 y18 y19 y20 y21 y26 z0 z1 z2 => rfl
    refine R_nil (tr _ _ _ _ _ _ _ _ _ _ _ _ _ _ _ _ _) ?_; clear tr
    refine then_n ?_
    refine at_seq rfl ?_
    refine at_seq rfl ?_
    refine rg rfl ?_
    refine Rq ?_
    refine R_q rfl (by simp (disch := first | omega | (simp only [List.length_map, List.length_append, List.length_set, List.length_cons, List.length_nil, List.length_take, List.length_drop]; omega)) only [go_sem, ↓reduceIte, Nat.reduceEqDiff, reduceCtorEq, hH]; rfl) ?_
    refine Rq ?_
    refine Rq ?_
    have tr : ∀ y0 y2 y4 y6 y7 y8 y9 y10 y16 y18 y19 y20 y21 y26 z0 z1 z2 z3 : AV, trim [(16, z3), (15, z2), (14, z1), (13, z0), (0, y0), (2, y2), (4, y4), (6, y6), (7, y7), (8, y8), (9, y9), (10, y10), (16, y16), (18, y18), (19, y19), (20, y20), (21, y21), (26, y26)] [(0, y0), (2, y2), (4, y4), (6, y6), (7, y7), (8, y8), (9, y9), (10, y10), (16, y16), (18, y18), (19, y19), (20, y20), (21, y21), (26, y26)] = [(0, y0), (2, y2), (4, y4), (6, y6), (7, y7), (8, y8), (9, y9), (10, y10), (16, z3), (18, y18), (19, y19), (20, y20), (21, y21), (26, y26)] := fun y0 y2 y4 y6 y7 y8 y9 y10 y16 y18 y19 y20 y21 y26 z0 z1 z2 z3 => rfl
    refine R_nil (tr _ _ _ _ _ _ _ _ _ _ _ _ _ _ _ _ _ _) ?_; clear tr
    refine then_n ?_
    refine cdd (fun h2 => ?_) (fun h2 => ?_)
    · try simp only [decide_eq_true_eq, decide_eq_false_iff_not, Bool.not_eq_true', Bool.not_eq_false', beq_iff_eq, beq_eq_false_iff_ne, ne_eq] at h2
      refine at_seq rfl ?_
      refine rg rfl ?_
      refine Rq ?_
      have tr : ∀ y0 y2 y4 y6 y7 y8 y9 y10 y16 y18 y19 y20 y21 y26 z0 : AV, trim [(2, z0), (0, y0), (2, y2), (4, y4), (6, y6), (7, y7), (8, y8), (9, y9), (10, y10), (16, y16), (18, y18), (19, y19), (20, y20), (21, y21), (26, y26)] [(0, y0), (2, y2), (4, y4), (6, y6), (7, y7), (8, y8), (9, y9), (10, y10), (16, y16), (18, y18), (19, y19), (20, y20), (21, y21), (26, y26)] = [(0, y0), (2, z0), (4, y4), (6, y6), (7, y7), (8, y8), (9, y9), (10, y10), (16, y16), (18, y18), (19, y19), (20, y20), (21, y21), (26, y26)] := fun y0 y2 y4 y6 y7 y8 y9 y10 y16 y18 y19 y20 y21 y26 z0 => rfl
      refine R_nil (tr _ _ _ _ _ _ _ _ _ _ _ _ _ _ _) ?_; clear tr
      refine then_n ?_
      refine at_ret rfl ?_
      refine then_r ?_
      refine blk_r ?_
      refine then_r ?_
      refine then_r ?_
      refine blk_r ?_
      refine then_r ?_
      refine fpure ?_
      refine ⟨?_, rfl⟩
      have hs : smallB (gt ts u) = false := by rw [smallB, decide_eq_false (by omega)]; rfl
      rw [hall, drop_gt ts u (by omega), List.all_cons, hs, Bool.false_and]
    · try simp only [decide_eq_true_eq, decide_eq_false_iff_not, Bool.not_eq_true', Bool.not_eq_false', beq_iff_eq, beq_eq_false_iff_ne, ne_eq] at h2
      refine at_skip rfl ?_
      refine then_n ?_
      refine at_seq rfl ?_
      refine rg rfl ?_
      refine Rq ?_
      refine R_q rfl (by simp (disch := first | omega | (simp only [List.length_map, List.length_append, List.length_set, List.length_cons, List.length_nil, List.length_take, List.length_drop]; omega)) only [go_sem, ↓reduceIte, Nat.reduceEqDiff, reduceCtorEq, hH]; rfl) ?_
      refine Rq ?_
      refine Rq ?_
      have tr : ∀ y0 y2 y4 y6 y7 y8 y9 y10 y16 y18 y19 y20 y21 y26 z0 z1 z2 z3 : AV, trim [(20, z3), (19, z2), (18, z1), (17, z0), (0, y0), (2, y2), (4, y4), (6, y6), (7, y7), (8, y8), (9, y9), (10, y10), (16, y16), (18, y18), (19, y19), (20, y20), (21, y21), (26, y26)] [(0, y0), (2, y2), (4, y4), (6, y6), (7, y7), (8, y8), (9, y9), (10, y10), (16, y16), (18, y18), (19, y19), (20, y20), (21, y21), (26, y26)] = [(0, y0), (2, y2), (4, y4), (6, y6), (7, y7), (8, y8), (9, y9), (10, y10), (16, y16), (18, z1), (19, z2), (20, z3), (21, y21), (26, y26)] := fun y0 y2 y4 y6 y7 y8 y9 y10 y16 y18 y19 y20 y21 y26 z0 z1 z2 z3 => rfl
      refine R_nil (tr _ _ _ _ _ _ _ _ _ _ _ _ _ _ _ _ _ _) ?_; clear tr
      refine then_n ?_
      refine at_block rfl ?_
      refine loop_n rfl (fun mm kv H' => ∃ w : Nat, ∃ x2 x6 x21 x26 : AV, (kv = [(2, x2), (6, x6), (20, AV.i w), (21, x21), (26, x26)]) ∧ (mm = (gt ts u).length - w) ∧ (H' = H ++ X ++ [some [rowsAV (gt ts u)]]) ∧ (w ≤ (gt ts u).length) ∧ ((gt ts u).all (fun r => decide (r.length ≤ 12)) = ((gt ts u).drop w).all (fun r => decide (r.length ≤ 12)))) ⟨0, _, _, _, _, rfl, rfl, rfl, by omega, by simp⟩ (by rfl) ?_
      rintro mm kv H' ⟨w, x2, x6, x21, x26, rfl, rfl, rfl, hw, hal⟩
      have tr : ∀ y0 y2 y4 y6 y7 y8 y9 y10 y16 y18 y19 y20 y21 y26 z2 z6 z20 z21 z26 : AV, upd [(0, y0), (2, y2), (4, y4), (6, y6), (7, y7), (8, y8), (9, y9), (10, y10), (16, y16), (18, y18), (19, y19), (20, y20), (21, y21), (26, y26)] [(2, z2), (6, z6), (20, z20), (21, z21), (26, z26)] = [(0, y0), (2, z2), (4, y4), (6, z6), (7, y7), (8, y8), (9, y9), (10, y10), (16, y16), (18, y18), (19, y19), (20, z20), (21, z21), (26, z26)] := fun y0 y2 y4 y6 y7 y8 y9 y10 y16 y18 y19 y20 y21 y26 z2 z6 z20 z21 z26 => rfl
      refine W_to (tr _ _ _ _ _ _ _ _ _ _ _ _ _ _ _ _ _ _ _) ?_; clear tr
      refine at_seq rfl ?_
      refine rg rfl ?_
      refine Rq ?_
      have tr : ∀ y0 y2 y4 y6 y7 y8 y9 y10 y16 y18 y19 y20 y21 y26 z0 : AV, trim [(21, z0), (0, y0), (2, y2), (4, y4), (6, y6), (7, y7), (8, y8), (9, y9), (10, y10), (16, y16), (18, y18), (19, y19), (20, y20), (21, y21), (26, y26)] [(0, y0), (2, y2), (4, y4), (6, y6), (7, y7), (8, y8), (9, y9), (10, y10), (16, y16), (18, y18), (19, y19), (20, y20), (21, y21), (26, y26)] = [(0, y0), (2, y2), (4, y4), (6, y6), (7, y7), (8, y8), (9, y9), (10, y10), (16, y16), (18, y18), (19, y19), (20, y20), (21, z0), (26, y26)] := fun y0 y2 y4 y6 y7 y8 y9 y10 y16 y18 y19 y20 y21 y26 z0 => rfl
      refine R_nil (tr _ _ _ _ _ _ _ _ _ _ _ _ _ _ _) ?_; clear tr
      refine then_n ?_
      refine at_seq rfl ?_
      refine cdd (fun h3 => ?_) (fun h3 => ?_)
      · try simp only [decide_eq_true_eq, decide_eq_false_iff_not, Bool.not_eq_true', Bool.not_eq_false', beq_iff_eq, beq_eq_false_iff_ne, ne_eq] at h3
        refine at_skip rfl ?_
        refine then_n ?_
        refine at_seq rfl ?_
        refine at_block rfl ?_
        refine at_seq rfl ?_
        refine rg rfl ?_
        refine Rq ?_
        refine R_q rfl (by simp (disch := first | omega | (simp only [List.length_map, List.length_append, List.length_set, List.length_cons, List.length_nil, List.length_take, List.length_drop]; omega)) only [go_sem, ↓reduceIte, Nat.reduceEqDiff, reduceCtorEq, hH]; rfl) ?_
        refine Rq ?_
        have tr : ∀ y0 y2 y4 y6 y7 y8 y9 y10 y16 y18 y19 y20 y21 y26 z0 z1 z2 : AV, trim [(6, z2), (23, z1), (22, z0), (0, y0), (2, y2), (4, y4), (6, y6), (7, y7), (8, y8), (9, y9), (10, y10), (16, y16), (18, y18), (19, y19), (20, y20), (21, y21), (26, y26)] [(0, y0), (2, y2), (4, y4), (6, y6), (7, y7), (8, y8), (9, y9), (10, y10), (16, y16), (18, y18), (19, y19), (20, y20), (21, y21), (26, y26)] = [(0, y0), (2, y2), (4, y4), (6, z2), (7, y7), (8, y8), (9, y9), (10, y10), (16, y16), (18, y18), (19, y19), (20, y20), (21, y21), (26, y26)] := fun y0 y2 y4 y6 y7 y8 y9 y10 y16 y18 y19 y20 y21 y26 z0 z1 z2 => rfl
        refine R_nil (tr _ _ _ _ _ _ _ _ _ _ _ _ _ _ _ _ _) ?_; clear tr
        refine then_n ?_
        refine at_seq rfl ?_
        refine rg rfl ?_
        refine Rq ?_
        refine Rq ?_
        refine Rq ?_
        have tr : ∀ y0 y2 y4 y6 y7 y8 y9 y10 y16 y18 y19 y20 y21 y26 z0 z1 z2 : AV, trim [(26, z2), (25, z1), (24, z0), (0, y0), (2, y2), (4, y4), (6, y6), (7, y7), (8, y8), (9, y9), (10, y10), (16, y16), (18, y18), (19, y19), (20, y20), (21, y21), (26, y26)] [(0, y0), (2, y2), (4, y4), (6, y6), (7, y7), (8, y8), (9, y9), (10, y10), (16, y16), (18, y18), (19, y19), (20, y20), (21, y21), (26, y26)] = [(0, y0), (2, y2), (4, y4), (6, y6), (7, y7), (8, y8), (9, y9), (10, y10), (16, y16), (18, y18), (19, y19), (20, y20), (21, y21), (26, z2)] := fun y0 y2 y4 y6 y7 y8 y9 y10 y16 y18 y19 y20 y21 y26 z0 z1 z2 => rfl
        refine R_nil (tr _ _ _ _ _ _ _ _ _ _ _ _ _ _ _ _ _) ?_; clear tr
        refine then_n ?_
        refine cdd (fun h4 => ?_) (fun h4 => ?_)
        · try simp only [decide_eq_true_eq, decide_eq_false_iff_not, Bool.not_eq_true', Bool.not_eq_false', beq_iff_eq, beq_eq_false_iff_ne, ne_eq] at h4
          refine at_seq rfl ?_
          refine rg rfl ?_
          refine Rq ?_
          have tr : ∀ y0 y2 y4 y6 y7 y8 y9 y10 y16 y18 y19 y20 y21 y26 z0 : AV, trim [(2, z0), (0, y0), (2, y2), (4, y4), (6, y6), (7, y7), (8, y8), (9, y9), (10, y10), (16, y16), (18, y18), (19, y19), (20, y20), (21, y21), (26, y26)] [(0, y0), (2, y2), (4, y4), (6, y6), (7, y7), (8, y8), (9, y9), (10, y10), (16, y16), (18, y18), (19, y19), (20, y20), (21, y21), (26, y26)] = [(0, y0), (2, z0), (4, y4), (6, y6), (7, y7), (8, y8), (9, y9), (10, y10), (16, y16), (18, y18), (19, y19), (20, y20), (21, y21), (26, y26)] := fun y0 y2 y4 y6 y7 y8 y9 y10 y16 y18 y19 y20 y21 y26 z0 => rfl
          refine R_nil (tr _ _ _ _ _ _ _ _ _ _ _ _ _ _ _) ?_; clear tr
          refine then_n ?_
          refine at_ret rfl ?_
          refine blk_r ?_
          refine then_r ?_
          refine then_r ?_
          refine blk_r ?_
          refine blk_r ?_
          refine then_r ?_
          refine then_r ?_
          refine blk_r ?_
          refine then_r ?_
          refine fpure ?_
          refine ⟨?_, rfl⟩
          have hs : smallB (gt ts u) = false := by rw [smallB, hal, drop_gt (gt ts u) w (by omega), List.all_cons, decide_eq_false (by omega : ¬ (gt (gt ts u) w).length ≤ 12), Bool.false_and, Bool.and_false]
          rw [hall, drop_gt ts u (by omega), List.all_cons, hs, Bool.false_and]
        · try simp only [decide_eq_true_eq, decide_eq_false_iff_not, Bool.not_eq_true', Bool.not_eq_false', beq_iff_eq, beq_eq_false_iff_ne, ne_eq] at h4
          refine at_skip rfl ?_
          refine blk_n ?_
          refine then_n ?_
          refine rg rfl ?_
          refine Rq ?_
          refine Rq ?_
          have tr : ∀ y0 y2 y4 y6 y7 y8 y9 y10 y16 y18 y19 y20 y21 y26 z0 z1 : AV, trim [(20, z1), (27, z0), (0, y0), (2, y2), (4, y4), (6, y6), (7, y7), (8, y8), (9, y9), (10, y10), (16, y16), (18, y18), (19, y19), (20, y20), (21, y21), (26, y26)] [(0, y0), (2, y2), (4, y4), (6, y6), (7, y7), (8, y8), (9, y9), (10, y10), (16, y16), (18, y18), (19, y19), (20, y20), (21, y21), (26, y26)] = [(0, y0), (2, y2), (4, y4), (6, y6), (7, y7), (8, y8), (9, y9), (10, y10), (16, y16), (18, y18), (19, y19), (20, z1), (21, y21), (26, y26)] := fun y0 y2 y4 y6 y7 y8 y9 y10 y16 y18 y19 y20 y21 y26 z0 z1 => rfl
          refine R_nil (tr _ _ _ _ _ _ _ _ _ _ _ _ _ _ _ _) ?_; clear tr
          refine then_n ?_
          exact ⟨_, _, ⟨w + 1, _, _, _, _, rfl, rfl, rfl, by omega, by rw [hal, drop_gt (gt ts u) w (by omega), List.all_cons, decide_eq_true (by omega : (gt (gt ts u) w).length ≤ 12), Bool.true_and]⟩, by rfl, by omega⟩
      · try simp only [decide_eq_true_eq, decide_eq_false_iff_not, Bool.not_eq_true', Bool.not_eq_false', beq_iff_eq, beq_eq_false_iff_ne, ne_eq] at h3
        refine at_exit rfl ?_
        refine then_x ?_
        refine then_x ?_
        refine blk_x ?_
        refine blk_n ?_
        refine then_n ?_
        refine rg rfl ?_
        refine Rq ?_
        refine Rq ?_
        have tr : ∀ y0 y2 y4 y6 y7 y8 y9 y10 y16 y18 y19 y20 y21 y26 z0 z1 : AV, trim [(9, z1), (28, z0), (0, y0), (2, y2), (4, y4), (6, y6), (7, y7), (8, y8), (9, y9), (10, y10), (16, y16), (18, y18), (19, y19), (20, y20), (21, y21), (26, y26)] [(0, y0), (2, y2), (4, y4), (6, y6), (7, y7), (8, y8), (9, y9), (10, y10), (16, y16), (18, y18), (19, y19), (20, y20), (21, y21), (26, y26)] = [(0, y0), (2, y2), (4, y4), (6, y6), (7, y7), (8, y8), (9, z1), (10, y10), (16, y16), (18, y18), (19, y19), (20, y20), (21, y21), (26, y26)] := fun y0 y2 y4 y6 y7 y8 y9 y10 y16 y18 y19 y20 y21 y26 z0 z1 => rfl
        refine R_nil (tr _ _ _ _ _ _ _ _ _ _ _ _ _ _ _ _) ?_; clear tr
        refine then_n ?_
        have hsm : smallB (gt ts u) = true := by rw [smallB, hal, List.drop_eq_nil_of_le (by omega)]; simp; omega
        exact ⟨_, _, ⟨u + 1, X ++ [some [rowsAV (gt ts u)]], _, _, _, _, _, _, _, _, _, _, rfl, rfl, by simp, by omega, by rw [hall, drop_gt ts u (by omega), List.all_cons, hsm, Bool.true_and]⟩, by rfl, by omega⟩
  · try simp only [decide_eq_true_eq, decide_eq_false_iff_not, Bool.not_eq_true', Bool.not_eq_false', beq_iff_eq, beq_eq_false_iff_ne, ne_eq] at h1
    refine at_exit rfl ?_
    refine then_x ?_
    refine then_x ?_
    refine blk_x ?_
    refine then_n ?_
    refine at_seq rfl ?_
    refine rg rfl ?_
    refine Rq ?_
    have tr : ∀ y0 y2 y4 y6 y7 y8 y9 y10 y16 y18 y19 y20 y21 y26 z0 : AV, trim [(2, z0), (0, y0), (2, y2), (4, y4), (6, y6), (7, y7), (8, y8), (9, y9), (10, y10), (16, y16), (18, y18), (19, y19), (20, y20), (21, y21), (26, y26)] [(0, y0), (2, y2), (4, y4), (6, y6), (7, y7), (8, y8), (9, y9), (10, y10), (16, y16), (18, y18), (19, y19), (20, y20), (21, y21), (26, y26)] = [(0, y0), (2, z0), (4, y4), (6, y6), (7, y7), (8, y8), (9, y9), (10, y10), (16, y16), (18, y18), (19, y19), (20, y20), (21, y21), (26, y26)] := fun y0 y2 y4 y6 y7 y8 y9 y10 y16 y18 y19 y20 y21 y26 z0 => rfl
    refine R_nil (tr _ _ _ _ _ _ _ _ _ _ _ _ _ _ _) ?_; clear tr
    refine then_n ?_
    refine at_ret rfl ?_
    refine fpure ?_
    refine ⟨?_, rfl⟩
    rw [hall, List.drop_eq_nil_of_le (by omega)]; rfl

end Go.Proofs.Ytdkhgpdojjdadaa
