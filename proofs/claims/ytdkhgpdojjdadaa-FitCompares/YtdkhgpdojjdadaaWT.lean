/-
  Walks of chapter 38. The steps are written by program (walk.py).
-/
import Derived.Test.YtdkhgpdojjdadaaS
import Derived.KernelRfl
set_option linter.unusedSimpArgs false
set_option linter.unusedVariables false
set_option maxHeartbeats 40000000
set_option maxRecDepth 4000
namespace Go.Proofs.Ytdkhgpdojjdadaa
open Go Go.Am

theorem clone38_ok (lim : Nat) (H : Heap) (hl : lim ≤ H.length) (rows : List (List Int)) (h1 : rows.length ≤ 100000) (hr : ∀ u, u < rows.length → (gt rows u).length ≤ 1000000) :
    ACall sig lim 29 [.agg [rowsAV rows]] H fun r H' => ∃ X o, H' = H ++ X ∧ r = .agg [o] ∧ OutT H.length H' o rows := by
  refine ACall_own (fa := fa29) rfl rfl rfl rfl ?_
  have tr : ∀ a0 : AV, env0 fa29.keep [a0] = [(0, a0), (1, .any), (2, .any), (3, .any), (5, .any), (7, .any), (8, .any), (9, .any), (10, .any)] := fun a0 => rfl
  refine W_to (tr _) ?_; clear tr
  refine at_seq rfl ?_
  refine rg rfl ?_
  refine R_box rfl (by simp (disch := first | omega | (simp only [List.length_map, List.length_append, List.length_set, List.length_cons, List.length_nil, List.length_take, List.length_drop]; omega)) only [go_sem, ↓reduceIte, Nat.reduceEqDiff, reduceCtorEq]; rfl) rfl rfl ?_
  refine R_alloc (by simp (disch := first | omega | (simp only [List.length_map, List.length_append, List.length_set, List.length_cons, List.length_nil, List.length_take, List.length_drop]; omega)) only [go_sem, ↓reduceIte, Nat.reduceEqDiff, reduceCtorEq]; rfl) rfl (by simp only [List.map_cons, List.map_nil]; rfl) ?_
  have tr : ∀ y0 y1 y2 y3 y5 y7 y8 y9 y10 z0 z1 : AV, trim [(2, z1), (1, z0), (0, y0), (1, y1), (2, y2), (3, y3), (5, y5), (7, y7), (8, y8), (9, y9), (10, y10)] [(0, y0), (1, y1), (2, y2), (3, y3), (5, y5), (7, y7), (8, y8), (9, y9), (10, y10)] = [(0, y0), (1, z0), (2, z1), (3, y3), (5, y5), (7, y7), (8, y8), (9, y9), (10, y10)] := fun y0 y1 y2 y3 y5 y7 y8 y9 y10 z0 z1 => rfl
  refine R_nil (tr _ _ _ _ _ _ _ _ _ _ _) ?_; clear tr
  refine then_n ?_
  refine at_seq rfl ?_
  refine rg rfl ?_
  refine R_alloc (by simp (disch := first | omega | (simp only [List.length_map, List.length_append, List.length_set, List.length_cons, List.length_nil, List.length_take, List.length_drop]; omega)) only [go_sem, ↓reduceIte, Nat.reduceEqDiff, reduceCtorEq]; rfl) rfl (by simp only [List.map_cons, List.map_nil]; rfl) ?_
  have tr : ∀ y0 y1 y2 y3 y5 y7 y8 y9 y10 z0 : AV, trim [(3, z0), (0, y0), (1, y1), (2, y2), (3, y3), (5, y5), (7, y7), (8, y8), (9, y9), (10, y10)] [(0, y0), (1, y1), (2, y2), (3, y3), (5, y5), (7, y7), (8, y8), (9, y9), (10, y10)] = [(0, y0), (1, y1), (2, y2), (3, z0), (5, y5), (7, y7), (8, y8), (9, y9), (10, y10)] := fun y0 y1 y2 y3 y5 y7 y8 y9 y10 z0 => rfl
  refine R_nil (tr _ _ _ _ _ _ _ _ _ _) ?_; clear tr
  refine then_n ?_
  refine at_seq rfl ?_
  refine at_seq rfl ?_
  refine rg rfl ?_
  refine Rq ?_
  refine Rq ?_
  refine Rq ?_
  refine Rq ?_
  have tr : ∀ y0 y1 y2 y3 y5 y7 y8 y9 y10 z0 z1 z2 z3 : AV, trim [(9, z3), (8, z2), (7, z1), (6, z0), (0, y0), (1, y1), (2, y2), (3, y3), (5, y5), (7, y7), (8, y8), (9, y9), (10, y10)] [(0, y0), (1, y1), (2, y2), (3, y3), (5, y5), (7, y7), (8, y8), (9, y9), (10, y10)] = [(0, y0), (1, y1), (2, y2), (3, y3), (5, y5), (7, z1), (8, z2), (9, z3), (10, y10)] := fun y0 y1 y2 y3 y5 y7 y8 y9 y10 z0 z1 z2 z3 => rfl
  refine R_nil (tr _ _ _ _ _ _ _ _ _ _ _ _ _) ?_; clear tr
  refine then_n ?_
  refine at_block rfl ?_
  refine loop_n rfl (fun mm kv H' => ∃ u : Nat, ∃ o : AV, ∃ X : Heap, ∃ x5 x10 : AV, (kv = [(5, x5), (9, AV.i u), (10, x10)]) ∧ (mm = rows.length - u) ∧ (H' = ((H ++ [some [rowsAV rows]] ++ [some [AV.v (.slice none 0 0)]]) ++ [some [o]]) ++ X) ∧ (u ≤ rows.length) ∧ (OutT ((H ++ [some [rowsAV rows]] ++ [some [AV.v (.slice none 0 0)]]) ++ [some [o]]).length (((H ++ [some [rowsAV rows]] ++ [some [AV.v (.slice none 0 0)]]) ++ [some [o]]) ++ X) o (rows.take u))) ⟨0, _, [], _, _, rfl, rfl, by simp; rfl, by omega, by exact Or.inl ⟨rfl, rfl⟩⟩ (by rfl) ?_
  rintro mm kv H2 ⟨u, o, X, x5, x10, rfl, rfl, hX, hu, hO⟩
  have tr : ∀ y0 y1 y2 y3 y5 y7 y8 y9 y10 z5 z9 z10 : AV, upd [(0, y0), (1, y1), (2, y2), (3, y3), (5, y5), (7, y7), (8, y8), (9, y9), (10, y10)] [(5, z5), (9, z9), (10, z10)] = [(0, y0), (1, y1), (2, y2), (3, y3), (5, z5), (7, y7), (8, y8), (9, z9), (10, z10)] := fun y0 y1 y2 y3 y5 y7 y8 y9 y10 z5 z9 z10 => rfl
  refine W_to (tr _ _ _ _ _ _ _ _ _ _ _ _) ?_; clear tr
  subst hX
  refine at_seq rfl ?_
  refine rg rfl ?_
  refine Rq ?_
  have tr : ∀ y0 y1 y2 y3 y5 y7 y8 y9 y10 z0 : AV, trim [(10, z0), (0, y0), (1, y1), (2, y2), (3, y3), (5, y5), (7, y7), (8, y8), (9, y9), (10, y10)] [(0, y0), (1, y1), (2, y2), (3, y3), (5, y5), (7, y7), (8, y8), (9, y9), (10, y10)] = [(0, y0), (1, y1), (2, y2), (3, y3), (5, y5), (7, y7), (8, y8), (9, y9), (10, z0)] := fun y0 y1 y2 y3 y5 y7 y8 y9 y10 z0 => rfl
  refine R_nil (tr _ _ _ _ _ _ _ _ _ _) ?_; clear tr
  refine then_n ?_
  refine at_seq rfl ?_
  refine cdd (fun h1 => ?_) (fun h1 => ?_)
  · try simp only [decide_eq_true_eq, decide_eq_false_iff_not, Bool.not_eq_true', Bool.not_eq_false', beq_iff_eq, beq_eq_false_iff_ne, ne_eq] at h1
    refine at_skip rfl ?_
    refine then_n ?_
    refine at_seq rfl ?_
    refine at_block rfl ?_
    refine at_seq rfl ?_
    refine rg rfl ?_
    refine Rq ?_
    refine Rq ?_
    refine Rq ?_
    have tr : ∀ y0 y1 y2 y3 y5 y7 y8 y9 y10 z0 z1 z2 : AV, trim [(5, z2), (12, z1), (11, z0), (0, y0), (1, y1), (2, y2), (3, y3), (5, y5), (7, y7), (8, y8), (9, y9), (10, y10)] [(0, y0), (1, y1), (2, y2), (3, y3), (5, y5), (7, y7), (8, y8), (9, y9), (10, y10)] = [(0, y0), (1, y1), (2, y2), (3, y3), (5, z2), (7, y7), (8, y8), (9, y9), (10, y10)] := fun y0 y1 y2 y3 y5 y7 y8 y9 y10 z0 z1 z2 => rfl
    refine R_nil (tr _ _ _ _ _ _ _ _ _ _ _ _) ?_; clear tr
    obtain ⟨o', X', hap, hO'⟩ := out_append (lim := lim) (A := ((H ++ [some [rowsAV rows]] ++ [some [AV.v (.slice none 0 0)]]) ++ [some [o]])) (X := X ++ [none]) (by simp; omega) (gt rows u) (by rw [← List.append_assoc]; exact hO.grow [none]) (by rw [List.length_take]; omega)
    have hcs' := hO'.cells
    have hg7 : hget (((H ++ [some [rowsAV rows]] ++ [some [AV.v (.slice none 0 0)]]) ++ [some [o]]) ++ X') (H ++ [some [rowsAV rows]] ++ [some [AV.v (.slice none 0 0)]]).length = some [o] := by rw [hget_low _ _ _ (by simp), hget_app]; rfl
    have hst7 : hset (((H ++ [some [rowsAV rows]] ++ [some [AV.v (.slice none 0 0)]]) ++ [some [o]]) ++ X') (H ++ [some [rowsAV rows]] ++ [some [AV.v (.slice none 0 0)]]).length (some [o']) = (H ++ [some [rowsAV rows]] ++ [some [AV.v (.slice none 0 0)]]) ++ [some [o']] ++ X' := by rw [hset_low _ _ _ _ (by simp), hset_app]; rfl
    refine then_n ?_
    have nd5_111111111 : ∀ y0 y1 y2 y7 y8 y9 y10 : AV, Ap sig (lim) (opsAt (at' (bodyOf fa29) [1, 0, 0, 1, 1, 0, 0, 1, 0, 1, 1])) (fun eZ HZ => eZ = [(13, (.ptr (H ++ [some [rowsAV rows]] ++ [some [AV.v (.slice none 0 0)]]).length 0)), (14, o), (15, (.own 1 (((H ++ [some [rowsAV rows]] ++ [some [AV.v (.slice none 0 0)]]) ++ [some [o]]) ++ X).length 0 0)), (16, rowAV (gt rows u)), (17, (AV.own 1 (((H ++ [some [rowsAV rows]] ++ [some [AV.v (.slice none 0 0)]]) ++ [some [o]]) ++ (X ++ [none])).length 0 (gt rows u).length)), (18, (.own 1 (((H ++ [some [rowsAV rows]] ++ [some [AV.v (.slice none 0 0)]]) ++ [some [o]]) ++ (X ++ [none]) ++ [some ((gt rows u).map AV.i)]).length 0 1)), (19, o'), (20, (.ptr (H ++ [some [rowsAV rows]] ++ [some [AV.v (.slice none 0 0)]]).length 0)), (0, y0), (1, y1), (2, y2), (3, (.ptr (H ++ [some [rowsAV rows]] ++ [some [AV.v (.slice none 0 0)]]).length 0)), (5, rowAV (gt rows u)), (7, y7), (8, y8), (9, y9), (10, y10)] ∧ HZ = (H ++ [some [rowsAV rows]] ++ [some [AV.v (.slice none 0 0)]]) ++ [some [o']] ++ X') 0 #[true, true, true, true, true, true, true, true, true] [(13, (.ptr (H ++ [some [rowsAV rows]] ++ [some [AV.v (.slice none 0 0)]]).length 0)), (14, o), (15, (.own 1 (((H ++ [some [rowsAV rows]] ++ [some [AV.v (.slice none 0 0)]]) ++ [some [o]]) ++ X).length 0 0)), (16, rowAV (gt rows u)), (17, (AV.own 1 (((H ++ [some [rowsAV rows]] ++ [some [AV.v (.slice none 0 0)]]) ++ [some [o]]) ++ (X ++ [none])).length 0 (gt rows u).length)), (18, (.own 1 (((H ++ [some [rowsAV rows]] ++ [some [AV.v (.slice none 0 0)]]) ++ [some [o]]) ++ (X ++ [none]) ++ [some ((gt rows u).map AV.i)]).length 0 1)), (19, o'), (20, (.ptr (H ++ [some [rowsAV rows]] ++ [some [AV.v (.slice none 0 0)]]).length 0)), (0, y0), (1, y1), (2, y2), (3, (.ptr (H ++ [some [rowsAV rows]] ++ [some [AV.v (.slice none 0 0)]]).length 0)), (5, rowAV (gt rows u)), (7, y7), (8, y8), (9, y9), (10, y10)] ((H ++ [some [rowsAV rows]] ++ [some [AV.v (.slice none 0 0)]]) ++ [some [o']] ++ X') := by
      intro y0 y1 y2 y7 y8 y9 y10
      exact A_done (by kernel_rfl) ⟨rfl, rfl⟩
    have nd5_111111110 : ∀ y0 y1 y2 y7 y8 y9 y10 : AV, Ap sig (lim) (opsAt (at' (bodyOf fa29) [1, 0, 0, 1, 1, 0, 0, 1, 0, 1, 1])) (fun eZ HZ => eZ = [(13, (.ptr (H ++ [some [rowsAV rows]] ++ [some [AV.v (.slice none 0 0)]]).length 0)), (14, o), (15, (.own 1 (((H ++ [some [rowsAV rows]] ++ [some [AV.v (.slice none 0 0)]]) ++ [some [o]]) ++ X).length 0 0)), (16, rowAV (gt rows u)), (17, (AV.own 1 (((H ++ [some [rowsAV rows]] ++ [some [AV.v (.slice none 0 0)]]) ++ [some [o]]) ++ (X ++ [none])).length 0 (gt rows u).length)), (18, (.own 1 (((H ++ [some [rowsAV rows]] ++ [some [AV.v (.slice none 0 0)]]) ++ [some [o]]) ++ (X ++ [none]) ++ [some ((gt rows u).map AV.i)]).length 0 1)), (19, o'), (20, (.ptr (H ++ [some [rowsAV rows]] ++ [some [AV.v (.slice none 0 0)]]).length 0)), (0, y0), (1, y1), (2, y2), (3, (.ptr (H ++ [some [rowsAV rows]] ++ [some [AV.v (.slice none 0 0)]]).length 0)), (5, rowAV (gt rows u)), (7, y7), (8, y8), (9, y9), (10, y10)] ∧ HZ = (H ++ [some [rowsAV rows]] ++ [some [AV.v (.slice none 0 0)]]) ++ [some [o']] ++ X') 1 #[true, true, true, true, true, true, true, true, false] [(13, (.ptr (H ++ [some [rowsAV rows]] ++ [some [AV.v (.slice none 0 0)]]).length 0)), (14, o), (15, (.own 1 (((H ++ [some [rowsAV rows]] ++ [some [AV.v (.slice none 0 0)]]) ++ [some [o]]) ++ X).length 0 0)), (16, rowAV (gt rows u)), (17, (AV.own 1 (((H ++ [some [rowsAV rows]] ++ [some [AV.v (.slice none 0 0)]]) ++ [some [o]]) ++ (X ++ [none])).length 0 (gt rows u).length)), (18, (.own 1 (((H ++ [some [rowsAV rows]] ++ [some [AV.v (.slice none 0 0)]]) ++ [some [o]]) ++ (X ++ [none]) ++ [some ((gt rows u).map AV.i)]).length 0 1)), (19, o'), (20, (.ptr (H ++ [some [rowsAV rows]] ++ [some [AV.v (.slice none 0 0)]]).length 0)), (0, y0), (1, y1), (2, y2), (3, (.ptr (H ++ [some [rowsAV rows]] ++ [some [AV.v (.slice none 0 0)]]).length 0)), (5, rowAV (gt rows u)), (7, y7), (8, y8), (9, y9), (10, y10)] (((H ++ [some [rowsAV rows]] ++ [some [AV.v (.slice none 0 0)]]) ++ [some [o]]) ++ X') := by
      intro y0 y1 y2 y7 y8 y9 y10
      refine A_step [8] (by kernel_rfl) (by decide) ?_
      refine A_cons rfl ?_ ?_
      · refine R_store ty22 (by simp only [go_sem, ↓reduceIte, Nat.reduceEqDiff]; rfl) (by simp only [go_sem, ↓reduceIte, Nat.reduceEqDiff, hcs']; rfl) hg7 ⟨by simp; omega, rfl, by simp⟩ (k' := [o']) rfl hst7 ?_
        exact A_on (nd5_111111111 _ _ _ _ _ _ _) rfl rfl rfl
      exact A_end
    have nd5_111111100 : ∀ y0 y1 y2 y7 y8 y9 y10 : AV, Ap sig (lim) (opsAt (at' (bodyOf fa29) [1, 0, 0, 1, 1, 0, 0, 1, 0, 1, 1])) (fun eZ HZ => eZ = [(13, (.ptr (H ++ [some [rowsAV rows]] ++ [some [AV.v (.slice none 0 0)]]).length 0)), (14, o), (15, (.own 1 (((H ++ [some [rowsAV rows]] ++ [some [AV.v (.slice none 0 0)]]) ++ [some [o]]) ++ X).length 0 0)), (16, rowAV (gt rows u)), (17, (AV.own 1 (((H ++ [some [rowsAV rows]] ++ [some [AV.v (.slice none 0 0)]]) ++ [some [o]]) ++ (X ++ [none])).length 0 (gt rows u).length)), (18, (.own 1 (((H ++ [some [rowsAV rows]] ++ [some [AV.v (.slice none 0 0)]]) ++ [some [o]]) ++ (X ++ [none]) ++ [some ((gt rows u).map AV.i)]).length 0 1)), (19, o'), (20, (.ptr (H ++ [some [rowsAV rows]] ++ [some [AV.v (.slice none 0 0)]]).length 0)), (0, y0), (1, y1), (2, y2), (3, (.ptr (H ++ [some [rowsAV rows]] ++ [some [AV.v (.slice none 0 0)]]).length 0)), (5, rowAV (gt rows u)), (7, y7), (8, y8), (9, y9), (10, y10)] ∧ HZ = (H ++ [some [rowsAV rows]] ++ [some [AV.v (.slice none 0 0)]]) ++ [some [o']] ++ X') 2 #[true, true, true, true, true, true, true, false, false] [(13, (.ptr (H ++ [some [rowsAV rows]] ++ [some [AV.v (.slice none 0 0)]]).length 0)), (14, o), (15, (.own 1 (((H ++ [some [rowsAV rows]] ++ [some [AV.v (.slice none 0 0)]]) ++ [some [o]]) ++ X).length 0 0)), (16, rowAV (gt rows u)), (17, (AV.own 1 (((H ++ [some [rowsAV rows]] ++ [some [AV.v (.slice none 0 0)]]) ++ [some [o]]) ++ (X ++ [none])).length 0 (gt rows u).length)), (18, (.own 1 (((H ++ [some [rowsAV rows]] ++ [some [AV.v (.slice none 0 0)]]) ++ [some [o]]) ++ (X ++ [none]) ++ [some ((gt rows u).map AV.i)]).length 0 1)), (19, o'), (20, .any), (0, y0), (1, y1), (2, y2), (3, (.ptr (H ++ [some [rowsAV rows]] ++ [some [AV.v (.slice none 0 0)]]).length 0)), (5, rowAV (gt rows u)), (7, y7), (8, y8), (9, y9), (10, y10)] (((H ++ [some [rowsAV rows]] ++ [some [AV.v (.slice none 0 0)]]) ++ [some [o]]) ++ X') := by
      intro y0 y1 y2 y7 y8 y9 y10
      refine A_step [7] (by kernel_rfl) (by decide) ?_
      refine A_cons rfl ?_ ?_
      · refine Rq ?_
        exact A_on (nd5_111111110 _ _ _ _ _ _ _) rfl rfl rfl
      exact A_end
    have nd5_111111000 : ∀ y0 y1 y2 y7 y8 y9 y10 : AV, Ap sig (lim) (opsAt (at' (bodyOf fa29) [1, 0, 0, 1, 1, 0, 0, 1, 0, 1, 1])) (fun eZ HZ => eZ = [(13, (.ptr (H ++ [some [rowsAV rows]] ++ [some [AV.v (.slice none 0 0)]]).length 0)), (14, o), (15, (.own 1 (((H ++ [some [rowsAV rows]] ++ [some [AV.v (.slice none 0 0)]]) ++ [some [o]]) ++ X).length 0 0)), (16, rowAV (gt rows u)), (17, (AV.own 1 (((H ++ [some [rowsAV rows]] ++ [some [AV.v (.slice none 0 0)]]) ++ [some [o]]) ++ (X ++ [none])).length 0 (gt rows u).length)), (18, (.own 1 (((H ++ [some [rowsAV rows]] ++ [some [AV.v (.slice none 0 0)]]) ++ [some [o]]) ++ (X ++ [none]) ++ [some ((gt rows u).map AV.i)]).length 0 1)), (19, o'), (20, (.ptr (H ++ [some [rowsAV rows]] ++ [some [AV.v (.slice none 0 0)]]).length 0)), (0, y0), (1, y1), (2, y2), (3, (.ptr (H ++ [some [rowsAV rows]] ++ [some [AV.v (.slice none 0 0)]]).length 0)), (5, rowAV (gt rows u)), (7, y7), (8, y8), (9, y9), (10, y10)] ∧ HZ = (H ++ [some [rowsAV rows]] ++ [some [AV.v (.slice none 0 0)]]) ++ [some [o']] ++ X') 3 #[true, true, true, true, true, true, false, false, false] [(13, (.ptr (H ++ [some [rowsAV rows]] ++ [some [AV.v (.slice none 0 0)]]).length 0)), (14, o), (15, (.own 1 (((H ++ [some [rowsAV rows]] ++ [some [AV.v (.slice none 0 0)]]) ++ [some [o]]) ++ X).length 0 0)), (16, rowAV (gt rows u)), (17, (AV.own 1 (((H ++ [some [rowsAV rows]] ++ [some [AV.v (.slice none 0 0)]]) ++ [some [o]]) ++ (X ++ [none])).length 0 (gt rows u).length)), (18, (.own 1 (((H ++ [some [rowsAV rows]] ++ [some [AV.v (.slice none 0 0)]]) ++ [some [o]]) ++ (X ++ [none]) ++ [some ((gt rows u).map AV.i)]).length 0 1)), (19, .any), (20, .any), (0, y0), (1, y1), (2, y2), (3, (.ptr (H ++ [some [rowsAV rows]] ++ [some [AV.v (.slice none 0 0)]]).length 0)), (5, rowAV (gt rows u)), (7, y7), (8, y8), (9, y9), (10, y10)] (((H ++ [some [rowsAV rows]] ++ [some [AV.v (.slice none 0 0)]]) ++ [some [o]]) ++ (X ++ [none]) ++ [some ((gt rows u).map AV.i)] ++ [some [(AV.own 1 (((H ++ [some [rowsAV rows]] ++ [some [AV.v (.slice none 0 0)]]) ++ [some [o]]) ++ (X ++ [none])).length 0 (gt rows u).length)]]) := by
      intro y0 y1 y2 y7 y8 y9 y10
      refine A_step [6] (by kernel_rfl) (by decide) ?_
      refine A_cons rfl ?_ ?_
      · refine R_append (by simp only [go_sem, ↓reduceIte, Nat.reduceEqDiff]; exact hap) ?_
        exact A_on (nd5_111111100 _ _ _ _ _ _ _) rfl rfl rfl
      exact A_end
    have nd5_101111000 : ∀ y0 y1 y2 y7 y8 y9 y10 : AV, Ap sig (lim) (opsAt (at' (bodyOf fa29) [1, 0, 0, 1, 1, 0, 0, 1, 0, 1, 1])) (fun eZ HZ => eZ = [(13, (.ptr (H ++ [some [rowsAV rows]] ++ [some [AV.v (.slice none 0 0)]]).length 0)), (14, o), (15, (.own 1 (((H ++ [some [rowsAV rows]] ++ [some [AV.v (.slice none 0 0)]]) ++ [some [o]]) ++ X).length 0 0)), (16, rowAV (gt rows u)), (17, (AV.own 1 (((H ++ [some [rowsAV rows]] ++ [some [AV.v (.slice none 0 0)]]) ++ [some [o]]) ++ (X ++ [none])).length 0 (gt rows u).length)), (18, (.own 1 (((H ++ [some [rowsAV rows]] ++ [some [AV.v (.slice none 0 0)]]) ++ [some [o]]) ++ (X ++ [none]) ++ [some ((gt rows u).map AV.i)]).length 0 1)), (19, o'), (20, (.ptr (H ++ [some [rowsAV rows]] ++ [some [AV.v (.slice none 0 0)]]).length 0)), (0, y0), (1, y1), (2, y2), (3, (.ptr (H ++ [some [rowsAV rows]] ++ [some [AV.v (.slice none 0 0)]]).length 0)), (5, rowAV (gt rows u)), (7, y7), (8, y8), (9, y9), (10, y10)] ∧ HZ = (H ++ [some [rowsAV rows]] ++ [some [AV.v (.slice none 0 0)]]) ++ [some [o']] ++ X') 4 #[true, false, true, true, true, true, false, false, false] [(13, (.ptr (H ++ [some [rowsAV rows]] ++ [some [AV.v (.slice none 0 0)]]).length 0)), (14, .any), (15, (.own 1 (((H ++ [some [rowsAV rows]] ++ [some [AV.v (.slice none 0 0)]]) ++ [some [o]]) ++ X).length 0 0)), (16, rowAV (gt rows u)), (17, (AV.own 1 (((H ++ [some [rowsAV rows]] ++ [some [AV.v (.slice none 0 0)]]) ++ [some [o]]) ++ (X ++ [none])).length 0 (gt rows u).length)), (18, (.own 1 (((H ++ [some [rowsAV rows]] ++ [some [AV.v (.slice none 0 0)]]) ++ [some [o]]) ++ (X ++ [none]) ++ [some ((gt rows u).map AV.i)]).length 0 1)), (19, .any), (20, .any), (0, y0), (1, y1), (2, y2), (3, (.ptr (H ++ [some [rowsAV rows]] ++ [some [AV.v (.slice none 0 0)]]).length 0)), (5, rowAV (gt rows u)), (7, y7), (8, y8), (9, y9), (10, y10)] (((H ++ [some [rowsAV rows]] ++ [some [AV.v (.slice none 0 0)]]) ++ [some [o]]) ++ (X ++ [none]) ++ [some ((gt rows u).map AV.i)] ++ [some [(AV.own 1 (((H ++ [some [rowsAV rows]] ++ [some [AV.v (.slice none 0 0)]]) ++ [some [o]]) ++ (X ++ [none])).length 0 (gt rows u).length)]]) := by
      intro y0 y1 y2 y7 y8 y9 y10
      refine A_step [1] (by kernel_rfl) (by decide) ?_
      refine A_cons rfl ?_ ?_
      · refine Rq ?_
        exact A_on (nd5_111111000 _ _ _ _ _ _ _) rfl rfl rfl
      exact A_end
    have nd5_111110000 : ∀ y0 y1 y2 y7 y8 y9 y10 : AV, Ap sig (lim) (opsAt (at' (bodyOf fa29) [1, 0, 0, 1, 1, 0, 0, 1, 0, 1, 1])) (fun eZ HZ => eZ = [(13, (.ptr (H ++ [some [rowsAV rows]] ++ [some [AV.v (.slice none 0 0)]]).length 0)), (14, o), (15, (.own 1 (((H ++ [some [rowsAV rows]] ++ [some [AV.v (.slice none 0 0)]]) ++ [some [o]]) ++ X).length 0 0)), (16, rowAV (gt rows u)), (17, (AV.own 1 (((H ++ [some [rowsAV rows]] ++ [some [AV.v (.slice none 0 0)]]) ++ [some [o]]) ++ (X ++ [none])).length 0 (gt rows u).length)), (18, (.own 1 (((H ++ [some [rowsAV rows]] ++ [some [AV.v (.slice none 0 0)]]) ++ [some [o]]) ++ (X ++ [none]) ++ [some ((gt rows u).map AV.i)]).length 0 1)), (19, o'), (20, (.ptr (H ++ [some [rowsAV rows]] ++ [some [AV.v (.slice none 0 0)]]).length 0)), (0, y0), (1, y1), (2, y2), (3, (.ptr (H ++ [some [rowsAV rows]] ++ [some [AV.v (.slice none 0 0)]]).length 0)), (5, rowAV (gt rows u)), (7, y7), (8, y8), (9, y9), (10, y10)] ∧ HZ = (H ++ [some [rowsAV rows]] ++ [some [AV.v (.slice none 0 0)]]) ++ [some [o']] ++ X') 4 #[true, true, true, true, true, false, false, false, false] [(13, (.ptr (H ++ [some [rowsAV rows]] ++ [some [AV.v (.slice none 0 0)]]).length 0)), (14, o), (15, (.own 1 (((H ++ [some [rowsAV rows]] ++ [some [AV.v (.slice none 0 0)]]) ++ [some [o]]) ++ X).length 0 0)), (16, rowAV (gt rows u)), (17, (AV.own 1 (((H ++ [some [rowsAV rows]] ++ [some [AV.v (.slice none 0 0)]]) ++ [some [o]]) ++ (X ++ [none])).length 0 (gt rows u).length)), (18, .any), (19, .any), (20, .any), (0, y0), (1, y1), (2, y2), (3, (.ptr (H ++ [some [rowsAV rows]] ++ [some [AV.v (.slice none 0 0)]]).length 0)), (5, rowAV (gt rows u)), (7, y7), (8, y8), (9, y9), (10, y10)] (((H ++ [some [rowsAV rows]] ++ [some [AV.v (.slice none 0 0)]]) ++ [some [o]]) ++ (X ++ [none]) ++ [some ((gt rows u).map AV.i)]) := by
      intro y0 y1 y2 y7 y8 y9 y10
      refine A_step [5] (by kernel_rfl) (by decide) ?_
      refine A_cons rfl ?_ ?_
      · refine R_buildSlice (bs22 _ _ _ _ _ _ _ _ (by simp only [go_sem, ↓reduceIte, Nat.reduceEqDiff]; rfl)) ?_
        exact A_on (nd5_111111000 _ _ _ _ _ _ _) rfl rfl rfl
      exact A_end
    have nd5_101110000 : ∀ y0 y1 y2 y7 y8 y9 y10 : AV, Ap sig (lim) (opsAt (at' (bodyOf fa29) [1, 0, 0, 1, 1, 0, 0, 1, 0, 1, 1])) (fun eZ HZ => eZ = [(13, (.ptr (H ++ [some [rowsAV rows]] ++ [some [AV.v (.slice none 0 0)]]).length 0)), (14, o), (15, (.own 1 (((H ++ [some [rowsAV rows]] ++ [some [AV.v (.slice none 0 0)]]) ++ [some [o]]) ++ X).length 0 0)), (16, rowAV (gt rows u)), (17, (AV.own 1 (((H ++ [some [rowsAV rows]] ++ [some [AV.v (.slice none 0 0)]]) ++ [some [o]]) ++ (X ++ [none])).length 0 (gt rows u).length)), (18, (.own 1 (((H ++ [some [rowsAV rows]] ++ [some [AV.v (.slice none 0 0)]]) ++ [some [o]]) ++ (X ++ [none]) ++ [some ((gt rows u).map AV.i)]).length 0 1)), (19, o'), (20, (.ptr (H ++ [some [rowsAV rows]] ++ [some [AV.v (.slice none 0 0)]]).length 0)), (0, y0), (1, y1), (2, y2), (3, (.ptr (H ++ [some [rowsAV rows]] ++ [some [AV.v (.slice none 0 0)]]).length 0)), (5, rowAV (gt rows u)), (7, y7), (8, y8), (9, y9), (10, y10)] ∧ HZ = (H ++ [some [rowsAV rows]] ++ [some [AV.v (.slice none 0 0)]]) ++ [some [o']] ++ X') 5 #[true, false, true, true, true, false, false, false, false] [(13, (.ptr (H ++ [some [rowsAV rows]] ++ [some [AV.v (.slice none 0 0)]]).length 0)), (14, .any), (15, (.own 1 (((H ++ [some [rowsAV rows]] ++ [some [AV.v (.slice none 0 0)]]) ++ [some [o]]) ++ X).length 0 0)), (16, rowAV (gt rows u)), (17, (AV.own 1 (((H ++ [some [rowsAV rows]] ++ [some [AV.v (.slice none 0 0)]]) ++ [some [o]]) ++ (X ++ [none])).length 0 (gt rows u).length)), (18, .any), (19, .any), (20, .any), (0, y0), (1, y1), (2, y2), (3, (.ptr (H ++ [some [rowsAV rows]] ++ [some [AV.v (.slice none 0 0)]]).length 0)), (5, rowAV (gt rows u)), (7, y7), (8, y8), (9, y9), (10, y10)] (((H ++ [some [rowsAV rows]] ++ [some [AV.v (.slice none 0 0)]]) ++ [some [o]]) ++ (X ++ [none]) ++ [some ((gt rows u).map AV.i)]) := by
      intro y0 y1 y2 y7 y8 y9 y10
      refine A_step [1, 5] (by kernel_rfl) (by decide) ?_
      refine A_cons rfl ?_ ?_
      · refine Rq ?_
        exact A_on (nd5_111110000 _ _ _ _ _ _ _) rfl rfl rfl
      refine A_cons rfl ?_ ?_
      · refine R_buildSlice (bs22 _ _ _ _ _ _ _ _ (by simp only [go_sem, ↓reduceIte, Nat.reduceEqDiff]; rfl)) ?_
        exact A_on (nd5_101111000 _ _ _ _ _ _ _) rfl rfl rfl
      exact A_end
    have nd5_001111000 : ∀ y0 y1 y2 y7 y8 y9 y10 : AV, Ap sig (lim) (opsAt (at' (bodyOf fa29) [1, 0, 0, 1, 1, 0, 0, 1, 0, 1, 1])) (fun eZ HZ => eZ = [(13, (.ptr (H ++ [some [rowsAV rows]] ++ [some [AV.v (.slice none 0 0)]]).length 0)), (14, o), (15, (.own 1 (((H ++ [some [rowsAV rows]] ++ [some [AV.v (.slice none 0 0)]]) ++ [some [o]]) ++ X).length 0 0)), (16, rowAV (gt rows u)), (17, (AV.own 1 (((H ++ [some [rowsAV rows]] ++ [some [AV.v (.slice none 0 0)]]) ++ [some [o]]) ++ (X ++ [none])).length 0 (gt rows u).length)), (18, (.own 1 (((H ++ [some [rowsAV rows]] ++ [some [AV.v (.slice none 0 0)]]) ++ [some [o]]) ++ (X ++ [none]) ++ [some ((gt rows u).map AV.i)]).length 0 1)), (19, o'), (20, (.ptr (H ++ [some [rowsAV rows]] ++ [some [AV.v (.slice none 0 0)]]).length 0)), (0, y0), (1, y1), (2, y2), (3, (.ptr (H ++ [some [rowsAV rows]] ++ [some [AV.v (.slice none 0 0)]]).length 0)), (5, rowAV (gt rows u)), (7, y7), (8, y8), (9, y9), (10, y10)] ∧ HZ = (H ++ [some [rowsAV rows]] ++ [some [AV.v (.slice none 0 0)]]) ++ [some [o']] ++ X') 5 #[false, false, true, true, true, true, false, false, false] [(13, .any), (14, .any), (15, (.own 1 (((H ++ [some [rowsAV rows]] ++ [some [AV.v (.slice none 0 0)]]) ++ [some [o]]) ++ X).length 0 0)), (16, rowAV (gt rows u)), (17, (AV.own 1 (((H ++ [some [rowsAV rows]] ++ [some [AV.v (.slice none 0 0)]]) ++ [some [o]]) ++ (X ++ [none])).length 0 (gt rows u).length)), (18, (.own 1 (((H ++ [some [rowsAV rows]] ++ [some [AV.v (.slice none 0 0)]]) ++ [some [o]]) ++ (X ++ [none]) ++ [some ((gt rows u).map AV.i)]).length 0 1)), (19, .any), (20, .any), (0, y0), (1, y1), (2, y2), (3, (.ptr (H ++ [some [rowsAV rows]] ++ [some [AV.v (.slice none 0 0)]]).length 0)), (5, rowAV (gt rows u)), (7, y7), (8, y8), (9, y9), (10, y10)] (((H ++ [some [rowsAV rows]] ++ [some [AV.v (.slice none 0 0)]]) ++ [some [o]]) ++ (X ++ [none]) ++ [some ((gt rows u).map AV.i)] ++ [some [(AV.own 1 (((H ++ [some [rowsAV rows]] ++ [some [AV.v (.slice none 0 0)]]) ++ [some [o]]) ++ (X ++ [none])).length 0 (gt rows u).length)]]) := by
      intro y0 y1 y2 y7 y8 y9 y10
      refine A_step [0] (by kernel_rfl) (by decide) ?_
      refine A_cons rfl ?_ ?_
      · refine Rq ?_
        exact A_on (nd5_101111000 _ _ _ _ _ _ _) rfl rfl rfl
      exact A_end
    have nd5_111100000 : ∀ y0 y1 y2 y7 y8 y9 y10 : AV, Ap sig (lim) (opsAt (at' (bodyOf fa29) [1, 0, 0, 1, 1, 0, 0, 1, 0, 1, 1])) (fun eZ HZ => eZ = [(13, (.ptr (H ++ [some [rowsAV rows]] ++ [some [AV.v (.slice none 0 0)]]).length 0)), (14, o), (15, (.own 1 (((H ++ [some [rowsAV rows]] ++ [some [AV.v (.slice none 0 0)]]) ++ [some [o]]) ++ X).length 0 0)), (16, rowAV (gt rows u)), (17, (AV.own 1 (((H ++ [some [rowsAV rows]] ++ [some [AV.v (.slice none 0 0)]]) ++ [some [o]]) ++ (X ++ [none])).length 0 (gt rows u).length)), (18, (.own 1 (((H ++ [some [rowsAV rows]] ++ [some [AV.v (.slice none 0 0)]]) ++ [some [o]]) ++ (X ++ [none]) ++ [some ((gt rows u).map AV.i)]).length 0 1)), (19, o'), (20, (.ptr (H ++ [some [rowsAV rows]] ++ [some [AV.v (.slice none 0 0)]]).length 0)), (0, y0), (1, y1), (2, y2), (3, (.ptr (H ++ [some [rowsAV rows]] ++ [some [AV.v (.slice none 0 0)]]).length 0)), (5, rowAV (gt rows u)), (7, y7), (8, y8), (9, y9), (10, y10)] ∧ HZ = (H ++ [some [rowsAV rows]] ++ [some [AV.v (.slice none 0 0)]]) ++ [some [o']] ++ X') 5 #[true, true, true, true, false, false, false, false, false] [(13, (.ptr (H ++ [some [rowsAV rows]] ++ [some [AV.v (.slice none 0 0)]]).length 0)), (14, o), (15, (.own 1 (((H ++ [some [rowsAV rows]] ++ [some [AV.v (.slice none 0 0)]]) ++ [some [o]]) ++ X).length 0 0)), (16, rowAV (gt rows u)), (17, .any), (18, .any), (19, .any), (20, .any), (0, y0), (1, y1), (2, y2), (3, (.ptr (H ++ [some [rowsAV rows]] ++ [some [AV.v (.slice none 0 0)]]).length 0)), (5, rowAV (gt rows u)), (7, y7), (8, y8), (9, y9), (10, y10)] (((H ++ [some [rowsAV rows]] ++ [some [AV.v (.slice none 0 0)]]) ++ [some [o]]) ++ X ++ [some []]) := by
      intro y0 y1 y2 y7 y8 y9 y10
      refine A_step [4] (by kernel_rfl) (by decide) ?_
      refine A_cons rfl ?_ ?_
      · refine R_append (by simp only [go_sem, ↓reduceIte, Nat.reduceEqDiff]; exact app37e lim ((H ++ [some [rowsAV rows]] ++ [some [AV.v (.slice none 0 0)]]) ++ [some [o]]) X (gt rows u) (by simp; omega) (hr u (by omega))) ?_
        exact A_on (nd5_111110000 _ _ _ _ _ _ _) rfl rfl rfl
      exact A_end
    have nd5_101100000 : ∀ y0 y1 y2 y7 y8 y9 y10 : AV, Ap sig (lim) (opsAt (at' (bodyOf fa29) [1, 0, 0, 1, 1, 0, 0, 1, 0, 1, 1])) (fun eZ HZ => eZ = [(13, (.ptr (H ++ [some [rowsAV rows]] ++ [some [AV.v (.slice none 0 0)]]).length 0)), (14, o), (15, (.own 1 (((H ++ [some [rowsAV rows]] ++ [some [AV.v (.slice none 0 0)]]) ++ [some [o]]) ++ X).length 0 0)), (16, rowAV (gt rows u)), (17, (AV.own 1 (((H ++ [some [rowsAV rows]] ++ [some [AV.v (.slice none 0 0)]]) ++ [some [o]]) ++ (X ++ [none])).length 0 (gt rows u).length)), (18, (.own 1 (((H ++ [some [rowsAV rows]] ++ [some [AV.v (.slice none 0 0)]]) ++ [some [o]]) ++ (X ++ [none]) ++ [some ((gt rows u).map AV.i)]).length 0 1)), (19, o'), (20, (.ptr (H ++ [some [rowsAV rows]] ++ [some [AV.v (.slice none 0 0)]]).length 0)), (0, y0), (1, y1), (2, y2), (3, (.ptr (H ++ [some [rowsAV rows]] ++ [some [AV.v (.slice none 0 0)]]).length 0)), (5, rowAV (gt rows u)), (7, y7), (8, y8), (9, y9), (10, y10)] ∧ HZ = (H ++ [some [rowsAV rows]] ++ [some [AV.v (.slice none 0 0)]]) ++ [some [o']] ++ X') 6 #[true, false, true, true, false, false, false, false, false] [(13, (.ptr (H ++ [some [rowsAV rows]] ++ [some [AV.v (.slice none 0 0)]]).length 0)), (14, .any), (15, (.own 1 (((H ++ [some [rowsAV rows]] ++ [some [AV.v (.slice none 0 0)]]) ++ [some [o]]) ++ X).length 0 0)), (16, rowAV (gt rows u)), (17, .any), (18, .any), (19, .any), (20, .any), (0, y0), (1, y1), (2, y2), (3, (.ptr (H ++ [some [rowsAV rows]] ++ [some [AV.v (.slice none 0 0)]]).length 0)), (5, rowAV (gt rows u)), (7, y7), (8, y8), (9, y9), (10, y10)] (((H ++ [some [rowsAV rows]] ++ [some [AV.v (.slice none 0 0)]]) ++ [some [o]]) ++ X ++ [some []]) := by
      intro y0 y1 y2 y7 y8 y9 y10
      refine A_step [1, 4] (by kernel_rfl) (by decide) ?_
      refine A_cons rfl ?_ ?_
      · refine Rq ?_
        exact A_on (nd5_111100000 _ _ _ _ _ _ _) rfl rfl rfl
      refine A_cons rfl ?_ ?_
      · refine R_append (by simp only [go_sem, ↓reduceIte, Nat.reduceEqDiff]; exact app37e lim ((H ++ [some [rowsAV rows]] ++ [some [AV.v (.slice none 0 0)]]) ++ [some [o]]) X (gt rows u) (by simp; omega) (hr u (by omega))) ?_
        exact A_on (nd5_101110000 _ _ _ _ _ _ _) rfl rfl rfl
      exact A_end
    have nd5_001110000 : ∀ y0 y1 y2 y7 y8 y9 y10 : AV, Ap sig (lim) (opsAt (at' (bodyOf fa29) [1, 0, 0, 1, 1, 0, 0, 1, 0, 1, 1])) (fun eZ HZ => eZ = [(13, (.ptr (H ++ [some [rowsAV rows]] ++ [some [AV.v (.slice none 0 0)]]).length 0)), (14, o), (15, (.own 1 (((H ++ [some [rowsAV rows]] ++ [some [AV.v (.slice none 0 0)]]) ++ [some [o]]) ++ X).length 0 0)), (16, rowAV (gt rows u)), (17, (AV.own 1 (((H ++ [some [rowsAV rows]] ++ [some [AV.v (.slice none 0 0)]]) ++ [some [o]]) ++ (X ++ [none])).length 0 (gt rows u).length)), (18, (.own 1 (((H ++ [some [rowsAV rows]] ++ [some [AV.v (.slice none 0 0)]]) ++ [some [o]]) ++ (X ++ [none]) ++ [some ((gt rows u).map AV.i)]).length 0 1)), (19, o'), (20, (.ptr (H ++ [some [rowsAV rows]] ++ [some [AV.v (.slice none 0 0)]]).length 0)), (0, y0), (1, y1), (2, y2), (3, (.ptr (H ++ [some [rowsAV rows]] ++ [some [AV.v (.slice none 0 0)]]).length 0)), (5, rowAV (gt rows u)), (7, y7), (8, y8), (9, y9), (10, y10)] ∧ HZ = (H ++ [some [rowsAV rows]] ++ [some [AV.v (.slice none 0 0)]]) ++ [some [o']] ++ X') 6 #[false, false, true, true, true, false, false, false, false] [(13, .any), (14, .any), (15, (.own 1 (((H ++ [some [rowsAV rows]] ++ [some [AV.v (.slice none 0 0)]]) ++ [some [o]]) ++ X).length 0 0)), (16, rowAV (gt rows u)), (17, (AV.own 1 (((H ++ [some [rowsAV rows]] ++ [some [AV.v (.slice none 0 0)]]) ++ [some [o]]) ++ (X ++ [none])).length 0 (gt rows u).length)), (18, .any), (19, .any), (20, .any), (0, y0), (1, y1), (2, y2), (3, (.ptr (H ++ [some [rowsAV rows]] ++ [some [AV.v (.slice none 0 0)]]).length 0)), (5, rowAV (gt rows u)), (7, y7), (8, y8), (9, y9), (10, y10)] (((H ++ [some [rowsAV rows]] ++ [some [AV.v (.slice none 0 0)]]) ++ [some [o]]) ++ (X ++ [none]) ++ [some ((gt rows u).map AV.i)]) := by
      intro y0 y1 y2 y7 y8 y9 y10
      refine A_step [0, 5] (by kernel_rfl) (by decide) ?_
      refine A_cons rfl ?_ ?_
      · refine Rq ?_
        exact A_on (nd5_101110000 _ _ _ _ _ _ _) rfl rfl rfl
      refine A_cons rfl ?_ ?_
      · refine R_buildSlice (bs22 _ _ _ _ _ _ _ _ (by simp only [go_sem, ↓reduceIte, Nat.reduceEqDiff]; rfl)) ?_
        exact A_on (nd5_001111000 _ _ _ _ _ _ _) rfl rfl rfl
      exact A_end
    have nd5_110100000 : ∀ y0 y1 y2 y7 y8 y9 y10 : AV, Ap sig (lim) (opsAt (at' (bodyOf fa29) [1, 0, 0, 1, 1, 0, 0, 1, 0, 1, 1])) (fun eZ HZ => eZ = [(13, (.ptr (H ++ [some [rowsAV rows]] ++ [some [AV.v (.slice none 0 0)]]).length 0)), (14, o), (15, (.own 1 (((H ++ [some [rowsAV rows]] ++ [some [AV.v (.slice none 0 0)]]) ++ [some [o]]) ++ X).length 0 0)), (16, rowAV (gt rows u)), (17, (AV.own 1 (((H ++ [some [rowsAV rows]] ++ [some [AV.v (.slice none 0 0)]]) ++ [some [o]]) ++ (X ++ [none])).length 0 (gt rows u).length)), (18, (.own 1 (((H ++ [some [rowsAV rows]] ++ [some [AV.v (.slice none 0 0)]]) ++ [some [o]]) ++ (X ++ [none]) ++ [some ((gt rows u).map AV.i)]).length 0 1)), (19, o'), (20, (.ptr (H ++ [some [rowsAV rows]] ++ [some [AV.v (.slice none 0 0)]]).length 0)), (0, y0), (1, y1), (2, y2), (3, (.ptr (H ++ [some [rowsAV rows]] ++ [some [AV.v (.slice none 0 0)]]).length 0)), (5, rowAV (gt rows u)), (7, y7), (8, y8), (9, y9), (10, y10)] ∧ HZ = (H ++ [some [rowsAV rows]] ++ [some [AV.v (.slice none 0 0)]]) ++ [some [o']] ++ X') 6 #[true, true, false, true, false, false, false, false, false] [(13, (.ptr (H ++ [some [rowsAV rows]] ++ [some [AV.v (.slice none 0 0)]]).length 0)), (14, o), (15, .any), (16, rowAV (gt rows u)), (17, .any), (18, .any), (19, .any), (20, .any), (0, y0), (1, y1), (2, y2), (3, (.ptr (H ++ [some [rowsAV rows]] ++ [some [AV.v (.slice none 0 0)]]).length 0)), (5, rowAV (gt rows u)), (7, y7), (8, y8), (9, y9), (10, y10)] (((H ++ [some [rowsAV rows]] ++ [some [AV.v (.slice none 0 0)]]) ++ [some [o]]) ++ X) := by
      intro y0 y1 y2 y7 y8 y9 y10
      refine A_step [2] (by kernel_rfl) (by decide) ?_
      refine A_cons rfl ?_ ?_
      · refine R_buildSlice (bs37_0 _ _ _) ?_
        exact A_on (nd5_111100000 _ _ _ _ _ _ _) rfl rfl rfl
      exact A_end
    have nd5_111000000 : ∀ y0 y1 y2 y7 y8 y9 y10 : AV, Ap sig (lim) (opsAt (at' (bodyOf fa29) [1, 0, 0, 1, 1, 0, 0, 1, 0, 1, 1])) (fun eZ HZ => eZ = [(13, (.ptr (H ++ [some [rowsAV rows]] ++ [some [AV.v (.slice none 0 0)]]).length 0)), (14, o), (15, (.own 1 (((H ++ [some [rowsAV rows]] ++ [some [AV.v (.slice none 0 0)]]) ++ [some [o]]) ++ X).length 0 0)), (16, rowAV (gt rows u)), (17, (AV.own 1 (((H ++ [some [rowsAV rows]] ++ [some [AV.v (.slice none 0 0)]]) ++ [some [o]]) ++ (X ++ [none])).length 0 (gt rows u).length)), (18, (.own 1 (((H ++ [some [rowsAV rows]] ++ [some [AV.v (.slice none 0 0)]]) ++ [some [o]]) ++ (X ++ [none]) ++ [some ((gt rows u).map AV.i)]).length 0 1)), (19, o'), (20, (.ptr (H ++ [some [rowsAV rows]] ++ [some [AV.v (.slice none 0 0)]]).length 0)), (0, y0), (1, y1), (2, y2), (3, (.ptr (H ++ [some [rowsAV rows]] ++ [some [AV.v (.slice none 0 0)]]).length 0)), (5, rowAV (gt rows u)), (7, y7), (8, y8), (9, y9), (10, y10)] ∧ HZ = (H ++ [some [rowsAV rows]] ++ [some [AV.v (.slice none 0 0)]]) ++ [some [o']] ++ X') 6 #[true, true, true, false, false, false, false, false, false] [(13, (.ptr (H ++ [some [rowsAV rows]] ++ [some [AV.v (.slice none 0 0)]]).length 0)), (14, o), (15, (.own 1 (((H ++ [some [rowsAV rows]] ++ [some [AV.v (.slice none 0 0)]]) ++ [some [o]]) ++ X).length 0 0)), (16, .any), (17, .any), (18, .any), (19, .any), (20, .any), (0, y0), (1, y1), (2, y2), (3, (.ptr (H ++ [some [rowsAV rows]] ++ [some [AV.v (.slice none 0 0)]]).length 0)), (5, rowAV (gt rows u)), (7, y7), (8, y8), (9, y9), (10, y10)] (((H ++ [some [rowsAV rows]] ++ [some [AV.v (.slice none 0 0)]]) ++ [some [o]]) ++ X ++ [some []]) := by
      intro y0 y1 y2 y7 y8 y9 y10
      refine A_step [3] (by kernel_rfl) (by decide) ?_
      refine A_cons rfl ?_ ?_
      · refine Rq ?_
        exact A_on (nd5_111100000 _ _ _ _ _ _ _) rfl rfl rfl
      exact A_end
    have nd5_100100000 : ∀ y0 y1 y2 y7 y8 y9 y10 : AV, Ap sig (lim) (opsAt (at' (bodyOf fa29) [1, 0, 0, 1, 1, 0, 0, 1, 0, 1, 1])) (fun eZ HZ => eZ = [(13, (.ptr (H ++ [some [rowsAV rows]] ++ [some [AV.v (.slice none 0 0)]]).length 0)), (14, o), (15, (.own 1 (((H ++ [some [rowsAV rows]] ++ [some [AV.v (.slice none 0 0)]]) ++ [some [o]]) ++ X).length 0 0)), (16, rowAV (gt rows u)), (17, (AV.own 1 (((H ++ [some [rowsAV rows]] ++ [some [AV.v (.slice none 0 0)]]) ++ [some [o]]) ++ (X ++ [none])).length 0 (gt rows u).length)), (18, (.own 1 (((H ++ [some [rowsAV rows]] ++ [some [AV.v (.slice none 0 0)]]) ++ [some [o]]) ++ (X ++ [none]) ++ [some ((gt rows u).map AV.i)]).length 0 1)), (19, o'), (20, (.ptr (H ++ [some [rowsAV rows]] ++ [some [AV.v (.slice none 0 0)]]).length 0)), (0, y0), (1, y1), (2, y2), (3, (.ptr (H ++ [some [rowsAV rows]] ++ [some [AV.v (.slice none 0 0)]]).length 0)), (5, rowAV (gt rows u)), (7, y7), (8, y8), (9, y9), (10, y10)] ∧ HZ = (H ++ [some [rowsAV rows]] ++ [some [AV.v (.slice none 0 0)]]) ++ [some [o']] ++ X') 7 #[true, false, false, true, false, false, false, false, false] [(13, (.ptr (H ++ [some [rowsAV rows]] ++ [some [AV.v (.slice none 0 0)]]).length 0)), (14, .any), (15, .any), (16, rowAV (gt rows u)), (17, .any), (18, .any), (19, .any), (20, .any), (0, y0), (1, y1), (2, y2), (3, (.ptr (H ++ [some [rowsAV rows]] ++ [some [AV.v (.slice none 0 0)]]).length 0)), (5, rowAV (gt rows u)), (7, y7), (8, y8), (9, y9), (10, y10)] (((H ++ [some [rowsAV rows]] ++ [some [AV.v (.slice none 0 0)]]) ++ [some [o]]) ++ X) := by
      intro y0 y1 y2 y7 y8 y9 y10
      refine A_step [1, 2] (by kernel_rfl) (by decide) ?_
      refine A_cons rfl ?_ ?_
      · refine Rq ?_
        exact A_on (nd5_110100000 _ _ _ _ _ _ _) rfl rfl rfl
      refine A_cons rfl ?_ ?_
      · refine R_buildSlice (bs37_0 _ _ _) ?_
        exact A_on (nd5_101100000 _ _ _ _ _ _ _) rfl rfl rfl
      exact A_end
    have nd5_001100000 : ∀ y0 y1 y2 y7 y8 y9 y10 : AV, Ap sig (lim) (opsAt (at' (bodyOf fa29) [1, 0, 0, 1, 1, 0, 0, 1, 0, 1, 1])) (fun eZ HZ => eZ = [(13, (.ptr (H ++ [some [rowsAV rows]] ++ [some [AV.v (.slice none 0 0)]]).length 0)), (14, o), (15, (.own 1 (((H ++ [some [rowsAV rows]] ++ [some [AV.v (.slice none 0 0)]]) ++ [some [o]]) ++ X).length 0 0)), (16, rowAV (gt rows u)), (17, (AV.own 1 (((H ++ [some [rowsAV rows]] ++ [some [AV.v (.slice none 0 0)]]) ++ [some [o]]) ++ (X ++ [none])).length 0 (gt rows u).length)), (18, (.own 1 (((H ++ [some [rowsAV rows]] ++ [some [AV.v (.slice none 0 0)]]) ++ [some [o]]) ++ (X ++ [none]) ++ [some ((gt rows u).map AV.i)]).length 0 1)), (19, o'), (20, (.ptr (H ++ [some [rowsAV rows]] ++ [some [AV.v (.slice none 0 0)]]).length 0)), (0, y0), (1, y1), (2, y2), (3, (.ptr (H ++ [some [rowsAV rows]] ++ [some [AV.v (.slice none 0 0)]]).length 0)), (5, rowAV (gt rows u)), (7, y7), (8, y8), (9, y9), (10, y10)] ∧ HZ = (H ++ [some [rowsAV rows]] ++ [some [AV.v (.slice none 0 0)]]) ++ [some [o']] ++ X') 7 #[false, false, true, true, false, false, false, false, false] [(13, .any), (14, .any), (15, (.own 1 (((H ++ [some [rowsAV rows]] ++ [some [AV.v (.slice none 0 0)]]) ++ [some [o]]) ++ X).length 0 0)), (16, rowAV (gt rows u)), (17, .any), (18, .any), (19, .any), (20, .any), (0, y0), (1, y1), (2, y2), (3, (.ptr (H ++ [some [rowsAV rows]] ++ [some [AV.v (.slice none 0 0)]]).length 0)), (5, rowAV (gt rows u)), (7, y7), (8, y8), (9, y9), (10, y10)] (((H ++ [some [rowsAV rows]] ++ [some [AV.v (.slice none 0 0)]]) ++ [some [o]]) ++ X ++ [some []]) := by
      intro y0 y1 y2 y7 y8 y9 y10
      refine A_step [0, 4] (by kernel_rfl) (by decide) ?_
      refine A_cons rfl ?_ ?_
      · refine Rq ?_
        exact A_on (nd5_101100000 _ _ _ _ _ _ _) rfl rfl rfl
      refine A_cons rfl ?_ ?_
      · refine R_append (by simp only [go_sem, ↓reduceIte, Nat.reduceEqDiff]; exact app37e lim ((H ++ [some [rowsAV rows]] ++ [some [AV.v (.slice none 0 0)]]) ++ [some [o]]) X (gt rows u) (by simp; omega) (hr u (by omega))) ?_
        exact A_on (nd5_001110000 _ _ _ _ _ _ _) rfl rfl rfl
      exact A_end
    have nd5_101000000 : ∀ y0 y1 y2 y7 y8 y9 y10 : AV, Ap sig (lim) (opsAt (at' (bodyOf fa29) [1, 0, 0, 1, 1, 0, 0, 1, 0, 1, 1])) (fun eZ HZ => eZ = [(13, (.ptr (H ++ [some [rowsAV rows]] ++ [some [AV.v (.slice none 0 0)]]).length 0)), (14, o), (15, (.own 1 (((H ++ [some [rowsAV rows]] ++ [some [AV.v (.slice none 0 0)]]) ++ [some [o]]) ++ X).length 0 0)), (16, rowAV (gt rows u)), (17, (AV.own 1 (((H ++ [some [rowsAV rows]] ++ [some [AV.v (.slice none 0 0)]]) ++ [some [o]]) ++ (X ++ [none])).length 0 (gt rows u).length)), (18, (.own 1 (((H ++ [some [rowsAV rows]] ++ [some [AV.v (.slice none 0 0)]]) ++ [some [o]]) ++ (X ++ [none]) ++ [some ((gt rows u).map AV.i)]).length 0 1)), (19, o'), (20, (.ptr (H ++ [some [rowsAV rows]] ++ [some [AV.v (.slice none 0 0)]]).length 0)), (0, y0), (1, y1), (2, y2), (3, (.ptr (H ++ [some [rowsAV rows]] ++ [some [AV.v (.slice none 0 0)]]).length 0)), (5, rowAV (gt rows u)), (7, y7), (8, y8), (9, y9), (10, y10)] ∧ HZ = (H ++ [some [rowsAV rows]] ++ [some [AV.v (.slice none 0 0)]]) ++ [some [o']] ++ X') 7 #[true, false, true, false, false, false, false, false, false] [(13, (.ptr (H ++ [some [rowsAV rows]] ++ [some [AV.v (.slice none 0 0)]]).length 0)), (14, .any), (15, (.own 1 (((H ++ [some [rowsAV rows]] ++ [some [AV.v (.slice none 0 0)]]) ++ [some [o]]) ++ X).length 0 0)), (16, .any), (17, .any), (18, .any), (19, .any), (20, .any), (0, y0), (1, y1), (2, y2), (3, (.ptr (H ++ [some [rowsAV rows]] ++ [some [AV.v (.slice none 0 0)]]).length 0)), (5, rowAV (gt rows u)), (7, y7), (8, y8), (9, y9), (10, y10)] (((H ++ [some [rowsAV rows]] ++ [some [AV.v (.slice none 0 0)]]) ++ [some [o]]) ++ X ++ [some []]) := by
      intro y0 y1 y2 y7 y8 y9 y10
      refine A_step [1, 3] (by kernel_rfl) (by decide) ?_
      refine A_cons rfl ?_ ?_
      · refine Rq ?_
        exact A_on (nd5_111000000 _ _ _ _ _ _ _) rfl rfl rfl
      refine A_cons rfl ?_ ?_
      · refine Rq ?_
        exact A_on (nd5_101100000 _ _ _ _ _ _ _) rfl rfl rfl
      exact A_end
    have nd5_110000000 : ∀ y0 y1 y2 y7 y8 y9 y10 : AV, Ap sig (lim) (opsAt (at' (bodyOf fa29) [1, 0, 0, 1, 1, 0, 0, 1, 0, 1, 1])) (fun eZ HZ => eZ = [(13, (.ptr (H ++ [some [rowsAV rows]] ++ [some [AV.v (.slice none 0 0)]]).length 0)), (14, o), (15, (.own 1 (((H ++ [some [rowsAV rows]] ++ [some [AV.v (.slice none 0 0)]]) ++ [some [o]]) ++ X).length 0 0)), (16, rowAV (gt rows u)), (17, (AV.own 1 (((H ++ [some [rowsAV rows]] ++ [some [AV.v (.slice none 0 0)]]) ++ [some [o]]) ++ (X ++ [none])).length 0 (gt rows u).length)), (18, (.own 1 (((H ++ [some [rowsAV rows]] ++ [some [AV.v (.slice none 0 0)]]) ++ [some [o]]) ++ (X ++ [none]) ++ [some ((gt rows u).map AV.i)]).length 0 1)), (19, o'), (20, (.ptr (H ++ [some [rowsAV rows]] ++ [some [AV.v (.slice none 0 0)]]).length 0)), (0, y0), (1, y1), (2, y2), (3, (.ptr (H ++ [some [rowsAV rows]] ++ [some [AV.v (.slice none 0 0)]]).length 0)), (5, rowAV (gt rows u)), (7, y7), (8, y8), (9, y9), (10, y10)] ∧ HZ = (H ++ [some [rowsAV rows]] ++ [some [AV.v (.slice none 0 0)]]) ++ [some [o']] ++ X') 7 #[true, true, false, false, false, false, false, false, false] [(13, (.ptr (H ++ [some [rowsAV rows]] ++ [some [AV.v (.slice none 0 0)]]).length 0)), (14, o), (15, .any), (16, .any), (17, .any), (18, .any), (19, .any), (20, .any), (0, y0), (1, y1), (2, y2), (3, (.ptr (H ++ [some [rowsAV rows]] ++ [some [AV.v (.slice none 0 0)]]).length 0)), (5, rowAV (gt rows u)), (7, y7), (8, y8), (9, y9), (10, y10)] (((H ++ [some [rowsAV rows]] ++ [some [AV.v (.slice none 0 0)]]) ++ [some [o]]) ++ X) := by
      intro y0 y1 y2 y7 y8 y9 y10
      refine A_step [2, 3] (by kernel_rfl) (by decide) ?_
      refine A_cons rfl ?_ ?_
      · refine R_buildSlice (bs37_0 _ _ _) ?_
        exact A_on (nd5_111000000 _ _ _ _ _ _ _) rfl rfl rfl
      refine A_cons rfl ?_ ?_
      · refine Rq ?_
        exact A_on (nd5_110100000 _ _ _ _ _ _ _) rfl rfl rfl
      exact A_end
    have nd5_100000000 : ∀ y0 y1 y2 y7 y8 y9 y10 : AV, Ap sig (lim) (opsAt (at' (bodyOf fa29) [1, 0, 0, 1, 1, 0, 0, 1, 0, 1, 1])) (fun eZ HZ => eZ = [(13, (.ptr (H ++ [some [rowsAV rows]] ++ [some [AV.v (.slice none 0 0)]]).length 0)), (14, o), (15, (.own 1 (((H ++ [some [rowsAV rows]] ++ [some [AV.v (.slice none 0 0)]]) ++ [some [o]]) ++ X).length 0 0)), (16, rowAV (gt rows u)), (17, (AV.own 1 (((H ++ [some [rowsAV rows]] ++ [some [AV.v (.slice none 0 0)]]) ++ [some [o]]) ++ (X ++ [none])).length 0 (gt rows u).length)), (18, (.own 1 (((H ++ [some [rowsAV rows]] ++ [some [AV.v (.slice none 0 0)]]) ++ [some [o]]) ++ (X ++ [none]) ++ [some ((gt rows u).map AV.i)]).length 0 1)), (19, o'), (20, (.ptr (H ++ [some [rowsAV rows]] ++ [some [AV.v (.slice none 0 0)]]).length 0)), (0, y0), (1, y1), (2, y2), (3, (.ptr (H ++ [some [rowsAV rows]] ++ [some [AV.v (.slice none 0 0)]]).length 0)), (5, rowAV (gt rows u)), (7, y7), (8, y8), (9, y9), (10, y10)] ∧ HZ = (H ++ [some [rowsAV rows]] ++ [some [AV.v (.slice none 0 0)]]) ++ [some [o']] ++ X') 8 #[true, false, false, false, false, false, false, false, false] [(13, (.ptr (H ++ [some [rowsAV rows]] ++ [some [AV.v (.slice none 0 0)]]).length 0)), (14, .any), (15, .any), (16, .any), (17, .any), (18, .any), (19, .any), (20, .any), (0, y0), (1, y1), (2, y2), (3, (.ptr (H ++ [some [rowsAV rows]] ++ [some [AV.v (.slice none 0 0)]]).length 0)), (5, rowAV (gt rows u)), (7, y7), (8, y8), (9, y9), (10, y10)] (((H ++ [some [rowsAV rows]] ++ [some [AV.v (.slice none 0 0)]]) ++ [some [o]]) ++ X) := by
      intro y0 y1 y2 y7 y8 y9 y10
      refine A_step [1, 2, 3] (by kernel_rfl) (by decide) ?_
      refine A_cons rfl ?_ ?_
      · refine Rq ?_
        exact A_on (nd5_110000000 _ _ _ _ _ _ _) rfl rfl rfl
      refine A_cons rfl ?_ ?_
      · refine R_buildSlice (bs37_0 _ _ _) ?_
        exact A_on (nd5_101000000 _ _ _ _ _ _ _) rfl rfl rfl
      refine A_cons rfl ?_ ?_
      · refine Rq ?_
        exact A_on (nd5_100100000 _ _ _ _ _ _ _) rfl rfl rfl
      exact A_end
    have nd5_001000000 : ∀ y0 y1 y2 y7 y8 y9 y10 : AV, Ap sig (lim) (opsAt (at' (bodyOf fa29) [1, 0, 0, 1, 1, 0, 0, 1, 0, 1, 1])) (fun eZ HZ => eZ = [(13, (.ptr (H ++ [some [rowsAV rows]] ++ [some [AV.v (.slice none 0 0)]]).length 0)), (14, o), (15, (.own 1 (((H ++ [some [rowsAV rows]] ++ [some [AV.v (.slice none 0 0)]]) ++ [some [o]]) ++ X).length 0 0)), (16, rowAV (gt rows u)), (17, (AV.own 1 (((H ++ [some [rowsAV rows]] ++ [some [AV.v (.slice none 0 0)]]) ++ [some [o]]) ++ (X ++ [none])).length 0 (gt rows u).length)), (18, (.own 1 (((H ++ [some [rowsAV rows]] ++ [some [AV.v (.slice none 0 0)]]) ++ [some [o]]) ++ (X ++ [none]) ++ [some ((gt rows u).map AV.i)]).length 0 1)), (19, o'), (20, (.ptr (H ++ [some [rowsAV rows]] ++ [some [AV.v (.slice none 0 0)]]).length 0)), (0, y0), (1, y1), (2, y2), (3, (.ptr (H ++ [some [rowsAV rows]] ++ [some [AV.v (.slice none 0 0)]]).length 0)), (5, rowAV (gt rows u)), (7, y7), (8, y8), (9, y9), (10, y10)] ∧ HZ = (H ++ [some [rowsAV rows]] ++ [some [AV.v (.slice none 0 0)]]) ++ [some [o']] ++ X') 8 #[false, false, true, false, false, false, false, false, false] [(13, .any), (14, .any), (15, (.own 1 (((H ++ [some [rowsAV rows]] ++ [some [AV.v (.slice none 0 0)]]) ++ [some [o]]) ++ X).length 0 0)), (16, .any), (17, .any), (18, .any), (19, .any), (20, .any), (0, y0), (1, y1), (2, y2), (3, (.ptr (H ++ [some [rowsAV rows]] ++ [some [AV.v (.slice none 0 0)]]).length 0)), (5, rowAV (gt rows u)), (7, y7), (8, y8), (9, y9), (10, y10)] (((H ++ [some [rowsAV rows]] ++ [some [AV.v (.slice none 0 0)]]) ++ [some [o]]) ++ X ++ [some []]) := by
      intro y0 y1 y2 y7 y8 y9 y10
      refine A_step [0, 3] (by kernel_rfl) (by decide) ?_
      refine A_cons rfl ?_ ?_
      · refine Rq ?_
        exact A_on (nd5_101000000 _ _ _ _ _ _ _) rfl rfl rfl
      refine A_cons rfl ?_ ?_
      · refine Rq ?_
        exact A_on (nd5_001100000 _ _ _ _ _ _ _) rfl rfl rfl
      exact A_end
    have nd5_000100000 : ∀ y0 y1 y2 y7 y8 y9 y10 : AV, Ap sig (lim) (opsAt (at' (bodyOf fa29) [1, 0, 0, 1, 1, 0, 0, 1, 0, 1, 1])) (fun eZ HZ => eZ = [(13, (.ptr (H ++ [some [rowsAV rows]] ++ [some [AV.v (.slice none 0 0)]]).length 0)), (14, o), (15, (.own 1 (((H ++ [some [rowsAV rows]] ++ [some [AV.v (.slice none 0 0)]]) ++ [some [o]]) ++ X).length 0 0)), (16, rowAV (gt rows u)), (17, (AV.own 1 (((H ++ [some [rowsAV rows]] ++ [some [AV.v (.slice none 0 0)]]) ++ [some [o]]) ++ (X ++ [none])).length 0 (gt rows u).length)), (18, (.own 1 (((H ++ [some [rowsAV rows]] ++ [some [AV.v (.slice none 0 0)]]) ++ [some [o]]) ++ (X ++ [none]) ++ [some ((gt rows u).map AV.i)]).length 0 1)), (19, o'), (20, (.ptr (H ++ [some [rowsAV rows]] ++ [some [AV.v (.slice none 0 0)]]).length 0)), (0, y0), (1, y1), (2, y2), (3, (.ptr (H ++ [some [rowsAV rows]] ++ [some [AV.v (.slice none 0 0)]]).length 0)), (5, rowAV (gt rows u)), (7, y7), (8, y8), (9, y9), (10, y10)] ∧ HZ = (H ++ [some [rowsAV rows]] ++ [some [AV.v (.slice none 0 0)]]) ++ [some [o']] ++ X') 8 #[false, false, false, true, false, false, false, false, false] [(13, .any), (14, .any), (15, .any), (16, rowAV (gt rows u)), (17, .any), (18, .any), (19, .any), (20, .any), (0, y0), (1, y1), (2, y2), (3, (.ptr (H ++ [some [rowsAV rows]] ++ [some [AV.v (.slice none 0 0)]]).length 0)), (5, rowAV (gt rows u)), (7, y7), (8, y8), (9, y9), (10, y10)] (((H ++ [some [rowsAV rows]] ++ [some [AV.v (.slice none 0 0)]]) ++ [some [o]]) ++ X) := by
      intro y0 y1 y2 y7 y8 y9 y10
      refine A_step [0, 2] (by kernel_rfl) (by decide) ?_
      refine A_cons rfl ?_ ?_
      · refine Rq ?_
        exact A_on (nd5_100100000 _ _ _ _ _ _ _) rfl rfl rfl
      refine A_cons rfl ?_ ?_
      · refine R_buildSlice (bs37_0 _ _ _) ?_
        exact A_on (nd5_001100000 _ _ _ _ _ _ _) rfl rfl rfl
      exact A_end
    have nd5_000000000 : ∀ y0 y1 y2 y7 y8 y9 y10 : AV, Ap sig (lim) (opsAt (at' (bodyOf fa29) [1, 0, 0, 1, 1, 0, 0, 1, 0, 1, 1])) (fun eZ HZ => eZ = [(13, (.ptr (H ++ [some [rowsAV rows]] ++ [some [AV.v (.slice none 0 0)]]).length 0)), (14, o), (15, (.own 1 (((H ++ [some [rowsAV rows]] ++ [some [AV.v (.slice none 0 0)]]) ++ [some [o]]) ++ X).length 0 0)), (16, rowAV (gt rows u)), (17, (AV.own 1 (((H ++ [some [rowsAV rows]] ++ [some [AV.v (.slice none 0 0)]]) ++ [some [o]]) ++ (X ++ [none])).length 0 (gt rows u).length)), (18, (.own 1 (((H ++ [some [rowsAV rows]] ++ [some [AV.v (.slice none 0 0)]]) ++ [some [o]]) ++ (X ++ [none]) ++ [some ((gt rows u).map AV.i)]).length 0 1)), (19, o'), (20, (.ptr (H ++ [some [rowsAV rows]] ++ [some [AV.v (.slice none 0 0)]]).length 0)), (0, y0), (1, y1), (2, y2), (3, (.ptr (H ++ [some [rowsAV rows]] ++ [some [AV.v (.slice none 0 0)]]).length 0)), (5, rowAV (gt rows u)), (7, y7), (8, y8), (9, y9), (10, y10)] ∧ HZ = (H ++ [some [rowsAV rows]] ++ [some [AV.v (.slice none 0 0)]]) ++ [some [o']] ++ X') 9 #[false, false, false, false, false, false, false, false, false] [(13, .any), (14, .any), (15, .any), (16, .any), (17, .any), (18, .any), (19, .any), (20, .any), (0, y0), (1, y1), (2, y2), (3, (.ptr (H ++ [some [rowsAV rows]] ++ [some [AV.v (.slice none 0 0)]]).length 0)), (5, rowAV (gt rows u)), (7, y7), (8, y8), (9, y9), (10, y10)] (((H ++ [some [rowsAV rows]] ++ [some [AV.v (.slice none 0 0)]]) ++ [some [o]]) ++ X) := by
      intro y0 y1 y2 y7 y8 y9 y10
      refine A_step [0, 2, 3] (by kernel_rfl) (by decide) ?_
      refine A_cons rfl ?_ ?_
      · refine Rq ?_
        exact A_on (nd5_100000000 _ _ _ _ _ _ _) rfl rfl rfl
      refine A_cons rfl ?_ ?_
      · refine R_buildSlice (bs37_0 _ _ _) ?_
        exact A_on (nd5_001000000 _ _ _ _ _ _ _) rfl rfl rfl
      refine A_cons rfl ?_ ?_
      · refine Rq ?_
        exact A_on (nd5_000100000 _ _ _ _ _ _ _) rfl rfl rfl
      exact A_end
    have tr : ∀ y0 y1 y2 y7 y8 y9 y10 : AV, trim [(13, (.ptr (H ++ [some [rowsAV rows]] ++ [some [AV.v (.slice none 0 0)]]).length 0)), (14, o), (15, (.own 1 (((H ++ [some [rowsAV rows]] ++ [some [AV.v (.slice none 0 0)]]) ++ [some [o]]) ++ X).length 0 0)), (16, rowAV (gt rows u)), (17, (AV.own 1 (((H ++ [some [rowsAV rows]] ++ [some [AV.v (.slice none 0 0)]]) ++ [some [o]]) ++ (X ++ [none])).length 0 (gt rows u).length)), (18, (.own 1 (((H ++ [some [rowsAV rows]] ++ [some [AV.v (.slice none 0 0)]]) ++ [some [o]]) ++ (X ++ [none]) ++ [some ((gt rows u).map AV.i)]).length 0 1)), (19, o'), (20, (.ptr (H ++ [some [rowsAV rows]] ++ [some [AV.v (.slice none 0 0)]]).length 0)), (0, y0), (1, y1), (2, y2), (3, (.ptr (H ++ [some [rowsAV rows]] ++ [some [AV.v (.slice none 0 0)]]).length 0)), (5, rowAV (gt rows u)), (7, y7), (8, y8), (9, y9), (10, y10)] [(0, y0), (1, y1), (2, y2), (3, (.ptr (H ++ [some [rowsAV rows]] ++ [some [AV.v (.slice none 0 0)]]).length 0)), (5, rowAV (gt rows u)), (7, y7), (8, y8), (9, y9), (10, y10)] = [(0, y0), (1, y1), (2, y2), (3, (.ptr (H ++ [some [rowsAV rows]] ++ [some [AV.v (.slice none 0 0)]]).length 0)), (5, rowAV (gt rows u)), (7, y7), (8, y8), (9, y9), (10, y10)] := fun y0 y1 y2 y7 y8 y9 y10 => rfl
    refine at_mixed rfl rfl rfl rfl rfl (nd5_000000000 _ _ _ _ _ _ _) (tr _ _ _ _ _ _ _) ?_; clear tr
    clear nd5_000000000
    clear nd5_100000000
    clear nd5_001000000
    clear nd5_000100000
    clear nd5_100100000
    clear nd5_001100000
    clear nd5_101100000
    clear nd5_001110000
    clear nd5_101110000
    clear nd5_001111000
    clear nd5_101111000
    clear nd5_111111000
    clear nd5_111111100
    clear nd5_111111110
    clear nd5_111111111
    clear nd5_111110000
    clear nd5_111100000
    clear nd5_110100000
    clear nd5_101000000
    clear nd5_111000000
    clear nd5_110000000
    refine blk_n ?_
    refine then_n ?_
    refine rg rfl ?_
    refine Rq ?_
    refine Rq ?_
    have tr : ∀ y0 y1 y2 y3 y5 y7 y8 y9 y10 z0 z1 : AV, trim [(9, z1), (21, z0), (0, y0), (1, y1), (2, y2), (3, y3), (5, y5), (7, y7), (8, y8), (9, y9), (10, y10)] [(0, y0), (1, y1), (2, y2), (3, y3), (5, y5), (7, y7), (8, y8), (9, y9), (10, y10)] = [(0, y0), (1, y1), (2, y2), (3, y3), (5, y5), (7, y7), (8, y8), (9, z1), (10, y10)] := fun y0 y1 y2 y3 y5 y7 y8 y9 y10 z0 z1 => rfl
    refine R_nil (tr _ _ _ _ _ _ _ _ _ _ _) ?_; clear tr
    refine then_n ?_
    have hO2 : OutT ((H ++ [some [rowsAV rows]] ++ [some [AV.v (.slice none 0 0)]]) ++ [some [o']]).length ((H ++ [some [rowsAV rows]] ++ [some [AV.v (.slice none 0 0)]]) ++ [some [o']] ++ X') o' (rows.take (u + 1)) := by
      rw [take_gt _ _ (by omega)]
      have hh := hO'.other (H ++ [some [rowsAV rows]] ++ [some [AV.v (.slice none 0 0)]]).length (some [o']) (by simp)
      rw [hset_low _ _ _ _ (by simp), hset_app] at hh
      rw [show ((H ++ [some [rowsAV rows]] ++ [some [AV.v (.slice none 0 0)]]) ++ [some [o']]).length = ((H ++ [some [rowsAV rows]] ++ [some [AV.v (.slice none 0 0)]]) ++ [some [o]]).length by simp]
      exact hh
    exact ⟨_, _, ⟨u + 1, o', X', _, _, rfl, rfl, by rfl, by omega, by exact hO2⟩, by rfl, by omega⟩
  · try simp only [decide_eq_true_eq, decide_eq_false_iff_not, Bool.not_eq_true', Bool.not_eq_false', beq_iff_eq, beq_eq_false_iff_ne, ne_eq] at h1
    refine at_exit rfl ?_
    refine then_x ?_
    refine then_x ?_
    refine blk_x ?_
    refine then_n ?_
    refine at_seq rfl ?_
    refine rg rfl ?_
    rw [List.take_of_length_le (by omega)] at hO
    have hg2 : hget (((H ++ [some [rowsAV rows]] ++ [some [AV.v (.slice none 0 0)]]) ++ [some [o]]) ++ X) (H ++ [some [rowsAV rows]]).length = some [AV.v (.slice none 0 0)] := by
      rw [hget_low _ _ _ (by simp), hget_low _ _ _ (by simp), hget_app]; rfl
    have hst2 : hset (((H ++ [some [rowsAV rows]] ++ [some [AV.v (.slice none 0 0)]]) ++ [some [o]]) ++ X) (H ++ [some [rowsAV rows]]).length (some [o]) = (H ++ [some [rowsAV rows]] ++ [some [o]] ++ [some [o]]) ++ X := by
      rw [hset_low _ _ _ _ (by simp), hset_low _ _ _ _ (by simp), hset_app]; rfl
    have hso := hO.st
    have hO3 := (hO.other (H ++ [some [rowsAV rows]]).length (some [o]) (by simp)).mono (lm' := H.length) (by simp only [List.length_append, List.length_cons, List.length_nil]; omega)
    rw [hst2] at hO3
    refine Rq ?_
    refine R_store ty24 (by simp only [go_sem, ↓reduceIte, Nat.reduceEqDiff]; rfl) (by simp only [go_sem, ↓reduceIte, Nat.reduceEqDiff, hso, if_true]; rfl) hg2 ⟨by simp; omega, rfl, by simp⟩ (k' := [o]) rfl hst2 ?_
    have tr : ∀ y0 y1 y2 y3 y5 y7 y8 y9 y10 z0 : AV, trim [(22, z0), (0, y0), (1, y1), (2, y2), (3, y3), (5, y5), (7, y7), (8, y8), (9, y9), (10, y10)] [(0, y0), (1, y1), (2, y2), (3, y3), (5, y5), (7, y7), (8, y8), (9, y9), (10, y10)] = [(0, y0), (1, y1), (2, y2), (3, y3), (5, y5), (7, y7), (8, y8), (9, y9), (10, y10)] := fun y0 y1 y2 y3 y5 y7 y8 y9 y10 z0 => rfl
    refine R_nil (tr _ _ _ _ _ _ _ _ _ _) ?_; clear tr
    refine then_n ?_
    refine at_ret rfl ?_
    have hg9 : hget (H ++ [some [rowsAV rows]] ++ [some [o]] ++ [some [o]] ++ X) (H ++ [some [rowsAV rows]]).length = some [o] := by rw [hget_low _ _ _ (by simp), hget_low _ _ _ (by simp), hget_app]; rfl
    refine fin_own (rs := [.cell 2 24]) rfl (l := [.agg [o]]) (by simp only [go_sem, ↓reduceIte, Nat.reduceEqDiff, hg9]; rfl) ?_
    exact ⟨[some [rowsAV rows]] ++ [some [o]] ++ [some [o]] ++ X, o, by simp [List.append_assoc, oneOr], rfl, hO3⟩

end Go.Proofs.Ytdkhgpdojjdadaa
