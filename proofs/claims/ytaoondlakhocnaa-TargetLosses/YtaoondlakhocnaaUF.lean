/-
  Walks of chapters 37, 39 and 40. The steps are written by program (walk.py).
-/
import Derived.Test.YtaoondlakhocnaaW
import Derived.Test.YtaoondlakhocnaaUE
import Derived.Test.YtaoondlakhocnaaUD
import Derived.Test.YtaoondlakhocnaaUB
set_option linter.unusedSimpArgs false
set_option linter.unusedVariables false
set_option maxHeartbeats 40000000
set_option maxRecDepth 4000
namespace Go.Proofs.Ytaoondlakhocnaa
open Go Go.Am

theorem tlosses_ok (rows : Tb) (per tot wth balls : Int) (l m : List Stp) (s : Stp) : ACall sig 0 7 [.agg [rowsAV rows, AV.i per, AV.i tot, AV.i wth, AV.i balls, stopsAV l, stopsAV m], .agg (stC s)] [] fun r _ => r = .v (.bool true) := by
  refine ACall_pure (fa := fa7) rfl rfl rfl rfl ?_
  have tr : ∀ a0 a1 : AV, env0 fa7.keep [a0, a1] = [(0, a0), (1, a1), (2, .any), (3, .any), (4, .any), (5, .any), (6, .any), (7, .any), (8, .any), (9, .any), (10, .any), (11, .any), (12, .any), (14, .any), (17, .any), (25, .any)] := fun a0 a1 => rfl
  refine W_to (tr _ _) ?_; clear tr
  refine at_seq rfl ?_
  refine rg rfl ?_
  refine R_box rfl (by simp (disch := first | omega | (simp only [List.length_map, List.length_append, List.length_set, List.length_cons, List.length_nil, List.length_take, List.length_drop]; omega)) only [go_sem, ↓reduceIte, Nat.reduceEqDiff, reduceCtorEq]; rfl) rfl rfl ?_
  refine R_box rfl (by simp (disch := first | omega | (simp only [List.length_map, List.length_append, List.length_set, List.length_cons, List.length_nil, List.length_take, List.length_drop]; omega)) only [go_sem, ↓reduceIte, Nat.reduceEqDiff, reduceCtorEq]; rfl) rfl rfl ?_
  refine Rq ?_
  have tr : ∀ y0 y1 y2 y3 y4 y5 y6 y7 y8 y9 y10 y11 y12 y14 y17 y25 z0 z1 z2 : AV, trim [(4, z2), (3, z1), (2, z0), (0, y0), (1, y1), (2, y2), (3, y3), (4, y4), (5, y5), (6, y6), (7, y7), (8, y8), (9, y9), (10, y10), (11, y11), (12, y12), (14, y14), (17, y17), (25, y25)] [(0, y0), (1, y1), (2, y2), (3, y3), (4, y4), (5, y5), (6, y6), (7, y7), (8, y8), (9, y9), (10, y10), (11, y11), (12, y12), (14, y14), (17, y17), (25, y25)] = [(0, y0), (1, y1), (2, z0), (3, z1), (4, z2), (5, y5), (6, y6), (7, y7), (8, y8), (9, y9), (10, y10), (11, y11), (12, y12), (14, y14), (17, y17), (25, y25)] := fun y0 y1 y2 y3 y4 y5 y6 y7 y8 y9 y10 y11 y12 y14 y17 y25 z0 z1 z2 => rfl
  refine R_nil (tr _ _ _ _ _ _ _ _ _ _ _ _ _ _ _ _ _ _ _) ?_; clear tr
  refine then_n ?_
  refine at_seq rfl ?_
  refine at_seq rfl ?_
  refine rg rfl ?_
  refine Rcall ?_
  refine ACall_eval 300 (awake40 _ _) ?_
  refine Rq ?_
  have tr : ∀ y0 y1 y2 y3 y4 y5 y6 y7 y8 y9 y10 y11 y12 y14 y17 y25 z0 z1 : AV, trim [(14, z1), (13, z0), (0, y0), (1, y1), (2, y2), (3, y3), (4, y4), (5, y5), (6, y6), (7, y7), (8, y8), (9, y9), (10, y10), (11, y11), (12, y12), (14, y14), (17, y17), (25, y25)] [(0, y0), (1, y1), (2, y2), (3, y3), (4, y4), (5, y5), (6, y6), (7, y7), (8, y8), (9, y9), (10, y10), (11, y11), (12, y12), (14, y14), (17, y17), (25, y25)] = [(0, y0), (1, y1), (2, y2), (3, y3), (4, y4), (5, y5), (6, y6), (7, y7), (8, y8), (9, y9), (10, y10), (11, y11), (12, y12), (14, z1), (17, y17), (25, y25)] := fun y0 y1 y2 y3 y4 y5 y6 y7 y8 y9 y10 y11 y12 y14 y17 y25 z0 z1 => rfl
  refine R_nil (tr _ _ _ _ _ _ _ _ _ _ _ _ _ _ _ _ _ _) ?_; clear tr
  refine then_n ?_
  refine cdf ?_
  refine at_skip rfl ?_
  refine then_n ?_
  refine at_seq rfl ?_
  refine at_seq rfl ?_
  refine rg rfl ?_
  refine Rq ?_
  refine Rcall ?_
  refine ACall_mono (small40_len _ _ rows per tot wth balls l m) ?_
  rintro r H6 ⟨⟨b, rfl, hbl⟩, rfl⟩
  refine Rq ?_
  have tr : ∀ y0 y1 y2 y3 y4 y5 y6 y7 y8 y9 y10 y11 y12 y14 y17 y25 z0 z1 z2 : AV, trim [(17, z2), (16, z1), (15, z0), (0, y0), (1, y1), (2, y2), (3, y3), (4, y4), (5, y5), (6, y6), (7, y7), (8, y8), (9, y9), (10, y10), (11, y11), (12, y12), (14, y14), (17, y17), (25, y25)] [(0, y0), (1, y1), (2, y2), (3, y3), (4, y4), (5, y5), (6, y6), (7, y7), (8, y8), (9, y9), (10, y10), (11, y11), (12, y12), (14, y14), (17, y17), (25, y25)] = [(0, y0), (1, y1), (2, y2), (3, y3), (4, y4), (5, y5), (6, y6), (7, y7), (8, y8), (9, y9), (10, y10), (11, y11), (12, y12), (14, y14), (17, z2), (25, y25)] := fun y0 y1 y2 y3 y4 y5 y6 y7 y8 y9 y10 y11 y12 y14 y17 y25 z0 z1 z2 => rfl
  refine R_nil (tr _ _ _ _ _ _ _ _ _ _ _ _ _ _ _ _ _ _ _) ?_; clear tr
  refine then_n ?_
  refine cdd (fun h1 => ?_) (fun h1 => ?_)
  · try simp only [decide_eq_true_eq, decide_eq_false_iff_not, Bool.not_eq_true', Bool.not_eq_false', beq_iff_eq, beq_eq_false_iff_ne, ne_eq] at h1
    refine at_seq rfl ?_
    refine rg rfl ?_
    refine Rq ?_
    have tr : ∀ y0 y1 y2 y3 y4 y5 y6 y7 y8 y9 y10 y11 y12 y14 y17 y25 z0 : AV, trim [(4, z0), (0, y0), (1, y1), (2, y2), (3, y3), (4, y4), (5, y5), (6, y6), (7, y7), (8, y8), (9, y9), (10, y10), (11, y11), (12, y12), (14, y14), (17, y17), (25, y25)] [(0, y0), (1, y1), (2, y2), (3, y3), (4, y4), (5, y5), (6, y6), (7, y7), (8, y8), (9, y9), (10, y10), (11, y11), (12, y12), (14, y14), (17, y17), (25, y25)] = [(0, y0), (1, y1), (2, y2), (3, y3), (4, z0), (5, y5), (6, y6), (7, y7), (8, y8), (9, y9), (10, y10), (11, y11), (12, y12), (14, y14), (17, y17), (25, y25)] := fun y0 y1 y2 y3 y4 y5 y6 y7 y8 y9 y10 y11 y12 y14 y17 y25 z0 => rfl
    refine R_nil (tr _ _ _ _ _ _ _ _ _ _ _ _ _ _ _ _ _) ?_; clear tr
    refine then_n ?_
    refine at_ret rfl ?_
    refine then_r ?_
    refine fpure ?_
    first | rfl | rw [decide_eq_true (t2 (by assumption))] | (rw [tgt_err (by assumption)]; rfl) | simp
  · try simp only [decide_eq_true_eq, decide_eq_false_iff_not, Bool.not_eq_true', Bool.not_eq_false', beq_iff_eq, beq_eq_false_iff_ne, ne_eq] at h1
    refine at_skip rfl ?_
    refine then_n ?_
    refine at_seq rfl ?_
    refine rg rfl ?_
    have hl20 := hbl (by assumption)
    have hl1 := hl20.1
    have hl2 := hl20.2
    refine Rq ?_
    refine Rcall ?_
    refine ACall_eq (of_gen _ _ rows per tot wth balls (stopsAV l) (stopsAV m) rfl rfl rfl rfl (fun _ => by first | exact frz_stops _ _ _ _ | rfl) (fun _ => by first | exact frz_stops _ _ _ _ | rfl)) ?_
    refine Rcall ?_
    refine ACall_eq (target_fz _ _ rows per tot wth balls l m (stopsAV l) (stopsAV m) (by first | exact frz_stops _ _ _ _ | exact frz_own3 rfl (by simp)) (by first | exact frz_stops _ _ _ _ | exact frz_own3 rfl (by simp))) ?_
    refine Rq ?_
    refine Rq ?_
    refine Rq ?_
    refine Rq ?_
    refine Rq ?_
    have tr : ∀ y0 y1 y2 y3 y4 y5 y6 y7 y8 y9 y10 y11 y12 y14 y17 y25 z0 z1 z2 z3 z4 z5 z6 z7 : AV, trim [(6, z7), (5, z6), (23, z5), (22, z4), (18, z3), (21, z2), (20, z1), (19, z0), (0, y0), (1, y1), (2, y2), (3, y3), (4, y4), (5, y5), (6, y6), (7, y7), (8, y8), (9, y9), (10, y10), (11, y11), (12, y12), (14, y14), (17, y17), (25, y25)] [(0, y0), (1, y1), (2, y2), (3, y3), (4, y4), (5, y5), (6, y6), (7, y7), (8, y8), (9, y9), (10, y10), (11, y11), (12, y12), (14, y14), (17, y17), (25, y25)] = [(0, y0), (1, y1), (2, y2), (3, y3), (4, y4), (5, z6), (6, z7), (7, y7), (8, y8), (9, y9), (10, y10), (11, y11), (12, y12), (14, y14), (17, y17), (25, y25)] := fun y0 y1 y2 y3 y4 y5 y6 y7 y8 y9 y10 y11 y12 y14 y17 y25 z0 z1 z2 z3 z4 z5 z6 z7 => rfl
    refine R_nil (tr _ _ _ _ _ _ _ _ _ _ _ _ _ _ _ _ _ _ _ _ _ _ _ _) ?_; clear tr
    refine then_n ?_
    refine at_seq rfl ?_
    refine at_seq rfl ?_
    refine rg rfl ?_
    refine Rq ?_
    refine Rq ?_
    have tr : ∀ y0 y1 y2 y3 y4 y5 y6 y7 y8 y9 y10 y11 y12 y14 y17 y25 z0 z1 : AV, trim [(25, z1), (24, z0), (0, y0), (1, y1), (2, y2), (3, y3), (4, y4), (5, y5), (6, y6), (7, y7), (8, y8), (9, y9), (10, y10), (11, y11), (12, y12), (14, y14), (17, y17), (25, y25)] [(0, y0), (1, y1), (2, y2), (3, y3), (4, y4), (5, y5), (6, y6), (7, y7), (8, y8), (9, y9), (10, y10), (11, y11), (12, y12), (14, y14), (17, y17), (25, y25)] = [(0, y0), (1, y1), (2, y2), (3, y3), (4, y4), (5, y5), (6, y6), (7, y7), (8, y8), (9, y9), (10, y10), (11, y11), (12, y12), (14, y14), (17, y17), (25, z1)] := fun y0 y1 y2 y3 y4 y5 y6 y7 y8 y9 y10 y11 y12 y14 y17 y25 z0 z1 => rfl
    refine R_nil (tr _ _ _ _ _ _ _ _ _ _ _ _ _ _ _ _ _ _) ?_; clear tr
    refine then_n ?_
    refine cdd (fun h2 => ?_) (fun h2 => ?_)
    · try simp only [decide_eq_true_eq, decide_eq_false_iff_not, Bool.not_eq_true', Bool.not_eq_false', beq_iff_eq, beq_eq_false_iff_ne, ne_eq] at h2
      refine at_seq rfl ?_
      refine rg rfl ?_
      refine Rq ?_
      refine Rq ?_
      refine Rq ?_
      have tr : ∀ y0 y1 y2 y3 y4 y5 y6 y7 y8 y9 y10 y11 y12 y14 y17 y25 z0 z1 z2 : AV, trim [(4, z2), (27, z1), (26, z0), (0, y0), (1, y1), (2, y2), (3, y3), (4, y4), (5, y5), (6, y6), (7, y7), (8, y8), (9, y9), (10, y10), (11, y11), (12, y12), (14, y14), (17, y17), (25, y25)] [(0, y0), (1, y1), (2, y2), (3, y3), (4, y4), (5, y5), (6, y6), (7, y7), (8, y8), (9, y9), (10, y10), (11, y11), (12, y12), (14, y14), (17, y17), (25, y25)] = [(0, y0), (1, y1), (2, y2), (3, y3), (4, z2), (5, y5), (6, y6), (7, y7), (8, y8), (9, y9), (10, y10), (11, y11), (12, y12), (14, y14), (17, y17), (25, y25)] := fun y0 y1 y2 y3 y4 y5 y6 y7 y8 y9 y10 y11 y12 y14 y17 y25 z0 z1 z2 => rfl
      refine R_nil (tr _ _ _ _ _ _ _ _ _ _ _ _ _ _ _ _ _ _ _) ?_; clear tr
      refine then_n ?_
      refine at_ret rfl ?_
      refine then_r ?_
      refine fpure ?_
      first | rfl | rw [decide_eq_true (t2 (by assumption))] | (rw [tgt_err (by assumption)]; rfl) | simp
    · try simp only [decide_eq_true_eq, decide_eq_false_iff_not, Bool.not_eq_true', Bool.not_eq_false', beq_iff_eq, beq_eq_false_iff_ne, ne_eq] at h2
      refine at_skip rfl ?_
      refine then_n ?_
      refine at_seq rfl ?_
      refine rls2 rfl rfl ?_
      refine Lq ?_
      refine Lq ?_
      refine L_nil ?_
      refine R_alloc (n := 2) (H' := [some [rowsAV rows, AV.i per, AV.i tot, AV.i wth, AV.i balls, stopsAV l, stopsAV m], some (stC s), some [.v (.slice none 0 0), AV.i 0, AV.i 0, AV.i 0, AV.i 0, .v (.slice none 0 0), .v (.slice none 0 0)]]) (by simp (disch := first | omega | (simp only [List.length_map, List.length_append, List.length_set, List.length_cons, List.length_nil, List.length_take, List.length_drop]; omega)) only [go_sem, ↓reduceIte, Nat.reduceEqDiff, reduceCtorEq] <;> rfl) rfl rfl ?_
      refine R_alloc (n := 3) (H' := [some [rowsAV rows, AV.i per, AV.i tot, AV.i wth, AV.i balls, stopsAV l, stopsAV m], some (stC s), some [.v (.slice none 0 0), AV.i 0, AV.i 0, AV.i 0, AV.i 0, .v (.slice none 0 0), .v (.slice none 0 0)], some [.v (.slice none 0 0), AV.i 0, AV.i 0, AV.i 0, AV.i 0, .v (.slice none 0 0), .v (.slice none 0 0)]]) (by simp (disch := first | omega | (simp only [List.length_map, List.length_append, List.length_set, List.length_cons, List.length_nil, List.length_take, List.length_drop]; omega)) only [go_sem, ↓reduceIte, Nat.reduceEqDiff, reduceCtorEq] <;> rfl) rfl rfl ?_
      refine R_store (b := 2) (o := 0) (H' := [some [rowsAV rows, AV.i per, AV.i tot, AV.i wth, AV.i balls, stopsAV l, stopsAV m], some (stC s), some [rowsAV rows, AV.i per, AV.i tot, AV.i wth, AV.i balls, stopsAV l, stopsAV m], some [.v (.slice none 0 0), AV.i 0, AV.i 0, AV.i 0, AV.i 0, .v (.slice none 0 0), .v (.slice none 0 0)]]) ty27 (by simp (disch := first | omega | (simp only [List.length_map, List.length_append, List.length_set, List.length_cons, List.length_nil, List.length_take, List.length_drop]; omega)) only [go_sem, ↓reduceIte, Nat.reduceEqDiff, reduceCtorEq] <;> rfl) (by simp (disch := first | omega | (simp only [List.length_map, List.length_append, List.length_set, List.length_cons, List.length_nil, List.length_take, List.length_drop]; omega)) only [go_sem, ↓reduceIte, Nat.reduceEqDiff, reduceCtorEq] <;> rfl) rfl ⟨by simp, rfl, by first | exact Nat.le_refl _ | (show _ ≤ 7; decide)⟩ rfl rfl ?_
      refine R_end ⟨?_, ?_⟩
      · skip
        refine ⟨?_, ?_⟩
        · skip
          refine R_alloc (n := 2) (H' := [some [rowsAV rows, AV.i per, AV.i tot, AV.i wth, AV.i balls, stopsAV l, stopsAV m], some (stC s), some [.v (.slice none 0 0), AV.i 0, AV.i 0, AV.i 0, AV.i 0, .v (.slice none 0 0), .v (.slice none 0 0)]]) (by simp (disch := first | omega | (simp only [List.length_map, List.length_append, List.length_set, List.length_cons, List.length_nil, List.length_take, List.length_drop]; omega)) only [go_sem, ↓reduceIte, Nat.reduceEqDiff, reduceCtorEq] <;> rfl) rfl rfl ?_
          refine R_alloc (n := 3) (H' := [some [rowsAV rows, AV.i per, AV.i tot, AV.i wth, AV.i balls, stopsAV l, stopsAV m], some (stC s), some [.v (.slice none 0 0), AV.i 0, AV.i 0, AV.i 0, AV.i 0, .v (.slice none 0 0), .v (.slice none 0 0)], some [.v (.slice none 0 0), AV.i 0, AV.i 0, AV.i 0, AV.i 0, .v (.slice none 0 0), .v (.slice none 0 0)]]) (by simp (disch := first | omega | (simp only [List.length_map, List.length_append, List.length_set, List.length_cons, List.length_nil, List.length_take, List.length_drop]; omega)) only [go_sem, ↓reduceIte, Nat.reduceEqDiff, reduceCtorEq] <;> rfl) rfl rfl ?_
          refine R_store (b := 3) (o := 0) (H' := [some [rowsAV rows, AV.i per, AV.i tot, AV.i wth, AV.i balls, stopsAV l, stopsAV m], some (stC s), some [.v (.slice none 0 0), AV.i 0, AV.i 0, AV.i 0, AV.i 0, .v (.slice none 0 0), .v (.slice none 0 0)], some [rowsAV rows, AV.i per, AV.i tot, AV.i wth, AV.i balls, stopsAV l, stopsAV m]]) ty27 (by simp (disch := first | omega | (simp only [List.length_map, List.length_append, List.length_set, List.length_cons, List.length_nil, List.length_take, List.length_drop]; omega)) only [go_sem, ↓reduceIte, Nat.reduceEqDiff, reduceCtorEq] <;> rfl) (by simp (disch := first | omega | (simp only [List.length_map, List.length_append, List.length_set, List.length_cons, List.length_nil, List.length_take, List.length_drop]; omega)) only [go_sem, ↓reduceIte, Nat.reduceEqDiff, reduceCtorEq] <;> rfl) rfl ⟨by simp, rfl, by first | exact Nat.le_refl _ | (show _ ≤ 7; decide)⟩ rfl rfl ?_
          refine R_end ?_
          refine ⟨[1, 0], by simp, by simp, by simp, by decide, by decide, by decide, ?_, ?_⟩
          · intro t ht
            simp only [List.mem_cons, List.not_mem_nil, or_false] at ht
            rcases ht with rfl | rfl | rfl <;> simp only [get_cons, put_some, put_none, ↓reduceIte, Nat.reduceEqDiff] <;> first | rfl | exact congrArg AV.agg (ren_ch7 _ _ _ _ _ _ _ _)
          · intro k hk
            simp only [List.mem_cons, List.not_mem_nil, or_false] at hk
            rcases hk with rfl | rfl <;> first | rfl | exact congrArg some (ren_flat _ _).symm | exact congrArg some (ren_ch _ _ _ _ _ _ _ _).symm
        exact trivial
      rewrite [keep_all (by intro i hi; simp only [List.length_append, List.length_cons, List.length_nil] at hi ⊢; simp only [List.mem_cons, List.not_mem_nil, or_false]; omega)]
      refine Rp_env (e' := [(29, _), (7, _), (8, _), (28, .any), (29, .any), (7, .any), (8, .any), (0, _), (1, _), (2, _), (3, _), (4, _), (5, _), (6, _), (7, _), (8, _), (9, _), (10, _), (11, _), (12, _), (14, _), (17, _), (25, _)]) rfl ?_
      simp only [put_some, get_cons, ↓reduceIte, Nat.reduceEqDiff]
      refine R_store (b := 3) (o := 0) (H' := [some [rowsAV rows, AV.i per, AV.i tot, AV.i wth, AV.i balls, stopsAV l, stopsAV m], some (stC s), some [rowsAV rows, AV.i per, AV.i tot, AV.i wth, AV.i balls, stopsAV l, stopsAV m], some [rowsAV rows, AV.i per, AV.i tot, AV.i wth, AV.i balls, stopsAV l, stopsAV m]]) ty27 (by simp (disch := first | omega | (simp only [List.length_map, List.length_append, List.length_set, List.length_cons, List.length_nil, List.length_take, List.length_drop]; omega)) only [go_sem, ↓reduceIte, Nat.reduceEqDiff, reduceCtorEq] <;> rfl) (by simp (disch := first | omega | (simp only [List.length_map, List.length_append, List.length_set, List.length_cons, List.length_nil, List.length_take, List.length_drop]; omega)) only [go_sem, ↓reduceIte, Nat.reduceEqDiff, reduceCtorEq] <;> rfl) rfl ⟨by simp, rfl, by first | exact Nat.le_refl _ | (show _ ≤ 7; decide)⟩ rfl rfl ?_
      have tr : ∀ y0 y1 y2 y3 y4 y5 y6 y7 y8 y9 y10 y11 y12 y14 y17 y25 z0 z1 z2 z3 z4 z5 z6 : AV, trim [(29, z6), (7, z5), (8, z4), (28, z3), (29, z2), (7, z1), (8, z0), (0, y0), (1, y1), (2, y2), (3, y3), (4, y4), (5, y5), (6, y6), (7, y7), (8, y8), (9, y9), (10, y10), (11, y11), (12, y12), (14, y14), (17, y17), (25, y25)] [(0, y0), (1, y1), (2, y2), (3, y3), (4, y4), (5, y5), (6, y6), (7, y7), (8, y8), (9, y9), (10, y10), (11, y11), (12, y12), (14, y14), (17, y17), (25, y25)] = [(0, y0), (1, y1), (2, y2), (3, y3), (4, y4), (5, y5), (6, y6), (7, z5), (8, z4), (9, y9), (10, y10), (11, y11), (12, y12), (14, y14), (17, y17), (25, y25)] := fun y0 y1 y2 y3 y4 y5 y6 y7 y8 y9 y10 y11 y12 y14 y17 y25 z0 z1 z2 z3 z4 z5 z6 => rfl
      refine R_nil (tr _ _ _ _ _ _ _ _ _ _ _ _ _ _ _ _ _ _ _ _ _ _ _) ?_; clear tr
      refine then_n ?_
      refine at_seq rfl ?_
      refine rls2 rfl rfl ?_
      refine Lq ?_
      refine Lq ?_
      refine Lq ?_
      refine L_nil ?_
      refine R_buildSlice (r := .own 3 4 0 0) (H' := [some [rowsAV rows, AV.i per, AV.i tot, AV.i wth, AV.i balls, stopsAV l, stopsAV m], some (stC s), some [rowsAV rows, AV.i per, AV.i tot, AV.i wth, AV.i balls, stopsAV l, stopsAV m], some [rowsAV rows, AV.i per, AV.i tot, AV.i wth, AV.i balls, stopsAV l, stopsAV m], some []]) (by exact bs25e _ _ _) ?_
      refine R_append (r := .own 3 5 0 m.length) (H' := [some [rowsAV rows, AV.i per, AV.i tot, AV.i wth, AV.i balls, stopsAV l, stopsAV m], some (stC s), some [rowsAV rows, AV.i per, AV.i tot, AV.i wth, AV.i balls, stopsAV l, stopsAV m], some [rowsAV rows, AV.i per, AV.i tot, AV.i wth, AV.i balls, stopsAV l, stopsAV m], none, some (flatS m)]) (by simp (disch := first | omega | (simp only [List.length_map, List.length_append, List.length_set, List.length_cons, List.length_nil, List.length_take, List.length_drop]; omega)) only [go_sem, ↓reduceIte, Nat.reduceEqDiff, reduceCtorEq]; exact app25e (l := m) (b := 4) rfl (by simp) (by omega)) ?_
      refine R_buildSlice (r := .own 3 6 0 1) (H' := [some [rowsAV rows, AV.i per, AV.i tot, AV.i wth, AV.i balls, stopsAV l, stopsAV m], some (stC s), some [rowsAV rows, AV.i per, AV.i tot, AV.i wth, AV.i balls, stopsAV l, stopsAV m], some [rowsAV rows, AV.i per, AV.i tot, AV.i wth, AV.i balls, stopsAV l, stopsAV m], none, some (flatS m), some (stC s)]) (by exact bs25 _ _ _ _ s (by simp (disch := first | omega | (simp only [List.length_map, List.length_append, List.length_set, List.length_cons, List.length_nil, List.length_take, List.length_drop]; omega)) only [go_sem, ↓reduceIte, Nat.reduceEqDiff, reduceCtorEq] <;> rfl)) ?_
      refine R_end ⟨?_, ?_⟩
      · skip
        refine ⟨?_, ?_⟩
        · skip
          refine R_buildSlice (r := .own 3 4 0 0) (H' := [some [rowsAV rows, AV.i per, AV.i tot, AV.i wth, AV.i balls, stopsAV l, stopsAV m], some (stC s), some [rowsAV rows, AV.i per, AV.i tot, AV.i wth, AV.i balls, stopsAV l, stopsAV m], some [rowsAV rows, AV.i per, AV.i tot, AV.i wth, AV.i balls, stopsAV l, stopsAV m], some []]) (by exact bs25e _ _ _) ?_
          refine R_buildSlice (r := .own 3 5 0 1) (H' := [some [rowsAV rows, AV.i per, AV.i tot, AV.i wth, AV.i balls, stopsAV l, stopsAV m], some (stC s), some [rowsAV rows, AV.i per, AV.i tot, AV.i wth, AV.i balls, stopsAV l, stopsAV m], some [rowsAV rows, AV.i per, AV.i tot, AV.i wth, AV.i balls, stopsAV l, stopsAV m], some [], some (stC s)]) (by exact bs25 _ _ _ _ s (by simp (disch := first | omega | (simp only [List.length_map, List.length_append, List.length_set, List.length_cons, List.length_nil, List.length_take, List.length_drop]; omega)) only [go_sem, ↓reduceIte, Nat.reduceEqDiff, reduceCtorEq] <;> rfl)) ?_
          refine R_append (r := .own 3 6 0 m.length) (H' := [some [rowsAV rows, AV.i per, AV.i tot, AV.i wth, AV.i balls, stopsAV l, stopsAV m], some (stC s), some [rowsAV rows, AV.i per, AV.i tot, AV.i wth, AV.i balls, stopsAV l, stopsAV m], some [rowsAV rows, AV.i per, AV.i tot, AV.i wth, AV.i balls, stopsAV l, stopsAV m], none, some (stC s), some (flatS m)]) (by simp (disch := first | omega | (simp only [List.length_map, List.length_append, List.length_set, List.length_cons, List.length_nil, List.length_take, List.length_drop]; omega)) only [go_sem, ↓reduceIte, Nat.reduceEqDiff, reduceCtorEq]; exact app25e (l := m) (b := 4) rfl (by simp) (by omega)) ?_
          refine R_end ?_
          refine ⟨[0, 2, 1], by simp, by simp, by simp, by decide, by decide, by decide, ?_, ?_⟩
          · intro t ht
            simp only [List.mem_cons, List.not_mem_nil, or_false] at ht
            rcases ht with rfl | rfl <;> simp only [get_cons, put_some, put_none, ↓reduceIte, Nat.reduceEqDiff] <;> first | rfl | exact congrArg AV.agg (ren_ch7 _ _ _ _ _ _ _ _)
          · intro k hk
            simp only [List.mem_cons, List.not_mem_nil, or_false] at hk
            rcases hk with rfl | rfl | rfl <;> first | rfl | exact congrArg some (ren_flat _ _).symm | exact congrArg some (ren_ch _ _ _ _ _ _ _ _).symm
        refine ⟨?_, ?_⟩
        · skip
          refine R_buildSlice (r := .own 3 4 0 1) (H' := [some [rowsAV rows, AV.i per, AV.i tot, AV.i wth, AV.i balls, stopsAV l, stopsAV m], some (stC s), some [rowsAV rows, AV.i per, AV.i tot, AV.i wth, AV.i balls, stopsAV l, stopsAV m], some [rowsAV rows, AV.i per, AV.i tot, AV.i wth, AV.i balls, stopsAV l, stopsAV m], some (stC s)]) (by exact bs25 _ _ _ _ s (by simp (disch := first | omega | (simp only [List.length_map, List.length_append, List.length_set, List.length_cons, List.length_nil, List.length_take, List.length_drop]; omega)) only [go_sem, ↓reduceIte, Nat.reduceEqDiff, reduceCtorEq] <;> rfl)) ?_
          refine R_buildSlice (r := .own 3 5 0 0) (H' := [some [rowsAV rows, AV.i per, AV.i tot, AV.i wth, AV.i balls, stopsAV l, stopsAV m], some (stC s), some [rowsAV rows, AV.i per, AV.i tot, AV.i wth, AV.i balls, stopsAV l, stopsAV m], some [rowsAV rows, AV.i per, AV.i tot, AV.i wth, AV.i balls, stopsAV l, stopsAV m], some (stC s), some []]) (by exact bs25e _ _ _) ?_
          refine R_append (r := .own 3 6 0 m.length) (H' := [some [rowsAV rows, AV.i per, AV.i tot, AV.i wth, AV.i balls, stopsAV l, stopsAV m], some (stC s), some [rowsAV rows, AV.i per, AV.i tot, AV.i wth, AV.i balls, stopsAV l, stopsAV m], some [rowsAV rows, AV.i per, AV.i tot, AV.i wth, AV.i balls, stopsAV l, stopsAV m], some (stC s), none, some (flatS m)]) (by simp (disch := first | omega | (simp only [List.length_map, List.length_append, List.length_set, List.length_cons, List.length_nil, List.length_take, List.length_drop]; omega)) only [go_sem, ↓reduceIte, Nat.reduceEqDiff, reduceCtorEq]; exact app25e (l := m) (b := 5) rfl (by simp) (by omega)) ?_
          refine R_end ?_
          refine ⟨[1, 2, 0], by simp, by simp, by simp, by decide, by decide, by decide, ?_, ?_⟩
          · intro t ht
            simp only [List.mem_cons, List.not_mem_nil, or_false] at ht
            rcases ht with rfl | rfl <;> simp only [get_cons, put_some, put_none, ↓reduceIte, Nat.reduceEqDiff] <;> first | rfl | exact congrArg AV.agg (ren_ch7 _ _ _ _ _ _ _ _)
          · intro k hk
            simp only [List.mem_cons, List.not_mem_nil, or_false] at hk
            rcases hk with rfl | rfl | rfl <;> first | rfl | exact congrArg some (ren_flat _ _).symm | exact congrArg some (ren_ch _ _ _ _ _ _ _ _).symm
        exact trivial
      rewrite [keep_all (by intro i hi; simp only [List.length_append, List.length_cons, List.length_nil] at hi ⊢; simp only [List.mem_cons, List.not_mem_nil, or_false]; omega)]
      refine Rp_env (e' := [(33, _), (35, _), (30, .any), (31, .any), (32, .any), (33, .any), (34, .any), (35, .any), (36, .any), (37, .any), (0, _), (1, _), (2, _), (3, _), (4, _), (5, _), (6, _), (7, _), (8, _), (9, _), (10, _), (11, _), (12, _), (14, _), (17, _), (25, _)]) rfl ?_
      simp only [put_some, get_cons, ↓reduceIte, Nat.reduceEqDiff]
      refine R_append (r := .own 3 7 0 (m.length + 1)) (H' := [some [rowsAV rows, AV.i per, AV.i tot, AV.i wth, AV.i balls, stopsAV l, stopsAV m], some (stC s), some [rowsAV rows, AV.i per, AV.i tot, AV.i wth, AV.i balls, stopsAV l, stopsAV m], some [rowsAV rows, AV.i per, AV.i tot, AV.i wth, AV.i balls, stopsAV l, stopsAV m], none, none, some (stC s), some (flatS (m ++ [s]))]) (by simp (disch := first | omega | (simp only [List.length_map, List.length_append, List.length_set, List.length_cons, List.length_nil, List.length_take, List.length_drop]; omega)) only [go_sem, ↓reduceIte, Nat.reduceEqDiff, reduceCtorEq]; exact app25s (l := m) (s := s) (b := 5) (c := 6) rfl rfl (by simp) (by omega)) ?_
      refine Rq ?_
      refine R_store (b := 2) (o := 6) (H' := [some [rowsAV rows, AV.i per, AV.i tot, AV.i wth, AV.i balls, stopsAV l, stopsAV m], some (stC s), some [rowsAV rows, AV.i per, AV.i tot, AV.i wth, AV.i balls, stopsAV l, .own 3 7 0 (m.length + 1)], some [rowsAV rows, AV.i per, AV.i tot, AV.i wth, AV.i balls, stopsAV l, stopsAV m], none, none, some (stC s), some (flatS (m ++ [s]))]) ty25 (by simp (disch := first | omega | (simp only [List.length_map, List.length_append, List.length_set, List.length_cons, List.length_nil, List.length_take, List.length_drop]; omega)) only [go_sem, ↓reduceIte, Nat.reduceEqDiff, reduceCtorEq] <;> rfl) (by simp (disch := first | omega | (simp only [List.length_map, List.length_append, List.length_set, List.length_cons, List.length_nil, List.length_take, List.length_drop]; omega)) only [go_sem, ↓reduceIte, Nat.reduceEqDiff, reduceCtorEq] <;> rfl) rfl ⟨by simp, rfl, by first | exact Nat.le_refl _ | (show _ ≤ 7; decide)⟩ rfl rfl ?_
      have tr : ∀ y0 y1 y2 y3 y4 y5 y6 y7 y8 y9 y10 y11 y12 y14 y17 y25 z0 z1 z2 z3 z4 z5 z6 z7 z8 z9 z10 z11 : AV, trim [(37, z11), (36, z10), (33, z9), (35, z8), (30, z7), (31, z6), (32, z5), (33, z4), (34, z3), (35, z2), (36, z1), (37, z0), (0, y0), (1, y1), (2, y2), (3, y3), (4, y4), (5, y5), (6, y6), (7, y7), (8, y8), (9, y9), (10, y10), (11, y11), (12, y12), (14, y14), (17, y17), (25, y25)] [(0, y0), (1, y1), (2, y2), (3, y3), (4, y4), (5, y5), (6, y6), (7, y7), (8, y8), (9, y9), (10, y10), (11, y11), (12, y12), (14, y14), (17, y17), (25, y25)] = [(0, y0), (1, y1), (2, y2), (3, y3), (4, y4), (5, y5), (6, y6), (7, y7), (8, y8), (9, y9), (10, y10), (11, y11), (12, y12), (14, y14), (17, y17), (25, y25)] := fun y0 y1 y2 y3 y4 y5 y6 y7 y8 y9 y10 y11 y12 y14 y17 y25 z0 z1 z2 z3 z4 z5 z6 z7 z8 z9 z10 z11 => rfl
      refine R_nil (tr _ _ _ _ _ _ _ _ _ _ _ _ _ _ _ _ _ _ _ _ _ _ _ _ _ _ _ _) ?_; clear tr
      refine then_n ?_
      refine at_seq rfl ?_
      refine rls2 rfl rfl ?_
      refine Lq ?_
      refine Lq ?_
      refine Lq ?_
      refine L_nil ?_
      refine R_buildSlice (r := .own 3 8 0 0) (H' := [some [rowsAV rows, AV.i per, AV.i tot, AV.i wth, AV.i balls, stopsAV l, stopsAV m], some (stC s), some [rowsAV rows, AV.i per, AV.i tot, AV.i wth, AV.i balls, stopsAV l, .own 3 7 0 (m.length + 1)], some [rowsAV rows, AV.i per, AV.i tot, AV.i wth, AV.i balls, stopsAV l, stopsAV m], none, none, some (stC s), some (flatS (m ++ [s])), some []]) (by exact bs25e _ _ _) ?_
      refine R_append (r := .own 3 9 0 l.length) (H' := [some [rowsAV rows, AV.i per, AV.i tot, AV.i wth, AV.i balls, stopsAV l, stopsAV m], some (stC s), some [rowsAV rows, AV.i per, AV.i tot, AV.i wth, AV.i balls, stopsAV l, .own 3 7 0 (m.length + 1)], some [rowsAV rows, AV.i per, AV.i tot, AV.i wth, AV.i balls, stopsAV l, stopsAV m], none, none, some (stC s), some (flatS (m ++ [s])), none, some (flatS l)]) (by simp (disch := first | omega | (simp only [List.length_map, List.length_append, List.length_set, List.length_cons, List.length_nil, List.length_take, List.length_drop]; omega)) only [go_sem, ↓reduceIte, Nat.reduceEqDiff, reduceCtorEq]; exact app25e (l := l) (b := 8) rfl (by simp) (by omega)) ?_
      refine R_buildSlice (r := .own 3 10 0 1) (H' := [some [rowsAV rows, AV.i per, AV.i tot, AV.i wth, AV.i balls, stopsAV l, stopsAV m], some (stC s), some [rowsAV rows, AV.i per, AV.i tot, AV.i wth, AV.i balls, stopsAV l, .own 3 7 0 (m.length + 1)], some [rowsAV rows, AV.i per, AV.i tot, AV.i wth, AV.i balls, stopsAV l, stopsAV m], none, none, some (stC s), some (flatS (m ++ [s])), none, some (flatS l), some (stC s)]) (by exact bs25 _ _ _ _ s (by simp (disch := first | omega | (simp only [List.length_map, List.length_append, List.length_set, List.length_cons, List.length_nil, List.length_take, List.length_drop]; omega)) only [go_sem, ↓reduceIte, Nat.reduceEqDiff, reduceCtorEq] <;> rfl)) ?_
      refine R_end ⟨?_, ?_⟩
      · skip
        refine ⟨?_, ?_⟩
        · skip
          refine R_buildSlice (r := .own 3 8 0 0) (H' := [some [rowsAV rows, AV.i per, AV.i tot, AV.i wth, AV.i balls, stopsAV l, stopsAV m], some (stC s), some [rowsAV rows, AV.i per, AV.i tot, AV.i wth, AV.i balls, stopsAV l, .own 3 7 0 (m.length + 1)], some [rowsAV rows, AV.i per, AV.i tot, AV.i wth, AV.i balls, stopsAV l, stopsAV m], none, none, some (stC s), some (flatS (m ++ [s])), some []]) (by exact bs25e _ _ _) ?_
          refine R_buildSlice (r := .own 3 9 0 1) (H' := [some [rowsAV rows, AV.i per, AV.i tot, AV.i wth, AV.i balls, stopsAV l, stopsAV m], some (stC s), some [rowsAV rows, AV.i per, AV.i tot, AV.i wth, AV.i balls, stopsAV l, .own 3 7 0 (m.length + 1)], some [rowsAV rows, AV.i per, AV.i tot, AV.i wth, AV.i balls, stopsAV l, stopsAV m], none, none, some (stC s), some (flatS (m ++ [s])), some [], some (stC s)]) (by exact bs25 _ _ _ _ s (by simp (disch := first | omega | (simp only [List.length_map, List.length_append, List.length_set, List.length_cons, List.length_nil, List.length_take, List.length_drop]; omega)) only [go_sem, ↓reduceIte, Nat.reduceEqDiff, reduceCtorEq] <;> rfl)) ?_
          refine R_append (r := .own 3 10 0 l.length) (H' := [some [rowsAV rows, AV.i per, AV.i tot, AV.i wth, AV.i balls, stopsAV l, stopsAV m], some (stC s), some [rowsAV rows, AV.i per, AV.i tot, AV.i wth, AV.i balls, stopsAV l, .own 3 7 0 (m.length + 1)], some [rowsAV rows, AV.i per, AV.i tot, AV.i wth, AV.i balls, stopsAV l, stopsAV m], none, none, some (stC s), some (flatS (m ++ [s])), none, some (stC s), some (flatS l)]) (by simp (disch := first | omega | (simp only [List.length_map, List.length_append, List.length_set, List.length_cons, List.length_nil, List.length_take, List.length_drop]; omega)) only [go_sem, ↓reduceIte, Nat.reduceEqDiff, reduceCtorEq]; exact app25e (l := l) (b := 8) rfl (by simp) (by omega)) ?_
          refine R_end ?_
          refine ⟨[0, 2, 1], by simp, by simp, by simp, by decide, by decide, by decide, ?_, ?_⟩
          · intro t ht
            simp only [List.mem_cons, List.not_mem_nil, or_false] at ht
            rcases ht with rfl | rfl <;> simp only [get_cons, put_some, put_none, ↓reduceIte, Nat.reduceEqDiff] <;> first | rfl | exact congrArg AV.agg (ren_ch7 _ _ _ _ _ _ _ _)
          · intro k hk
            simp only [List.mem_cons, List.not_mem_nil, or_false] at hk
            rcases hk with rfl | rfl | rfl <;> first | rfl | exact congrArg some (ren_flat _ _).symm | exact congrArg some (ren_ch _ _ _ _ _ _ _ _).symm
        refine ⟨?_, ?_⟩
        · skip
          refine R_buildSlice (r := .own 3 8 0 1) (H' := [some [rowsAV rows, AV.i per, AV.i tot, AV.i wth, AV.i balls, stopsAV l, stopsAV m], some (stC s), some [rowsAV rows, AV.i per, AV.i tot, AV.i wth, AV.i balls, stopsAV l, .own 3 7 0 (m.length + 1)], some [rowsAV rows, AV.i per, AV.i tot, AV.i wth, AV.i balls, stopsAV l, stopsAV m], none, none, some (stC s), some (flatS (m ++ [s])), some (stC s)]) (by exact bs25 _ _ _ _ s (by simp (disch := first | omega | (simp only [List.length_map, List.length_append, List.length_set, List.length_cons, List.length_nil, List.length_take, List.length_drop]; omega)) only [go_sem, ↓reduceIte, Nat.reduceEqDiff, reduceCtorEq] <;> rfl)) ?_
          refine R_buildSlice (r := .own 3 9 0 0) (H' := [some [rowsAV rows, AV.i per, AV.i tot, AV.i wth, AV.i balls, stopsAV l, stopsAV m], some (stC s), some [rowsAV rows, AV.i per, AV.i tot, AV.i wth, AV.i balls, stopsAV l, .own 3 7 0 (m.length + 1)], some [rowsAV rows, AV.i per, AV.i tot, AV.i wth, AV.i balls, stopsAV l, stopsAV m], none, none, some (stC s), some (flatS (m ++ [s])), some (stC s), some []]) (by exact bs25e _ _ _) ?_
          refine R_append (r := .own 3 10 0 l.length) (H' := [some [rowsAV rows, AV.i per, AV.i tot, AV.i wth, AV.i balls, stopsAV l, stopsAV m], some (stC s), some [rowsAV rows, AV.i per, AV.i tot, AV.i wth, AV.i balls, stopsAV l, .own 3 7 0 (m.length + 1)], some [rowsAV rows, AV.i per, AV.i tot, AV.i wth, AV.i balls, stopsAV l, stopsAV m], none, none, some (stC s), some (flatS (m ++ [s])), some (stC s), none, some (flatS l)]) (by simp (disch := first | omega | (simp only [List.length_map, List.length_append, List.length_set, List.length_cons, List.length_nil, List.length_take, List.length_drop]; omega)) only [go_sem, ↓reduceIte, Nat.reduceEqDiff, reduceCtorEq]; exact app25e (l := l) (b := 9) rfl (by simp) (by omega)) ?_
          refine R_end ?_
          refine ⟨[1, 2, 0], by simp, by simp, by simp, by decide, by decide, by decide, ?_, ?_⟩
          · intro t ht
            simp only [List.mem_cons, List.not_mem_nil, or_false] at ht
            rcases ht with rfl | rfl <;> simp only [get_cons, put_some, put_none, ↓reduceIte, Nat.reduceEqDiff] <;> first | rfl | exact congrArg AV.agg (ren_ch7 _ _ _ _ _ _ _ _)
          · intro k hk
            simp only [List.mem_cons, List.not_mem_nil, or_false] at hk
            rcases hk with rfl | rfl | rfl <;> first | rfl | exact congrArg some (ren_flat _ _).symm | exact congrArg some (ren_ch _ _ _ _ _ _ _ _).symm
        exact trivial
      rewrite [keep_all (by intro i hi; simp only [List.length_append, List.length_cons, List.length_nil] at hi ⊢; simp only [List.mem_cons, List.not_mem_nil, or_false]; omega)]
      refine Rp_env (e' := [(41, _), (43, _), (38, .any), (39, .any), (40, .any), (41, .any), (42, .any), (43, .any), (44, .any), (45, .any), (0, _), (1, _), (2, _), (3, _), (4, _), (5, _), (6, _), (7, _), (8, _), (9, _), (10, _), (11, _), (12, _), (14, _), (17, _), (25, _)]) rfl ?_
      simp only [put_some, get_cons, ↓reduceIte, Nat.reduceEqDiff]
      refine R_append (r := .own 3 11 0 (l.length + 1)) (H' := [some [rowsAV rows, AV.i per, AV.i tot, AV.i wth, AV.i balls, stopsAV l, stopsAV m], some (stC s), some [rowsAV rows, AV.i per, AV.i tot, AV.i wth, AV.i balls, stopsAV l, .own 3 7 0 (m.length + 1)], some [rowsAV rows, AV.i per, AV.i tot, AV.i wth, AV.i balls, stopsAV l, stopsAV m], none, none, some (stC s), some (flatS (m ++ [s])), none, none, some (stC s), some (flatS (l ++ [s]))]) (by simp (disch := first | omega | (simp only [List.length_map, List.length_append, List.length_set, List.length_cons, List.length_nil, List.length_take, List.length_drop]; omega)) only [go_sem, ↓reduceIte, Nat.reduceEqDiff, reduceCtorEq]; exact app25s (l := l) (s := s) (b := 9) (c := 10) rfl rfl (by simp) (by omega)) ?_
      refine Rq ?_
      refine R_store (b := 3) (o := 5) (H' := [some [rowsAV rows, AV.i per, AV.i tot, AV.i wth, AV.i balls, stopsAV l, stopsAV m], some (stC s), some [rowsAV rows, AV.i per, AV.i tot, AV.i wth, AV.i balls, stopsAV l, .own 3 7 0 (m.length + 1)], some [rowsAV rows, AV.i per, AV.i tot, AV.i wth, AV.i balls, .own 3 11 0 (l.length + 1), stopsAV m], none, none, some (stC s), some (flatS (m ++ [s])), none, none, some (stC s), some (flatS (l ++ [s]))]) ty25 (by simp (disch := first | omega | (simp only [List.length_map, List.length_append, List.length_set, List.length_cons, List.length_nil, List.length_take, List.length_drop]; omega)) only [go_sem, ↓reduceIte, Nat.reduceEqDiff, reduceCtorEq] <;> rfl) (by simp (disch := first | omega | (simp only [List.length_map, List.length_append, List.length_set, List.length_cons, List.length_nil, List.length_take, List.length_drop]; omega)) only [go_sem, ↓reduceIte, Nat.reduceEqDiff, reduceCtorEq] <;> rfl) rfl ⟨by simp, rfl, by first | exact Nat.le_refl _ | (show _ ≤ 7; decide)⟩ rfl rfl ?_
      have tr : ∀ y0 y1 y2 y3 y4 y5 y6 y7 y8 y9 y10 y11 y12 y14 y17 y25 z0 z1 z2 z3 z4 z5 z6 z7 z8 z9 z10 z11 : AV, trim [(45, z11), (44, z10), (41, z9), (43, z8), (38, z7), (39, z6), (40, z5), (41, z4), (42, z3), (43, z2), (44, z1), (45, z0), (0, y0), (1, y1), (2, y2), (3, y3), (4, y4), (5, y5), (6, y6), (7, y7), (8, y8), (9, y9), (10, y10), (11, y11), (12, y12), (14, y14), (17, y17), (25, y25)] [(0, y0), (1, y1), (2, y2), (3, y3), (4, y4), (5, y5), (6, y6), (7, y7), (8, y8), (9, y9), (10, y10), (11, y11), (12, y12), (14, y14), (17, y17), (25, y25)] = [(0, y0), (1, y1), (2, y2), (3, y3), (4, y4), (5, y5), (6, y6), (7, y7), (8, y8), (9, y9), (10, y10), (11, y11), (12, y12), (14, y14), (17, y17), (25, y25)] := fun y0 y1 y2 y3 y4 y5 y6 y7 y8 y9 y10 y11 y12 y14 y17 y25 z0 z1 z2 z3 z4 z5 z6 z7 z8 z9 z10 z11 => rfl
      refine R_nil (tr _ _ _ _ _ _ _ _ _ _ _ _ _ _ _ _ _ _ _ _ _ _ _ _ _ _ _ _) ?_; clear tr
      refine then_n ?_
      refine at_seq rfl ?_
      refine rg rfl ?_
      refine Rq ?_
      refine Rcall ?_
      refine ACall_eq (of_gen _ _ rows per tot wth balls (stopsAV l) (.own 3 7 0 (m.length + 1)) rfl rfl rfl rfl (fun _ => by first | exact frz_stops _ _ _ _ | rfl) (fun _ => by first | exact frz_stops _ _ _ _ | rfl)) ?_
      refine Rcall ?_
      refine ACall_eq (target_fz _ _ rows per tot wth balls l (m ++ [s]) (stopsAV l) (.own 3 7 0 (m.length + 1)) (by first | exact frz_stops _ _ _ _ | exact frz_own3 rfl (by simp)) (by first | exact frz_stops _ _ _ _ | exact frz_own3 rfl (by simp))) ?_
      refine Rq ?_
      refine Rq ?_
      refine Rq ?_
      refine Rq ?_
      refine Rq ?_
      have tr : ∀ y0 y1 y2 y3 y4 y5 y6 y7 y8 y9 y10 y11 y12 y14 y17 y25 z0 z1 z2 z3 z4 z5 z6 z7 : AV, trim [(10, z7), (9, z6), (51, z5), (50, z4), (46, z3), (49, z2), (48, z1), (47, z0), (0, y0), (1, y1), (2, y2), (3, y3), (4, y4), (5, y5), (6, y6), (7, y7), (8, y8), (9, y9), (10, y10), (11, y11), (12, y12), (14, y14), (17, y17), (25, y25)] [(0, y0), (1, y1), (2, y2), (3, y3), (4, y4), (5, y5), (6, y6), (7, y7), (8, y8), (9, y9), (10, y10), (11, y11), (12, y12), (14, y14), (17, y17), (25, y25)] = [(0, y0), (1, y1), (2, y2), (3, y3), (4, y4), (5, y5), (6, y6), (7, y7), (8, y8), (9, z6), (10, z7), (11, y11), (12, y12), (14, y14), (17, y17), (25, y25)] := fun y0 y1 y2 y3 y4 y5 y6 y7 y8 y9 y10 y11 y12 y14 y17 y25 z0 z1 z2 z3 z4 z5 z6 z7 => rfl
      refine R_nil (tr _ _ _ _ _ _ _ _ _ _ _ _ _ _ _ _ _ _ _ _ _ _ _ _) ?_; clear tr
      refine then_n ?_
      refine at_seq rfl ?_
      refine rg rfl ?_
      refine Rq ?_
      refine Rcall ?_
      refine ACall_eq (of_gen _ _ rows per tot wth balls (.own 3 11 0 (l.length + 1)) (stopsAV m) rfl rfl rfl rfl (fun _ => by first | exact frz_stops _ _ _ _ | rfl) (fun _ => by first | exact frz_stops _ _ _ _ | rfl)) ?_
      refine Rcall ?_
      refine ACall_eq (target_fz _ _ rows per tot wth balls (l ++ [s]) m (.own 3 11 0 (l.length + 1)) (stopsAV m) (by first | exact frz_stops _ _ _ _ | exact frz_own3 rfl (by simp)) (by first | exact frz_stops _ _ _ _ | exact frz_own3 rfl (by simp))) ?_
      refine Rq ?_
      refine Rq ?_
      refine Rq ?_
      refine Rq ?_
      refine Rq ?_
      have tr : ∀ y0 y1 y2 y3 y4 y5 y6 y7 y8 y9 y10 y11 y12 y14 y17 y25 z0 z1 z2 z3 z4 z5 z6 z7 : AV, trim [(12, z7), (11, z6), (57, z5), (56, z4), (52, z3), (55, z2), (54, z1), (53, z0), (0, y0), (1, y1), (2, y2), (3, y3), (4, y4), (5, y5), (6, y6), (7, y7), (8, y8), (9, y9), (10, y10), (11, y11), (12, y12), (14, y14), (17, y17), (25, y25)] [(0, y0), (1, y1), (2, y2), (3, y3), (4, y4), (5, y5), (6, y6), (7, y7), (8, y8), (9, y9), (10, y10), (11, y11), (12, y12), (14, y14), (17, y17), (25, y25)] = [(0, y0), (1, y1), (2, y2), (3, y3), (4, y4), (5, y5), (6, y6), (7, y7), (8, y8), (9, y9), (10, y10), (11, z6), (12, z7), (14, y14), (17, y17), (25, y25)] := fun y0 y1 y2 y3 y4 y5 y6 y7 y8 y9 y10 y11 y12 y14 y17 y25 z0 z1 z2 z3 z4 z5 z6 z7 => rfl
      refine R_nil (tr _ _ _ _ _ _ _ _ _ _ _ _ _ _ _ _ _ _ _ _ _ _ _ _) ?_; clear tr
      refine then_n ?_
      refine at_seq rfl ?_
      refine rg rfl ?_
      have ht0 : (tgtS rows per tot wth balls l m).2 = 0 := by assumption
      have t1 := tgt_second (s := s) ht0
      have t2 := tgt_first (s := s) ht0
      refine Rq ?_
      refine Rq ?_
      refine Rq ?_
      refine Rp_split (fun h3 => ?_) (fun h3 => ?_)
      · try simp only [decide_eq_true_eq, decide_eq_false_iff_not, Bool.not_eq_true', Bool.not_eq_false', beq_iff_eq, beq_eq_false_iff_ne, ne_eq] at h3
        refine Rn ?_
        refine Rn ?_
        refine Rn ?_
        refine Rq ?_
        refine Rq ?_
        refine Ry ?_
        refine Rq ?_
        refine Ry ?_
        refine Rq ?_
        refine Ry ?_
        refine Rq ?_
        refine Rp_split (fun h4 => ?_) (fun h4 => ?_)
        · try simp only [decide_eq_true_eq, decide_eq_false_iff_not, Bool.not_eq_true', Bool.not_eq_false', beq_iff_eq, beq_eq_false_iff_ne, ne_eq] at h4
          refine Rn ?_
          refine Rn ?_
          refine Rn ?_
          refine Ry ?_
          refine Rq ?_
          refine Rq ?_
          refine Rq ?_
          have tr : ∀ y0 y1 y2 y3 y4 y5 y6 y7 y8 y9 y10 y11 y12 y14 y17 y25 z0 z1 z2 z3 z4 z5 z6 z7 z8 z9 z10 z11 z12 z13 z14 z15 z16 : AV, trim [(4, z16), (73, z15), (72, z14), (71, z13), (70, z12), (69, z11), (68, z10), (67, z9), (66, z8), (65, z7), (64, z6), (63, z5), (62, z4), (61, z3), (60, z2), (59, z1), (58, z0), (0, y0), (1, y1), (2, y2), (3, y3), (4, y4), (5, y5), (6, y6), (7, y7), (8, y8), (9, y9), (10, y10), (11, y11), (12, y12), (14, y14), (17, y17), (25, y25)] [(0, y0), (1, y1), (2, y2), (3, y3), (4, y4), (5, y5), (6, y6), (7, y7), (8, y8), (9, y9), (10, y10), (11, y11), (12, y12), (14, y14), (17, y17), (25, y25)] = [(0, y0), (1, y1), (2, y2), (3, y3), (4, z16), (5, y5), (6, y6), (7, y7), (8, y8), (9, y9), (10, y10), (11, y11), (12, y12), (14, y14), (17, y17), (25, y25)] := fun y0 y1 y2 y3 y4 y5 y6 y7 y8 y9 y10 y11 y12 y14 y17 y25 z0 z1 z2 z3 z4 z5 z6 z7 z8 z9 z10 z11 z12 z13 z14 z15 z16 => rfl
          refine R_nil (tr _ _ _ _ _ _ _ _ _ _ _ _ _ _ _ _ _ _ _ _ _ _ _ _ _ _ _ _ _ _ _ _ _) ?_; clear tr
          refine then_n ?_
          refine at_ret rfl ?_
          refine fpure ?_
          first | rfl | rw [decide_eq_true (t2 (by assumption))] | (rw [tgt_err (by assumption)]; rfl) | simp
        · try simp only [decide_eq_true_eq, decide_eq_false_iff_not, Bool.not_eq_true', Bool.not_eq_false', beq_iff_eq, beq_eq_false_iff_ne, ne_eq] at h4
          refine Ry ?_
          refine Rq ?_
          refine Ry ?_
          refine Rq ?_
          refine Ry ?_
          refine Rq ?_
          refine Ry ?_
          refine Rq ?_
          refine Rq ?_
          refine Rq ?_
          have tr : ∀ y0 y1 y2 y3 y4 y5 y6 y7 y8 y9 y10 y11 y12 y14 y17 y25 z0 z1 z2 z3 z4 z5 z6 z7 z8 z9 z10 z11 z12 z13 z14 z15 z16 : AV, trim [(4, z16), (73, z15), (72, z14), (71, z13), (70, z12), (69, z11), (68, z10), (67, z9), (66, z8), (65, z7), (64, z6), (63, z5), (62, z4), (61, z3), (60, z2), (59, z1), (58, z0), (0, y0), (1, y1), (2, y2), (3, y3), (4, y4), (5, y5), (6, y6), (7, y7), (8, y8), (9, y9), (10, y10), (11, y11), (12, y12), (14, y14), (17, y17), (25, y25)] [(0, y0), (1, y1), (2, y2), (3, y3), (4, y4), (5, y5), (6, y6), (7, y7), (8, y8), (9, y9), (10, y10), (11, y11), (12, y12), (14, y14), (17, y17), (25, y25)] = [(0, y0), (1, y1), (2, y2), (3, y3), (4, z16), (5, y5), (6, y6), (7, y7), (8, y8), (9, y9), (10, y10), (11, y11), (12, y12), (14, y14), (17, y17), (25, y25)] := fun y0 y1 y2 y3 y4 y5 y6 y7 y8 y9 y10 y11 y12 y14 y17 y25 z0 z1 z2 z3 z4 z5 z6 z7 z8 z9 z10 z11 z12 z13 z14 z15 z16 => rfl
          refine R_nil (tr _ _ _ _ _ _ _ _ _ _ _ _ _ _ _ _ _ _ _ _ _ _ _ _ _ _ _ _ _ _ _ _ _) ?_; clear tr
          refine then_n ?_
          refine at_ret rfl ?_
          refine fpure ?_
          first | rfl | rw [decide_eq_true (t2 (by assumption))] | (rw [tgt_err (by assumption)]; rfl) | simp
      · try simp only [decide_eq_true_eq, decide_eq_false_iff_not, Bool.not_eq_true', Bool.not_eq_false', beq_iff_eq, beq_eq_false_iff_ne, ne_eq] at h3
        refine Ry ?_
        refine Rq ?_
        refine Ry ?_
        refine Rq ?_
        refine Ry ?_
        refine Rq ?_
        refine Rq ?_
        refine Rq ?_
        refine Rp_split (fun h5 => ?_) (fun h5 => ?_)
        · try simp only [decide_eq_true_eq, decide_eq_false_iff_not, Bool.not_eq_true', Bool.not_eq_false', beq_iff_eq, beq_eq_false_iff_ne, ne_eq] at h5
          refine Ry ?_
          refine Rq ?_
          refine Ry ?_
          refine Rq ?_
          refine Ry ?_
          refine Rq ?_
          refine Rp_split (fun h6 => ?_) (fun h6 => ?_)
          · try simp only [decide_eq_true_eq, decide_eq_false_iff_not, Bool.not_eq_true', Bool.not_eq_false', beq_iff_eq, beq_eq_false_iff_ne, ne_eq] at h6
            refine Rn ?_
            refine Rn ?_
            refine Rn ?_
            refine Ry ?_
            refine Rq ?_
            refine Rq ?_
            refine Rq ?_
            have tr : ∀ y0 y1 y2 y3 y4 y5 y6 y7 y8 y9 y10 y11 y12 y14 y17 y25 z0 z1 z2 z3 z4 z5 z6 z7 z8 z9 z10 z11 z12 z13 z14 z15 z16 : AV, trim [(4, z16), (73, z15), (72, z14), (71, z13), (70, z12), (69, z11), (68, z10), (67, z9), (66, z8), (65, z7), (64, z6), (63, z5), (62, z4), (61, z3), (60, z2), (59, z1), (58, z0), (0, y0), (1, y1), (2, y2), (3, y3), (4, y4), (5, y5), (6, y6), (7, y7), (8, y8), (9, y9), (10, y10), (11, y11), (12, y12), (14, y14), (17, y17), (25, y25)] [(0, y0), (1, y1), (2, y2), (3, y3), (4, y4), (5, y5), (6, y6), (7, y7), (8, y8), (9, y9), (10, y10), (11, y11), (12, y12), (14, y14), (17, y17), (25, y25)] = [(0, y0), (1, y1), (2, y2), (3, y3), (4, z16), (5, y5), (6, y6), (7, y7), (8, y8), (9, y9), (10, y10), (11, y11), (12, y12), (14, y14), (17, y17), (25, y25)] := fun y0 y1 y2 y3 y4 y5 y6 y7 y8 y9 y10 y11 y12 y14 y17 y25 z0 z1 z2 z3 z4 z5 z6 z7 z8 z9 z10 z11 z12 z13 z14 z15 z16 => rfl
            refine R_nil (tr _ _ _ _ _ _ _ _ _ _ _ _ _ _ _ _ _ _ _ _ _ _ _ _ _ _ _ _ _ _ _ _ _) ?_; clear tr
            refine then_n ?_
            refine at_ret rfl ?_
            refine fpure ?_
            first | rfl | rw [decide_eq_true (t2 (by assumption))] | (rw [tgt_err (by assumption)]; rfl) | simp
          · try simp only [decide_eq_true_eq, decide_eq_false_iff_not, Bool.not_eq_true', Bool.not_eq_false', beq_iff_eq, beq_eq_false_iff_ne, ne_eq] at h6
            refine Ry ?_
            refine Rq ?_
            refine Ry ?_
            refine Rq ?_
            refine Ry ?_
            refine Rq ?_
            refine Ry ?_
            refine Rq ?_
            refine Rq ?_
            refine Rq ?_
            have tr : ∀ y0 y1 y2 y3 y4 y5 y6 y7 y8 y9 y10 y11 y12 y14 y17 y25 z0 z1 z2 z3 z4 z5 z6 z7 z8 z9 z10 z11 z12 z13 z14 z15 z16 : AV, trim [(4, z16), (73, z15), (72, z14), (71, z13), (70, z12), (69, z11), (68, z10), (67, z9), (66, z8), (65, z7), (64, z6), (63, z5), (62, z4), (61, z3), (60, z2), (59, z1), (58, z0), (0, y0), (1, y1), (2, y2), (3, y3), (4, y4), (5, y5), (6, y6), (7, y7), (8, y8), (9, y9), (10, y10), (11, y11), (12, y12), (14, y14), (17, y17), (25, y25)] [(0, y0), (1, y1), (2, y2), (3, y3), (4, y4), (5, y5), (6, y6), (7, y7), (8, y8), (9, y9), (10, y10), (11, y11), (12, y12), (14, y14), (17, y17), (25, y25)] = [(0, y0), (1, y1), (2, y2), (3, y3), (4, z16), (5, y5), (6, y6), (7, y7), (8, y8), (9, y9), (10, y10), (11, y11), (12, y12), (14, y14), (17, y17), (25, y25)] := fun y0 y1 y2 y3 y4 y5 y6 y7 y8 y9 y10 y11 y12 y14 y17 y25 z0 z1 z2 z3 z4 z5 z6 z7 z8 z9 z10 z11 z12 z13 z14 z15 z16 => rfl
            refine R_nil (tr _ _ _ _ _ _ _ _ _ _ _ _ _ _ _ _ _ _ _ _ _ _ _ _ _ _ _ _ _ _ _ _ _) ?_; clear tr
            refine then_n ?_
            refine at_ret rfl ?_
            refine fpure ?_
            first | rfl | rw [decide_eq_true (t2 (by assumption))] | (rw [tgt_err (by assumption)]; rfl) | simp
        · try simp only [decide_eq_true_eq, decide_eq_false_iff_not, Bool.not_eq_true', Bool.not_eq_false', beq_iff_eq, beq_eq_false_iff_ne, ne_eq] at h5
          exact absurd (t1 (by assumption)) (by omega)

end Go.Proofs.Ytaoondlakhocnaa
