/-
  Walks of chapters 52 and 53. The steps are written by program (walk.py).
-/
import Derived.Test.YtdicnojnkbmdlaaQD
set_option linter.unusedSimpArgs false
set_option linter.unusedVariables false
set_option maxHeartbeats 40000000
set_option maxRecDepth 4000
namespace Go.Proofs.Ytdicnojnkbmdlaa
open Go Go.Am

theorem augment_ok (lim : Nat) (H : Heap) (n s t : Int) (E : List Ed) (f : List Int) (way : List Int) (bf N : Nat) (hN : N = f.length) (hlim : lim ≤ bf) (qf : hget H bf = some (f.map AV.i)) (g : GOK n s t E) (hl : f.length = E.length) (hrr : fRng E f) (hwl : way.length = n.toNat) (m : Nat) (T : TreeN n s E f way m t) (WO : WayOK E f (wayN E way m t)) :
    ACall sig lim 47 [.agg (graphC n s t E), .own 1 bf 0 N, intsAV way] H fun r H' => H.length ≤ H'.length ∧ hget H' bf = some ((applyW (leastW E f 1073741824 (wayN E way m t)) f (wayN E way m t)).map AV.i) ∧ ∀ b, b < H.length → b ≠ bf → hget H' b = hget H b := by
  subst hN
  have lf := hget_lt qf
  obtain ⟨g1, g2, g3, g4, g5, g6, g7, g8, ge⟩ := id g
  have q0 : True := trivial
  have hc : True := trivial
  refine ACall_own (fa := fa47) rfl rfl rfl rfl ?_
  have tr : ∀ a0 a1 a2 : AV, env0 fa47.keep [a0, a1, a2] = [(0, a0), (1, a1), (2, a2), (3, .any), (6, .any), (7, .any), (8, .any), (9, .any), (10, .any), (16, .any), (22, .any), (66, .any), (72, .any)] := fun a0 a1 a2 => rfl
  refine W_to (tr _ _ _) ?_; clear tr
  refine at_seq rfl ?_
  refine rg rfl ?_
  refine A_box rfl (by simp (disch := first | omega | (simp only [List.length_map, List.length_append, List.length_set, List.length_cons, List.length_nil, List.length_take, List.length_drop]; omega)) only [go_sem, ↓reduceIte, Nat.reduceEqDiff, reduceCtorEq]; rfl) ?_
  intro H1 n0
  have en0 := n0.len
  have qf := (n0.old _ (hget_lt qf)).trans qf
  have q0 := n0.new
  have tr : ∀ y0 y1 y2 y3 y6 y7 y8 y9 y10 y16 y22 y66 y72 z0 : AV, trim [(3, z0), (0, y0), (1, y1), (2, y2), (3, y3), (6, y6), (7, y7), (8, y8), (9, y9), (10, y10), (16, y16), (22, y22), (66, y66), (72, y72)] [(0, y0), (1, y1), (2, y2), (3, y3), (6, y6), (7, y7), (8, y8), (9, y9), (10, y10), (16, y16), (22, y22), (66, y66), (72, y72)] = [(0, y0), (1, y1), (2, y2), (3, z0), (6, y6), (7, y7), (8, y8), (9, y9), (10, y10), (16, y16), (22, y22), (66, y66), (72, y72)] := fun y0 y1 y2 y3 y6 y7 y8 y9 y10 y16 y22 y66 y72 z0 => rfl
  refine R_nil (tr _ _ _ _ _ _ _ _ _ _ _ _ _ _) ?_; clear tr
  refine then_n ?_
  refine at_seq rfl ?_
  refine rg rfl ?_
  refine Rq ?_
  have tr : ∀ y0 y1 y2 y3 y6 y7 y8 y9 y10 y16 y22 y66 y72 z0 : AV, trim [(6, z0), (0, y0), (1, y1), (2, y2), (3, y3), (6, y6), (7, y7), (8, y8), (9, y9), (10, y10), (16, y16), (22, y22), (66, y66), (72, y72)] [(0, y0), (1, y1), (2, y2), (3, y3), (6, y6), (7, y7), (8, y8), (9, y9), (10, y10), (16, y16), (22, y22), (66, y66), (72, y72)] = [(0, y0), (1, y1), (2, y2), (3, y3), (6, z0), (7, y7), (8, y8), (9, y9), (10, y10), (16, y16), (22, y22), (66, y66), (72, y72)] := fun y0 y1 y2 y3 y6 y7 y8 y9 y10 y16 y22 y66 y72 z0 => rfl
  refine R_nil (tr _ _ _ _ _ _ _ _ _ _ _ _ _ _) ?_; clear tr
  refine then_n ?_
  refine at_seq rfl ?_
  refine at_seq rfl ?_
  refine rg rfl ?_
  refine Rq ?_
  refine R_q rfl (by simp (disch := first | omega | (simp only [List.length_map, List.length_append, List.length_set, List.length_cons, List.length_nil, List.length_take, List.length_drop]; omega)) only [go_sem, ↓reduceIte, Nat.reduceEqDiff, reduceCtorEq, q0, qf, hc]; rfl) ?_
  refine Rq ?_
  have tr : ∀ y0 y1 y2 y3 y6 y7 y8 y9 y10 y16 y22 y66 y72 z0 z1 z2 : AV, trim [(7, z2), (12, z1), (11, z0), (0, y0), (1, y1), (2, y2), (3, y3), (6, y6), (7, y7), (8, y8), (9, y9), (10, y10), (16, y16), (22, y22), (66, y66), (72, y72)] [(0, y0), (1, y1), (2, y2), (3, y3), (6, y6), (7, y7), (8, y8), (9, y9), (10, y10), (16, y16), (22, y22), (66, y66), (72, y72)] = [(0, y0), (1, y1), (2, y2), (3, y3), (6, y6), (7, z2), (8, y8), (9, y9), (10, y10), (16, y16), (22, y22), (66, y66), (72, y72)] := fun y0 y1 y2 y3 y6 y7 y8 y9 y10 y16 y22 y66 y72 z0 z1 z2 => rfl
  refine R_nil (tr _ _ _ _ _ _ _ _ _ _ _ _ _ _ _ _) ?_; clear tr
  refine then_n ?_
  refine at_block rfl ?_
  refine loop_n rfl (fun mm kv H' => ∃ k : Nat, ∃ v : Int, ∃ la : Int, ∃ w : List Int, ∃ x8 x16 x22 : AV, (kv = [(6, AV.i la), (7, AV.i v), (8, x8), (16, x16), (22, x22)]) ∧ (mm = k) ∧ (H1 = H') ∧ (TreeN n s E f way k v) ∧ (w ++ wayN E way k v = wayN E way m t) ∧ (la = leastW E f 1073741824 w) ∧ (0 < la) ∧ (la ≤ 1073741824)) ⟨m, t, 1073741824, [], _, _, _, rfl, rfl, by rfl, by exact T, by rfl, by rfl, by omega, by omega⟩ (by rfl) ?_
  rintro mm kv HX ⟨k, v, la, w, x8, x16, x22, rfl, rfl, hX, T1, hW, hla, hl0, hl1⟩
  have tr : ∀ y0 y1 y2 y3 y6 y7 y8 y9 y10 y16 y22 y66 y72 z6 z7 z8 z16 z22 : AV, upd [(0, y0), (1, y1), (2, y2), (3, y3), (6, y6), (7, y7), (8, y8), (9, y9), (10, y10), (16, y16), (22, y22), (66, y66), (72, y72)] [(6, z6), (7, z7), (8, z8), (16, z16), (22, z22)] = [(0, y0), (1, y1), (2, y2), (3, y3), (6, z6), (7, z7), (8, z8), (9, y9), (10, y10), (16, z16), (22, z22), (66, y66), (72, y72)] := fun y0 y1 y2 y3 y6 y7 y8 y9 y10 y16 y22 y66 y72 z6 z7 z8 z16 z22 => rfl
  refine W_to (tr _ _ _ _ _ _ _ _ _ _ _ _ _ _ _ _ _ _) ?_; clear tr
  subst hX
  refine at_seq rfl ?_
  refine at_seq rfl ?_
  refine rg rfl ?_
  refine Rq ?_
  refine Rq ?_
  refine R_q rfl (by simp (disch := first | omega | (simp only [List.length_map, List.length_append, List.length_set, List.length_cons, List.length_nil, List.length_take, List.length_drop]; omega)) only [go_sem, ↓reduceIte, Nat.reduceEqDiff, reduceCtorEq, q0, qf, hc]; rfl) ?_
  refine Rq ?_
  have tr : ∀ y0 y1 y2 y3 y6 y7 y8 y9 y10 y16 y22 y66 y72 z0 z1 z2 z3 : AV, trim [(16, z3), (15, z2), (14, z1), (13, z0), (0, y0), (1, y1), (2, y2), (3, y3), (6, y6), (7, y7), (8, y8), (9, y9), (10, y10), (16, y16), (22, y22), (66, y66), (72, y72)] [(0, y0), (1, y1), (2, y2), (3, y3), (6, y6), (7, y7), (8, y8), (9, y9), (10, y10), (16, y16), (22, y22), (66, y66), (72, y72)] = [(0, y0), (1, y1), (2, y2), (3, y3), (6, y6), (7, y7), (8, y8), (9, y9), (10, y10), (16, z3), (22, y22), (66, y66), (72, y72)] := fun y0 y1 y2 y3 y6 y7 y8 y9 y10 y16 y22 y66 y72 z0 z1 z2 z3 => rfl
  refine R_nil (tr _ _ _ _ _ _ _ _ _ _ _ _ _ _ _ _ _) ?_; clear tr
  refine then_n ?_
  refine cdd (fun h1 => ?_) (fun h1 => ?_)
  · try simp only [decide_eq_true_eq, decide_eq_false_iff_not, Bool.not_eq_true', Bool.not_eq_false', beq_iff_eq, beq_eq_false_iff_ne, ne_eq] at h1
    refine at_skip rfl ?_
    refine then_n ?_
    refine at_block rfl ?_
    refine at_seq rfl ?_
    refine rg rfl ?_
    obtain ⟨k', c, rfl, hc, hv0, hv1, A, T2, hwn⟩ := tree_step T1 (by omega)
    rw [hwn] at hW
    have hnz := A.nz
    have hrp := A.room
    refine Rq ?_
    refine Rq ?_
    refine Rq ?_
    refine R_q rfl (by simp (disch := first | omega | (simp only [List.length_map, List.length_append, List.length_set, List.length_cons, List.length_nil, List.length_take, List.length_drop]; omega)) only [go_sem, ↓reduceIte, Nat.reduceEqDiff, reduceCtorEq, q0, qf, hc]; rfl) ?_
    refine Rq ?_
    have tr : ∀ y0 y1 y2 y3 y6 y7 y8 y9 y10 y16 y22 y66 y72 z0 z1 z2 z3 z4 : AV, trim [(8, z4), (20, z3), (19, z2), (18, z1), (17, z0), (0, y0), (1, y1), (2, y2), (3, y3), (6, y6), (7, y7), (8, y8), (9, y9), (10, y10), (16, y16), (22, y22), (66, y66), (72, y72)] [(0, y0), (1, y1), (2, y2), (3, y3), (6, y6), (7, y7), (8, y8), (9, y9), (10, y10), (16, y16), (22, y22), (66, y66), (72, y72)] = [(0, y0), (1, y1), (2, y2), (3, y3), (6, y6), (7, y7), (8, z4), (9, y9), (10, y10), (16, y16), (22, y22), (66, y66), (72, y72)] := fun y0 y1 y2 y3 y6 y7 y8 y9 y10 y16 y22 y66 y72 z0 z1 z2 z3 z4 => rfl
    refine R_nil (tr _ _ _ _ _ _ _ _ _ _ _ _ _ _ _ _ _ _) ?_; clear tr
    refine then_n ?_
    refine at_seq rfl ?_
    refine rg rfl ?_
    refine Rq ?_
    refine Rq ?_
    have tr : ∀ y0 y1 y2 y3 y6 y7 y8 y9 y10 y16 y22 y66 y72 z0 z1 : AV, trim [(22, z1), (21, z0), (0, y0), (1, y1), (2, y2), (3, y3), (6, y6), (7, y7), (8, y8), (9, y9), (10, y10), (16, y16), (22, y22), (66, y66), (72, y72)] [(0, y0), (1, y1), (2, y2), (3, y3), (6, y6), (7, y7), (8, y8), (9, y9), (10, y10), (16, y16), (22, y22), (66, y66), (72, y72)] = [(0, y0), (1, y1), (2, y2), (3, y3), (6, y6), (7, y7), (8, y8), (9, y9), (10, y10), (16, y16), (22, z1), (66, y66), (72, y72)] := fun y0 y1 y2 y3 y6 y7 y8 y9 y10 y16 y22 y66 y72 z0 z1 => rfl
    refine R_nil (tr _ _ _ _ _ _ _ _ _ _ _ _ _ _ _) ?_; clear tr
    refine then_n ?_
    refine cdd (fun h2 => ?_) (fun h2 => ?_)
    · try simp only [decide_eq_true_eq, decide_eq_false_iff_not, Bool.not_eq_true', Bool.not_eq_false', beq_iff_eq, beq_eq_false_iff_ne, ne_eq] at h2
      refine at_seq rfl ?_
      refine rd rfl rfl ?_
      obtain ⟨hi, hix, hro, hta, hav⟩ := arc_pos A (by omega)
      have he := ge _ hix
      have hr := hrr _ hix
      refine Qq ?_
      refine Qq ?_
      refine Q_q rfl (by simp (disch := first | omega | (simp only [List.length_map, List.length_append, List.length_set, List.length_cons, List.length_nil, List.length_take, List.length_drop]; omega)) only [go_sem, ↓reduceIte, Nat.reduceEqDiff, reduceCtorEq, q0, qf, hc]; rfl) ?_
      refine Qq ?_
      refine Qq ?_
      refine Qq ?_
      refine Qq ?_
      refine Q_q rfl (by simp (disch := first | omega | (simp only [List.length_map, List.length_append, List.length_set, List.length_cons, List.length_nil, List.length_take, List.length_drop]; omega)) only [go_sem, ↓reduceIte, Nat.reduceEqDiff, reduceCtorEq, q0, qf, hc]; rfl) ?_
      refine Qq ?_
      refine Qq ?_
      refine Qq ?_
      refine Qq ?_
      refine Q_q rfl (by simp (disch := first | omega | (simp only [List.length_map, List.length_append, List.length_set, List.length_cons, List.length_nil, List.length_take, List.length_drop]; omega)) only [go_sem, ↓reduceIte, Nat.reduceEqDiff, reduceCtorEq, q0, qf, hc]; rfl) ?_
      refine Qq ?_
      refine Qq ?_
      refine Qq ?_
      refine Q_nil ?_
      have tr : ∀ y0 y1 y2 y3 y6 y7 y8 y9 y10 y16 y22 y66 y72 z0 z1 z2 z3 z4 z5 z6 z7 z8 z9 z10 z11 z12 z13 z14 z15 : AV, trim [(6, z15), (37, z14), (36, z13), (35, z12), (34, z11), (33, z10), (32, z9), (31, z8), (30, z7), (29, z6), (28, z5), (27, z4), (26, z3), (25, z2), (24, z1), (23, z0), (0, y0), (1, y1), (2, y2), (3, y3), (6, y6), (7, y7), (8, y8), (9, y9), (10, y10), (16, y16), (22, y22), (66, y66), (72, y72)] [(0, y0), (1, y1), (2, y2), (3, y3), (6, y6), (7, y7), (8, y8), (9, y9), (10, y10), (16, y16), (22, y22), (66, y66), (72, y72)] = [(0, y0), (1, y1), (2, y2), (3, y3), (6, z15), (7, y7), (8, y8), (9, y9), (10, y10), (16, y16), (22, y22), (66, y66), (72, y72)] := fun y0 y1 y2 y3 y6 y7 y8 y9 y10 y16 y22 y66 y72 z0 z1 z2 z3 z4 z5 z6 z7 z8 z9 z10 z11 z12 z13 z14 z15 => rfl
      refine R_nil (tr _ _ _ _ _ _ _ _ _ _ _ _ _ _ _ _ _ _ _ _ _ _ _ _ _ _ _ _ _) ?_; clear tr
      refine then_n ?_
      refine rg rfl ?_
      refine Rq ?_
      refine R_q rfl (by simp (disch := first | omega | (simp only [List.length_map, List.length_append, List.length_set, List.length_cons, List.length_nil, List.length_take, List.length_drop]; omega)) only [go_sem, ↓reduceIte, Nat.reduceEqDiff, reduceCtorEq, q0, qf, hc]; rfl) ?_
      refine Rq ?_
      refine Rq ?_
      refine Rq ?_
      refine Rq ?_
      refine R_q rfl (by simp (disch := first | omega | (simp only [List.length_map, List.length_append, List.length_set, List.length_cons, List.length_nil, List.length_take, List.length_drop]; omega)) only [go_sem, ↓reduceIte, Nat.reduceEqDiff, reduceCtorEq, q0, qf, hc]; rfl) ?_
      refine Rq ?_
      have tr : ∀ y0 y1 y2 y3 y6 y7 y8 y9 y10 y16 y22 y66 y72 z0 z1 z2 z3 z4 z5 z6 z7 : AV, trim [(7, z7), (44, z6), (43, z5), (42, z4), (41, z3), (40, z2), (39, z1), (38, z0), (0, y0), (1, y1), (2, y2), (3, y3), (6, y6), (7, y7), (8, y8), (9, y9), (10, y10), (16, y16), (22, y22), (66, y66), (72, y72)] [(0, y0), (1, y1), (2, y2), (3, y3), (6, y6), (7, y7), (8, y8), (9, y9), (10, y10), (16, y16), (22, y22), (66, y66), (72, y72)] = [(0, y0), (1, y1), (2, y2), (3, y3), (6, y6), (7, z7), (8, y8), (9, y9), (10, y10), (16, y16), (22, y22), (66, y66), (72, y72)] := fun y0 y1 y2 y3 y6 y7 y8 y9 y10 y16 y22 y66 y72 z0 z1 z2 z3 z4 z5 z6 z7 => rfl
      refine R_nil (tr _ _ _ _ _ _ _ _ _ _ _ _ _ _ _ _ _ _ _ _ _) ?_; clear tr
      refine blk_n ?_
      refine then_n ?_
      exact ⟨_, _, ⟨k', (gt E (c - 1).toNat).a, _, w ++ [c], _, _, _, rfl, rfl, by rfl, by rw [← hta]; exact T2, by rw [← hta, List.append_assoc]; exact hW, by rw [least_app, ← hla, hro], by omega, by omega⟩, by rfl, by omega⟩
    · try simp only [decide_eq_true_eq, decide_eq_false_iff_not, Bool.not_eq_true', Bool.not_eq_false', beq_iff_eq, beq_eq_false_iff_ne, ne_eq] at h2
      refine at_seq rfl ?_
      refine rg rfl ?_
      obtain ⟨hi, hix, hro, hta, hav⟩ := arc_neg A (by omega)
      have he := ge _ hix
      have hr := hrr _ hix
      refine Rq ?_
      refine Rq ?_
      refine Rq ?_
      refine Rq ?_
      refine Rq ?_
      refine Rq ?_
      refine R_q rfl (by simp (disch := first | omega | (simp only [List.length_map, List.length_append, List.length_set, List.length_cons, List.length_nil, List.length_take, List.length_drop]; omega)) only [go_sem, ↓reduceIte, Nat.reduceEqDiff, reduceCtorEq, q0, qf, hc]; rfl) ?_
      refine Rq ?_
      refine Rq ?_
      have tr : ∀ y0 y1 y2 y3 y6 y7 y8 y9 y10 y16 y22 y66 y72 z0 z1 z2 z3 z4 z5 z6 z7 z8 : AV, trim [(6, z8), (52, z7), (51, z6), (50, z5), (49, z4), (48, z3), (47, z2), (46, z1), (45, z0), (0, y0), (1, y1), (2, y2), (3, y3), (6, y6), (7, y7), (8, y8), (9, y9), (10, y10), (16, y16), (22, y22), (66, y66), (72, y72)] [(0, y0), (1, y1), (2, y2), (3, y3), (6, y6), (7, y7), (8, y8), (9, y9), (10, y10), (16, y16), (22, y22), (66, y66), (72, y72)] = [(0, y0), (1, y1), (2, y2), (3, y3), (6, z8), (7, y7), (8, y8), (9, y9), (10, y10), (16, y16), (22, y22), (66, y66), (72, y72)] := fun y0 y1 y2 y3 y6 y7 y8 y9 y10 y16 y22 y66 y72 z0 z1 z2 z3 z4 z5 z6 z7 z8 => rfl
      refine R_nil (tr _ _ _ _ _ _ _ _ _ _ _ _ _ _ _ _ _ _ _ _ _ _) ?_; clear tr
      refine then_n ?_
      refine rg rfl ?_
      refine Rq ?_
      refine R_q rfl (by simp (disch := first | omega | (simp only [List.length_map, List.length_append, List.length_set, List.length_cons, List.length_nil, List.length_take, List.length_drop]; omega)) only [go_sem, ↓reduceIte, Nat.reduceEqDiff, reduceCtorEq, q0, qf, hc]; rfl) ?_
      refine Rq ?_
      refine Rq ?_
      refine Rq ?_
      refine Rq ?_
      refine Rq ?_
      refine R_q rfl (by simp (disch := first | omega | (simp only [List.length_map, List.length_append, List.length_set, List.length_cons, List.length_nil, List.length_take, List.length_drop]; omega)) only [go_sem, ↓reduceIte, Nat.reduceEqDiff, reduceCtorEq, q0, qf, hc]; rfl) ?_
      refine Rq ?_
      have tr : ∀ y0 y1 y2 y3 y6 y7 y8 y9 y10 y16 y22 y66 y72 z0 z1 z2 z3 z4 z5 z6 z7 z8 : AV, trim [(7, z8), (60, z7), (59, z6), (58, z5), (57, z4), (56, z3), (55, z2), (54, z1), (53, z0), (0, y0), (1, y1), (2, y2), (3, y3), (6, y6), (7, y7), (8, y8), (9, y9), (10, y10), (16, y16), (22, y22), (66, y66), (72, y72)] [(0, y0), (1, y1), (2, y2), (3, y3), (6, y6), (7, y7), (8, y8), (9, y9), (10, y10), (16, y16), (22, y22), (66, y66), (72, y72)] = [(0, y0), (1, y1), (2, y2), (3, y3), (6, y6), (7, z8), (8, y8), (9, y9), (10, y10), (16, y16), (22, y22), (66, y66), (72, y72)] := fun y0 y1 y2 y3 y6 y7 y8 y9 y10 y16 y22 y66 y72 z0 z1 z2 z3 z4 z5 z6 z7 z8 => rfl
      refine R_nil (tr _ _ _ _ _ _ _ _ _ _ _ _ _ _ _ _ _ _ _ _ _ _) ?_; clear tr
      refine blk_n ?_
      refine then_n ?_
      exact ⟨_, _, ⟨k', (gt E (0 - c - 1).toNat).b, _, w ++ [c], _, _, _, rfl, rfl, by rfl, by rw [← hta]; exact T2, by rw [← hta, List.append_assoc]; exact hW, by rw [least_app, ← hla, hro], by omega, by omega⟩, by rfl, by omega⟩
  · try simp only [decide_eq_true_eq, decide_eq_false_iff_not, Bool.not_eq_true', Bool.not_eq_false', beq_iff_eq, beq_eq_false_iff_ne, ne_eq] at h1
    refine at_exit rfl ?_
    refine then_x ?_
    refine then_x ?_
    refine blk_x ?_
    refine then_n ?_
    refine at_seq rfl ?_
    refine rg rfl ?_
    have hwe := tree_end T1 (by omega)
    rw [hwe, List.append_nil] at hW
    rw [hW] at hla
    have hlw : ∀ x, x ∈ wayN E way m t → la ≤ roomI E f x := by rw [hla]; exact (least_le _ _).2
    refine Rq ?_
    refine R_q rfl (by simp (disch := first | omega | (simp only [List.length_map, List.length_append, List.length_set, List.length_cons, List.length_nil, List.length_take, List.length_drop]; omega)) only [go_sem, ↓reduceIte, Nat.reduceEqDiff, reduceCtorEq, q0, qf, hc]; rfl) ?_
    refine Rq ?_
    have tr : ∀ y0 y1 y2 y3 y6 y7 y8 y9 y10 y16 y22 y66 y72 z0 z1 z2 : AV, trim [(9, z2), (62, z1), (61, z0), (0, y0), (1, y1), (2, y2), (3, y3), (6, y6), (7, y7), (8, y8), (9, y9), (10, y10), (16, y16), (22, y22), (66, y66), (72, y72)] [(0, y0), (1, y1), (2, y2), (3, y3), (6, y6), (7, y7), (8, y8), (9, y9), (10, y10), (16, y16), (22, y22), (66, y66), (72, y72)] = [(0, y0), (1, y1), (2, y2), (3, y3), (6, y6), (7, y7), (8, y8), (9, z2), (10, y10), (16, y16), (22, y22), (66, y66), (72, y72)] := fun y0 y1 y2 y3 y6 y7 y8 y9 y10 y16 y22 y66 y72 z0 z1 z2 => rfl
    refine R_nil (tr _ _ _ _ _ _ _ _ _ _ _ _ _ _ _ _) ?_; clear tr
    refine then_n ?_
    refine at_block rfl ?_
    refine loop_n rfl (fun mm kv H' => ∃ k2 : Nat, ∃ v2 : Int, ∃ w2 : List Int, ∃ x10 x66 x72 : AV, (kv = [(9, AV.i v2), (10, x10), (66, x66), (72, x72)]) ∧ (mm = k2) ∧ (hget H' H.length = some (graphC n s t E)) ∧ (hget H' bf = some ((applyW la f w2).map AV.i)) ∧ (H'.length = H1.length) ∧ (∀ b, b < H.length → b ≠ bf → hget H' b = hget H b) ∧ (TreeN n s E f way k2 v2) ∧ (w2 ++ wayN E way k2 v2 = wayN E way m t)) ⟨m, t, [], _, _, _, rfl, rfl, by exact q0, by exact qf, by rfl, by intro b hb hne; exact n0.old b hb, by exact T, by rfl⟩ (by rfl) ?_
    rintro mm kv HB ⟨k2, v2, w2, x10, x66, x72, rfl, rfl, q0, qf, hlen, hfr, T3, hW3⟩
    have tr : ∀ y0 y1 y2 y3 y6 y7 y8 y9 y10 y16 y22 y66 y72 z9 z10 z66 z72 : AV, upd [(0, y0), (1, y1), (2, y2), (3, y3), (6, y6), (7, y7), (8, y8), (9, y9), (10, y10), (16, y16), (22, y22), (66, y66), (72, y72)] [(9, z9), (10, z10), (66, z66), (72, z72)] = [(0, y0), (1, y1), (2, y2), (3, y3), (6, y6), (7, y7), (8, y8), (9, z9), (10, z10), (16, y16), (22, y22), (66, z66), (72, z72)] := fun y0 y1 y2 y3 y6 y7 y8 y9 y10 y16 y22 y66 y72 z9 z10 z66 z72 => rfl
    refine W_to (tr _ _ _ _ _ _ _ _ _ _ _ _ _ _ _ _ _) ?_; clear tr
    refine at_seq rfl ?_
    refine at_seq rfl ?_
    refine rg rfl ?_
    refine Rq ?_
    refine Rq ?_
    refine R_q rfl (by simp (disch := first | omega | (simp only [List.length_map, List.length_append, List.length_set, List.length_cons, List.length_nil, List.length_take, List.length_drop]; omega)) only [go_sem, ↓reduceIte, Nat.reduceEqDiff, reduceCtorEq, q0, qf, hc]; rfl) ?_
    refine Rq ?_
    have tr : ∀ y0 y1 y2 y3 y6 y7 y8 y9 y10 y16 y22 y66 y72 z0 z1 z2 z3 : AV, trim [(66, z3), (65, z2), (64, z1), (63, z0), (0, y0), (1, y1), (2, y2), (3, y3), (6, y6), (7, y7), (8, y8), (9, y9), (10, y10), (16, y16), (22, y22), (66, y66), (72, y72)] [(0, y0), (1, y1), (2, y2), (3, y3), (6, y6), (7, y7), (8, y8), (9, y9), (10, y10), (16, y16), (22, y22), (66, y66), (72, y72)] = [(0, y0), (1, y1), (2, y2), (3, y3), (6, y6), (7, y7), (8, y8), (9, y9), (10, y10), (16, y16), (22, y22), (66, z3), (72, y72)] := fun y0 y1 y2 y3 y6 y7 y8 y9 y10 y16 y22 y66 y72 z0 z1 z2 z3 => rfl
    refine R_nil (tr _ _ _ _ _ _ _ _ _ _ _ _ _ _ _ _ _) ?_; clear tr
    refine then_n ?_
    refine cdd (fun h3 => ?_) (fun h3 => ?_)
    · try simp only [decide_eq_true_eq, decide_eq_false_iff_not, Bool.not_eq_true', Bool.not_eq_false', beq_iff_eq, beq_eq_false_iff_ne, ne_eq] at h3
      refine at_skip rfl ?_
      refine then_n ?_
      refine at_block rfl ?_
      refine at_seq rfl ?_
      refine rg rfl ?_
      obtain ⟨k', c, rfl, hc, hv0, hv1, A, T4, hwn⟩ := tree_step T3 (by omega)
      rw [hwn] at hW3
      have hnz := A.nz
      obtain ⟨s1, s2, s3, s4, A2⟩ := aug_step (d := la) (by omega) hl hrr WO hlw hW3
      refine Rq ?_
      refine Rq ?_
      refine Rq ?_
      refine R_q rfl (by simp (disch := first | omega | (simp only [List.length_map, List.length_append, List.length_set, List.length_cons, List.length_nil, List.length_take, List.length_drop]; omega)) only [go_sem, ↓reduceIte, Nat.reduceEqDiff, reduceCtorEq, q0, qf, hc]; rfl) ?_
      refine Rq ?_
      have tr : ∀ y0 y1 y2 y3 y6 y7 y8 y9 y10 y16 y22 y66 y72 z0 z1 z2 z3 z4 : AV, trim [(10, z4), (70, z3), (69, z2), (68, z1), (67, z0), (0, y0), (1, y1), (2, y2), (3, y3), (6, y6), (7, y7), (8, y8), (9, y9), (10, y10), (16, y16), (22, y22), (66, y66), (72, y72)] [(0, y0), (1, y1), (2, y2), (3, y3), (6, y6), (7, y7), (8, y8), (9, y9), (10, y10), (16, y16), (22, y22), (66, y66), (72, y72)] = [(0, y0), (1, y1), (2, y2), (3, y3), (6, y6), (7, y7), (8, y8), (9, y9), (10, z4), (16, y16), (22, y22), (66, y66), (72, y72)] := fun y0 y1 y2 y3 y6 y7 y8 y9 y10 y16 y22 y66 y72 z0 z1 z2 z3 z4 => rfl
      refine R_nil (tr _ _ _ _ _ _ _ _ _ _ _ _ _ _ _ _ _ _) ?_; clear tr
      refine then_n ?_
      refine at_seq rfl ?_
      refine rg rfl ?_
      refine Rq ?_
      refine Rq ?_
      have tr : ∀ y0 y1 y2 y3 y6 y7 y8 y9 y10 y16 y22 y66 y72 z0 z1 : AV, trim [(72, z1), (71, z0), (0, y0), (1, y1), (2, y2), (3, y3), (6, y6), (7, y7), (8, y8), (9, y9), (10, y10), (16, y16), (22, y22), (66, y66), (72, y72)] [(0, y0), (1, y1), (2, y2), (3, y3), (6, y6), (7, y7), (8, y8), (9, y9), (10, y10), (16, y16), (22, y22), (66, y66), (72, y72)] = [(0, y0), (1, y1), (2, y2), (3, y3), (6, y6), (7, y7), (8, y8), (9, y9), (10, y10), (16, y16), (22, y22), (66, y66), (72, z1)] := fun y0 y1 y2 y3 y6 y7 y8 y9 y10 y16 y22 y66 y72 z0 z1 => rfl
      refine R_nil (tr _ _ _ _ _ _ _ _ _ _ _ _ _ _ _) ?_; clear tr
      refine then_n ?_
      refine cdd (fun h4 => ?_) (fun h4 => ?_)
      · try simp only [decide_eq_true_eq, decide_eq_false_iff_not, Bool.not_eq_true', Bool.not_eq_false', beq_iff_eq, beq_eq_false_iff_ne, ne_eq] at h4
        refine at_seq rfl ?_
        refine rg rfl ?_
        obtain ⟨hi, hix, hro, hta, hav⟩ := arc_pos A (by omega)
        have he := ge _ hix
        have hr := hrr _ hix
        rw [hav, hi] at s2 s4
        rw [hi] at s1
        refine Rq ?_
        refine Rq ?_
        refine Rq ?_
        refine Rq ?_
        refine R_q rfl (by simp (disch := first | omega | (simp only [List.length_map, List.length_append, List.length_set, List.length_cons, List.length_nil, List.length_take, List.length_drop]; omega)) only [go_sem, ↓reduceIte, Nat.reduceEqDiff, reduceCtorEq, q0, qf, hc]; rfl) ?_
        refine Rq ?_
        refine Rq ?_
        refine Rq ?_
        have lq0 := hget_lt q0
        have lqf := hget_lt qf
        refine A_store ty2 (by simp (disch := first | omega | (simp only [List.length_map, List.length_append, List.length_set, List.length_cons, List.length_nil, List.length_take, List.length_drop]; omega)) only [go_sem, ↓reduceIte, Nat.reduceEqDiff, reduceCtorEq, q0, qf, hc]; rfl) (by simp (disch := first | omega | (simp only [List.length_map, List.length_append, List.length_set, List.length_cons, List.length_nil, List.length_take, List.length_drop]; omega)) only [go_sem, ↓reduceIte, Nat.reduceEqDiff, reduceCtorEq, q0, qf, hc]; rfl) qf ⟨by omega, rfl, by simp only [List.length_map]; omega⟩ (k' := (applyW la f (w2 ++ [c])).map AV.i) (by rw [setL_map, s4]) ?_
        intro HC w1
        have ew1 := w1.len
        have q0 := (w1.old _ (by omega)).trans q0
        have qf := w1.new
        have tr : ∀ y0 y1 y2 y3 y6 y7 y8 y9 y10 y16 y22 y66 y72 z0 z1 z2 z3 z4 z5 z6 z7 : AV, trim [(80, z7), (79, z6), (78, z5), (77, z4), (76, z3), (75, z2), (74, z1), (73, z0), (0, y0), (1, y1), (2, y2), (3, y3), (6, y6), (7, y7), (8, y8), (9, y9), (10, y10), (16, y16), (22, y22), (66, y66), (72, y72)] [(0, y0), (1, y1), (2, y2), (3, y3), (6, y6), (7, y7), (8, y8), (9, y9), (10, y10), (16, y16), (22, y22), (66, y66), (72, y72)] = [(0, y0), (1, y1), (2, y2), (3, y3), (6, y6), (7, y7), (8, y8), (9, y9), (10, y10), (16, y16), (22, y22), (66, y66), (72, y72)] := fun y0 y1 y2 y3 y6 y7 y8 y9 y10 y16 y22 y66 y72 z0 z1 z2 z3 z4 z5 z6 z7 => rfl
        refine R_nil (tr _ _ _ _ _ _ _ _ _ _ _ _ _ _ _ _ _ _ _ _ _) ?_; clear tr
        refine then_n ?_
        refine rg rfl ?_
        refine Rq ?_
        refine R_q rfl (by simp (disch := first | omega | (simp only [List.length_map, List.length_append, List.length_set, List.length_cons, List.length_nil, List.length_take, List.length_drop]; omega)) only [go_sem, ↓reduceIte, Nat.reduceEqDiff, reduceCtorEq, q0, qf, hc]; rfl) ?_
        refine Rq ?_
        refine Rq ?_
        refine Rq ?_
        refine Rq ?_
        refine R_q rfl (by simp (disch := first | omega | (simp only [List.length_map, List.length_append, List.length_set, List.length_cons, List.length_nil, List.length_take, List.length_drop]; omega)) only [go_sem, ↓reduceIte, Nat.reduceEqDiff, reduceCtorEq, q0, qf, hc]; rfl) ?_
        refine Rq ?_
        have tr : ∀ y0 y1 y2 y3 y6 y7 y8 y9 y10 y16 y22 y66 y72 z0 z1 z2 z3 z4 z5 z6 z7 : AV, trim [(9, z7), (87, z6), (86, z5), (85, z4), (84, z3), (83, z2), (82, z1), (81, z0), (0, y0), (1, y1), (2, y2), (3, y3), (6, y6), (7, y7), (8, y8), (9, y9), (10, y10), (16, y16), (22, y22), (66, y66), (72, y72)] [(0, y0), (1, y1), (2, y2), (3, y3), (6, y6), (7, y7), (8, y8), (9, y9), (10, y10), (16, y16), (22, y22), (66, y66), (72, y72)] = [(0, y0), (1, y1), (2, y2), (3, y3), (6, y6), (7, y7), (8, y8), (9, z7), (10, y10), (16, y16), (22, y22), (66, y66), (72, y72)] := fun y0 y1 y2 y3 y6 y7 y8 y9 y10 y16 y22 y66 y72 z0 z1 z2 z3 z4 z5 z6 z7 => rfl
        refine R_nil (tr _ _ _ _ _ _ _ _ _ _ _ _ _ _ _ _ _ _ _ _ _) ?_; clear tr
        refine blk_n ?_
        refine then_n ?_
        exact ⟨_, _, ⟨k', (gt E (c - 1).toNat).a, w2 ++ [c], _, _, _, rfl, rfl, by exact q0, by exact qf, by exact ew1.trans hlen, by intro b hb hne; rw [w1.old b hne]; exact hfr b hb hne, by rw [← hta]; exact T4, by rw [← hta, List.append_assoc]; exact hW3⟩, by rfl, by omega⟩
      · try simp only [decide_eq_true_eq, decide_eq_false_iff_not, Bool.not_eq_true', Bool.not_eq_false', beq_iff_eq, beq_eq_false_iff_ne, ne_eq] at h4
        refine at_seq rfl ?_
        refine rg rfl ?_
        obtain ⟨hi, hix, hro, hta, hav⟩ := arc_neg A (by omega)
        have he := ge _ hix
        have hr := hrr _ hix
        rw [hav, hi] at s2 s4
        rw [hi] at s1
        refine Rq ?_
        refine Rq ?_
        refine Rq ?_
        refine Rq ?_
        refine Rq ?_
        refine R_q rfl (by simp (disch := first | omega | (simp only [List.length_map, List.length_append, List.length_set, List.length_cons, List.length_nil, List.length_take, List.length_drop]; omega)) only [go_sem, ↓reduceIte, Nat.reduceEqDiff, reduceCtorEq, q0, qf, hc]; rfl) ?_
        refine Rq ?_
        refine Rq ?_
        refine Rq ?_
        have lq0 := hget_lt q0
        have lqf := hget_lt qf
        refine A_store ty2 (by simp (disch := first | omega | (simp only [List.length_map, List.length_append, List.length_set, List.length_cons, List.length_nil, List.length_take, List.length_drop]; omega)) only [go_sem, ↓reduceIte, Nat.reduceEqDiff, reduceCtorEq, q0, qf, hc]; rfl) (by simp (disch := first | omega | (simp only [List.length_map, List.length_append, List.length_set, List.length_cons, List.length_nil, List.length_take, List.length_drop]; omega)) only [go_sem, ↓reduceIte, Nat.reduceEqDiff, reduceCtorEq, q0, qf, hc]; rfl) qf ⟨by omega, rfl, by simp only [List.length_map]; omega⟩ (k' := (applyW la f (w2 ++ [c])).map AV.i) (by rw [setL_map, s4]) ?_
        intro HC w1
        have ew1 := w1.len
        have q0 := (w1.old _ (by omega)).trans q0
        have qf := w1.new
        have tr : ∀ y0 y1 y2 y3 y6 y7 y8 y9 y10 y16 y22 y66 y72 z0 z1 z2 z3 z4 z5 z6 z7 z8 : AV, trim [(96, z8), (95, z7), (94, z6), (93, z5), (92, z4), (91, z3), (90, z2), (89, z1), (88, z0), (0, y0), (1, y1), (2, y2), (3, y3), (6, y6), (7, y7), (8, y8), (9, y9), (10, y10), (16, y16), (22, y22), (66, y66), (72, y72)] [(0, y0), (1, y1), (2, y2), (3, y3), (6, y6), (7, y7), (8, y8), (9, y9), (10, y10), (16, y16), (22, y22), (66, y66), (72, y72)] = [(0, y0), (1, y1), (2, y2), (3, y3), (6, y6), (7, y7), (8, y8), (9, y9), (10, y10), (16, y16), (22, y22), (66, y66), (72, y72)] := fun y0 y1 y2 y3 y6 y7 y8 y9 y10 y16 y22 y66 y72 z0 z1 z2 z3 z4 z5 z6 z7 z8 => rfl
        refine R_nil (tr _ _ _ _ _ _ _ _ _ _ _ _ _ _ _ _ _ _ _ _ _ _) ?_; clear tr
        refine then_n ?_
        refine rg rfl ?_
        refine Rq ?_
        refine R_q rfl (by simp (disch := first | omega | (simp only [List.length_map, List.length_append, List.length_set, List.length_cons, List.length_nil, List.length_take, List.length_drop]; omega)) only [go_sem, ↓reduceIte, Nat.reduceEqDiff, reduceCtorEq, q0, qf, hc]; rfl) ?_
        refine Rq ?_
        refine Rq ?_
        refine Rq ?_
        refine Rq ?_
        refine Rq ?_
        refine R_q rfl (by simp (disch := first | omega | (simp only [List.length_map, List.length_append, List.length_set, List.length_cons, List.length_nil, List.length_take, List.length_drop]; omega)) only [go_sem, ↓reduceIte, Nat.reduceEqDiff, reduceCtorEq, q0, qf, hc]; rfl) ?_
        refine Rq ?_
        have tr : ∀ y0 y1 y2 y3 y6 y7 y8 y9 y10 y16 y22 y66 y72 z0 z1 z2 z3 z4 z5 z6 z7 z8 : AV, trim [(9, z8), (104, z7), (103, z6), (102, z5), (101, z4), (100, z3), (99, z2), (98, z1), (97, z0), (0, y0), (1, y1), (2, y2), (3, y3), (6, y6), (7, y7), (8, y8), (9, y9), (10, y10), (16, y16), (22, y22), (66, y66), (72, y72)] [(0, y0), (1, y1), (2, y2), (3, y3), (6, y6), (7, y7), (8, y8), (9, y9), (10, y10), (16, y16), (22, y22), (66, y66), (72, y72)] = [(0, y0), (1, y1), (2, y2), (3, y3), (6, y6), (7, y7), (8, y8), (9, z8), (10, y10), (16, y16), (22, y22), (66, y66), (72, y72)] := fun y0 y1 y2 y3 y6 y7 y8 y9 y10 y16 y22 y66 y72 z0 z1 z2 z3 z4 z5 z6 z7 z8 => rfl
        refine R_nil (tr _ _ _ _ _ _ _ _ _ _ _ _ _ _ _ _ _ _ _ _ _ _) ?_; clear tr
        refine blk_n ?_
        refine then_n ?_
        exact ⟨_, _, ⟨k', (gt E (0 - c - 1).toNat).b, w2 ++ [c], _, _, _, rfl, rfl, by exact q0, by exact qf, by exact ew1.trans hlen, by intro b hb hne; rw [w1.old b hne]; exact hfr b hb hne, by rw [← hta]; exact T4, by rw [← hta, List.append_assoc]; exact hW3⟩, by rfl, by omega⟩
    · try simp only [decide_eq_true_eq, decide_eq_false_iff_not, Bool.not_eq_true', Bool.not_eq_false', beq_iff_eq, beq_eq_false_iff_ne, ne_eq] at h3
      refine at_exit rfl ?_
      refine then_x ?_
      refine then_x ?_
      refine blk_x ?_
      have hwe := tree_end T3 (by omega)
      rw [hwe, List.append_nil] at hW3
      rw [hW3, hla] at qf
      refine fin_own_n rfl (l := []) rfl ?_
      exact ⟨by show H.length ≤ HB.length; omega, qf, hfr⟩

end Go.Proofs.Ytdicnojnkbmdlaa
