/-
  Walks of chapter 38. The steps are written by program (walk.py).
-/
import Derived.Test.YtdkhgpdojjdadaaWT
import Derived.Test.YtdkhgpdojjdadaaWU
set_option linter.unusedSimpArgs false
set_option linter.unusedVariables false
set_option maxHeartbeats 40000000
set_option maxRecDepth 4000
namespace Go.Proofs.Ytdkhgpdojjdadaa
open Go Go.Am

theorem rabove_ok (lim : Nat) (H : Heap) (rows : Tb) :
    ACall sig lim 13 [.agg [rowsAV rows]] H fun r H' => H' = H ∧ (rawS rows ≠ 0 → r = .tup [.agg [.v (.slice none 0 0)], AV.i (rawS rows)]) ∧ (rawS rows = 0 → ∃ t, r = .tup [.agg [rowsAV t], AV.i 0] ∧ Inv rows t ∧ Closed t) := by
  have hp5 : True := trivial
  refine ACall_pure (fa := fa13) rfl rfl rfl rfl ?_
  have tr : ∀ a0 : AV, env0 fa13.keep [a0] = [(0, a0), (1, .any), (2, .any), (3, .any), (4, .any), (5, .any), (9, .any), (15, .any)] := fun a0 => rfl
  refine W_to (tr _) ?_; clear tr
  refine at_seq rfl ?_
  refine rg rfl ?_
  refine R_box rfl (by simp (disch := first | omega | (simp only [List.length_map, List.length_append, List.length_set, List.length_cons, List.length_nil, List.length_take, List.length_drop]; omega)) only [go_sem, ↓reduceIte, Nat.reduceEqDiff, reduceCtorEq, hp5]; rfl) rfl rfl ?_
  refine R_alloc (by simp (disch := first | omega | (simp only [List.length_map, List.length_append, List.length_set, List.length_cons, List.length_nil, List.length_take, List.length_drop]; omega)) only [go_sem, ↓reduceIte, Nat.reduceEqDiff, reduceCtorEq, hp5]; rfl) rfl (by simp only [List.map_cons, List.map_nil]; rfl) ?_
  refine Rq ?_
  have tr : ∀ y0 y1 y2 y3 y4 y5 y9 y15 z0 z1 z2 : AV, trim [(3, z2), (2, z1), (1, z0), (0, y0), (1, y1), (2, y2), (3, y3), (4, y4), (5, y5), (9, y9), (15, y15)] [(0, y0), (1, y1), (2, y2), (3, y3), (4, y4), (5, y5), (9, y9), (15, y15)] = [(0, y0), (1, z0), (2, z1), (3, z2), (4, y4), (5, y5), (9, y9), (15, y15)] := fun y0 y1 y2 y3 y4 y5 y9 y15 z0 z1 z2 => rfl
  refine R_nil (tr _ _ _ _ _ _ _ _ _ _ _) ?_; clear tr
  refine then_n ?_
  refine at_seq rfl ?_
  refine at_seq rfl ?_
  refine rg rfl ?_
  refine R_q rfl (by simp (disch := first | omega | (simp only [List.length_map, List.length_append, List.length_set, List.length_cons, List.length_nil, List.length_take, List.length_drop]; omega)) only [go_sem, ↓reduceIte, Nat.reduceEqDiff, reduceCtorEq, hp5]; rfl) ?_
  refine Rcall ?_
  refine ACall_eq (rends_ok _ _ _) ?_
  refine Rq ?_
  have tr : ∀ y0 y1 y2 y3 y4 y5 y9 y15 z0 z1 z2 : AV, trim [(4, z2), (7, z1), (6, z0), (0, y0), (1, y1), (2, y2), (3, y3), (4, y4), (5, y5), (9, y9), (15, y15)] [(0, y0), (1, y1), (2, y2), (3, y3), (4, y4), (5, y5), (9, y9), (15, y15)] = [(0, y0), (1, y1), (2, y2), (3, y3), (4, z2), (5, y5), (9, y9), (15, y15)] := fun y0 y1 y2 y3 y4 y5 y9 y15 z0 z1 z2 => rfl
  refine R_nil (tr _ _ _ _ _ _ _ _ _ _ _) ?_; clear tr
  refine then_n ?_
  refine at_seq rfl ?_
  refine rg rfl ?_
  refine Rq ?_
  refine Rq ?_
  have tr : ∀ y0 y1 y2 y3 y4 y5 y9 y15 z0 z1 : AV, trim [(9, z1), (8, z0), (0, y0), (1, y1), (2, y2), (3, y3), (4, y4), (5, y5), (9, y9), (15, y15)] [(0, y0), (1, y1), (2, y2), (3, y3), (4, y4), (5, y5), (9, y9), (15, y15)] = [(0, y0), (1, y1), (2, y2), (3, y3), (4, y4), (5, y5), (9, z1), (15, y15)] := fun y0 y1 y2 y3 y4 y5 y9 y15 z0 z1 => rfl
  refine R_nil (tr _ _ _ _ _ _ _ _ _ _) ?_; clear tr
  refine then_n ?_
  refine cdd (fun h1 => ?_) (fun h1 => ?_)
  · try simp only [decide_eq_true_eq, decide_eq_false_iff_not, Bool.not_eq_true', Bool.not_eq_false', beq_iff_eq, beq_eq_false_iff_ne, ne_eq] at h1
    refine at_seq rfl ?_
    refine rg rfl ?_
    refine R_q rfl (by simp only [go_sem, List.map_nil, bld24_0]; rfl) ?_
    refine Rq ?_
    refine R_store ty24 (by simp (disch := first | omega | (simp only [List.length_map, List.length_append, List.length_set, List.length_cons, List.length_nil, List.length_take, List.length_drop]; omega)) only [go_sem, ↓reduceIte, Nat.reduceEqDiff, reduceCtorEq, hp5]; rfl) (by simp (disch := first | omega | (simp only [List.length_map, List.length_append, List.length_set, List.length_cons, List.length_nil, List.length_take, List.length_drop]; omega)) only [go_sem, ↓reduceIte, Nat.reduceEqDiff, reduceCtorEq, hp5]; rfl) (by simp (disch := first | omega | (simp only [List.length_map, List.length_append, List.length_set, List.length_cons, List.length_nil, List.length_take, List.length_drop]; omega)) only [go_sem, ↓reduceIte, Nat.reduceEqDiff, reduceCtorEq, hp5]; rfl) (by simp) (by rfl) (by simp (disch := first | omega | (simp only [List.length_map, List.length_append, List.length_set, List.length_cons, List.length_nil, List.length_take, List.length_drop]; omega)) only [go_sem, ↓reduceIte, Nat.reduceEqDiff, reduceCtorEq, hp5]; rfl) ?_
    refine Rq ?_
    have tr : ∀ y0 y1 y2 y3 y4 y5 y9 y15 z0 z1 z2 : AV, trim [(3, z2), (11, z1), (10, z0), (0, y0), (1, y1), (2, y2), (3, y3), (4, y4), (5, y5), (9, y9), (15, y15)] [(0, y0), (1, y1), (2, y2), (3, y3), (4, y4), (5, y5), (9, y9), (15, y15)] = [(0, y0), (1, y1), (2, y2), (3, z2), (4, y4), (5, y5), (9, y9), (15, y15)] := fun y0 y1 y2 y3 y4 y5 y9 y15 z0 z1 z2 => rfl
    refine R_nil (tr _ _ _ _ _ _ _ _ _ _ _) ?_; clear tr
    refine then_n ?_
    refine at_ret rfl ?_
    refine then_r ?_
    refine fin_pure (rs := [.cell 2 24, .tmp 3]) rfl (by simp only [go_sem, ↓reduceIte, Nat.reduceEqDiff]; rfl) (by simp only [go_sem, ↓reduceIte, Nat.reduceEqDiff]; rfl) ?_
    exact ⟨rfl, fun _ => rfl, fun h => absurd h h1⟩
  · try simp only [decide_eq_true_eq, decide_eq_false_iff_not, Bool.not_eq_true', Bool.not_eq_false', beq_iff_eq, beq_eq_false_iff_ne, ne_eq] at h1
    refine at_skip rfl ?_
    refine then_n ?_
    refine at_seq rfl ?_
    refine rg rfl ?_
    have hraw := h1
    have hsh : shapeS rows = 0 := (raw_zero h1).1
    obtain ⟨g2, g91, g1, g10, gl, gr⟩ := shaped_of hsh
    refine R_q rfl (by simp (disch := first | omega | (simp only [List.length_map, List.length_append, List.length_set, List.length_cons, List.length_nil, List.length_take, List.length_drop]; omega)) only [go_sem, ↓reduceIte, Nat.reduceEqDiff, reduceCtorEq, hp5]; rfl) ?_
    refine Rcall ?_
    refine ACall_mono (clone38_ok _ _ (by simp) rows (by omega) (fun i hi => by rw [gl i hi]; omega)) ?_
    rintro r H5 ⟨X, o, rfl, rfl, hO⟩
    rcases hO with ⟨h0, _⟩ | ⟨b, bs, rfl, T⟩
    · exfalso; subst h0; simp at g2
    refine R_alloc (by simp (disch := first | omega | (simp only [List.length_map, List.length_append, List.length_set, List.length_cons, List.length_nil, List.length_take, List.length_drop]; omega)) only [go_sem, ↓reduceIte, Nat.reduceEqDiff, reduceCtorEq, hp5]; rfl) rfl (by simp only [List.map_cons, List.map_nil]; rfl) ?_
    refine R_store ty24 (by simp (disch := first | omega | (simp only [List.length_map, List.length_append, List.length_set, List.length_cons, List.length_nil, List.length_take, List.length_drop]; omega)) only [go_sem, ↓reduceIte, Nat.reduceEqDiff, reduceCtorEq, hp5]; rfl) (by simp (disch := first | omega | (simp only [List.length_map, List.length_append, List.length_set, List.length_cons, List.length_nil, List.length_take, List.length_drop]; omega)) only [go_sem, ↓reduceIte, Nat.reduceEqDiff, reduceCtorEq, hp5]; rfl) (by simp (disch := first | omega | (simp only [List.length_map, List.length_append, List.length_set, List.length_cons, List.length_nil, List.length_take, List.length_drop]; omega)) only [go_sem, ↓reduceIte, Nat.reduceEqDiff, reduceCtorEq, hp5]; rfl) (by simp) (by rfl) (by simp (disch := first | omega | (simp only [List.length_map, List.length_append, List.length_set, List.length_cons, List.length_nil, List.length_take, List.length_drop]; omega)) only [go_sem, ↓reduceIte, Nat.reduceEqDiff, reduceCtorEq, hp5]; rfl) ?_
    have tr : ∀ y0 y1 y2 y3 y4 y5 y9 y15 z0 z1 z2 : AV, trim [(5, z2), (13, z1), (12, z0), (0, y0), (1, y1), (2, y2), (3, y3), (4, y4), (5, y5), (9, y9), (15, y15)] [(0, y0), (1, y1), (2, y2), (3, y3), (4, y4), (5, y5), (9, y9), (15, y15)] = [(0, y0), (1, y1), (2, y2), (3, y3), (4, y4), (5, z2), (9, y9), (15, y15)] := fun y0 y1 y2 y3 y4 y5 y9 y15 z0 z1 z2 => rfl
    refine R_nil (tr _ _ _ _ _ _ _ _ _ _ _) ?_; clear tr
    refine then_n ?_
    refine at_seq rfl ?_
    refine at_block rfl ?_
    refine loop_n rfl (fun mm kv H' => ∃ l : Tb, ∃ x15 : AV, (kv = [(15, x15)]) ∧ (mm = (9100001 - tsum l).toNat) ∧ (Tab (H ++ [some [rowsAV rows]] ++ [some [AV.v (.slice none 0 0)]]).length H' b bs l) ∧ (Inv rows l) ∧ (hget H' ((H ++ [some [rowsAV rows]] ++ [some [AV.v (.slice none 0 0)]]) ++ X).length = some [.own 1 b 0 rows.length]) ∧ (hget H' (H ++ [some [rowsAV rows]]).length = some [AV.v (.slice none 0 0)]) ∧ ((H ++ [some [rowsAV rows]] ++ [some [AV.v (.slice none 0 0)]]).length ≤ H'.length) ∧ (∀ i, i < l.length → bs i ≠ ((H ++ [some [rowsAV rows]] ++ [some [AV.v (.slice none 0 0)]]) ++ X).length)) ⟨rows, _, rfl, rfl, by exact T.grow _, by exact Inv.start gr, by rw [hget_app]; rfl, by rw [hget_low _ _ _ (by simp), hget_low _ _ _ (by simp), hget_app]; rfl, by simp, by intro i hi; have := hget_lt (T.row i hi); omega⟩ (by rfl) ?_
    rintro mm kv H1 ⟨l, x15, rfl, rfl, T1, I1, hp5, hq1, hH1, hn5⟩
    have tr : ∀ y0 y1 y2 y3 y4 y5 y9 y15 z15 : AV, upd [(0, y0), (1, y1), (2, y2), (3, y3), (4, y4), (5, y5), (9, y9), (15, y15)] [(15, z15)] = [(0, y0), (1, y1), (2, y2), (3, y3), (4, y4), (5, y5), (9, y9), (15, z15)] := fun y0 y1 y2 y3 y4 y5 y9 y15 z15 => rfl
    refine W_to (tr _ _ _ _ _ _ _ _ _) ?_; clear tr
    have hl1 := I1.same.len
    rw [hl1] at hp5
    refine at_seq rfl ?_
    refine at_seq rfl ?_
    refine rg rfl ?_
    refine R_q rfl (by simp (disch := first | omega | (simp only [List.length_map, List.length_append, List.length_set, List.length_cons, List.length_nil, List.length_take, List.length_drop]; omega)) only [go_sem, ↓reduceIte, Nat.reduceEqDiff, reduceCtorEq, hp5]; rfl) ?_
    refine Rcall ?_
    refine ACall_mono (raise_ok _ (H ++ [some [rowsAV rows]] ++ [some [AV.v (.slice none 0 0)]]).length (by simp) _ b bs rows l (gt rows 0).length gl (by omega) (by omega) (by omega) T1 I1) ?_
    rintro r H6 ⟨l5, ch5, rfl, J5⟩
    have tr : ∀ y0 y1 y2 y3 y4 y5 y9 y15 z0 z1 : AV, trim [(15, z1), (14, z0), (0, y0), (1, y1), (2, y2), (3, y3), (4, y4), (5, y5), (9, y9), (15, y15)] [(0, y0), (1, y1), (2, y2), (3, y3), (4, y4), (5, y5), (9, y9), (15, y15)] = [(0, y0), (1, y1), (2, y2), (3, y3), (4, y4), (5, y5), (9, y9), (15, z1)] := fun y0 y1 y2 y3 y4 y5 y9 y15 z0 z1 => rfl
    refine R_nil (tr _ _ _ _ _ _ _ _ _ _) ?_; clear tr
    refine then_n ?_
    refine cdd (fun h2 => ?_) (fun h2 => ?_)
    · try simp only [decide_eq_true_eq, decide_eq_false_iff_not, Bool.not_eq_true', Bool.not_eq_false', beq_iff_eq, beq_eq_false_iff_ne, ne_eq] at h2
      refine at_skip rfl ?_
      refine then_n ?_
      refine at_block rfl ?_
      refine at_skip rfl ?_
      refine blk_n ?_
      refine then_n ?_
      have hlen5 := J5.len
      have hfr : ∀ q, q < (H ++ [some [rowsAV rows]] ++ [some [AV.v (.slice none 0 0)]]).length → hget H6 q = hget H1 q := fun q hq => by
        rw [J5.frame q (fun i hi => by have := T1.low i (by omega); omega), hget_low _ _ _ (by omega)]
      have hfr5 : hget H6 ((H ++ [some [rowsAV rows]] ++ [some [AV.v (.slice none 0 0)]]) ++ X).length = some [.own 1 b 0 rows.length] := by
        rw [J5.frame _ (fun i hi => (hn5 i (by omega)).symm), hget_low _ _ _ (hget_lt hp5), hl1]; exact hp5
      have hy5 := J5.yes (by assumption)
      have hb5 := tsum_le (J5.inv.same.rect gl) g10 (by have := J5.inv.same.len; omega) J5.inv.rng
      exact ⟨_, _, ⟨l5, _, rfl, rfl, by exact J5.tab, by exact J5.inv, by exact hfr5, by rw [hfr _ (by simp)]; exact hq1, by exact Nat.le_trans hH1 (by rw [J5.size]; simp), by intro i hi; exact hn5 i (by omega)⟩, by rfl, by omega⟩
    · try simp only [decide_eq_true_eq, decide_eq_false_iff_not, Bool.not_eq_true', Bool.not_eq_false', beq_iff_eq, beq_eq_false_iff_ne, ne_eq] at h2
      refine at_exit rfl ?_
      refine then_x ?_
      refine then_x ?_
      refine blk_x ?_
      refine then_n ?_
      refine at_seq rfl ?_
      refine rg rfl ?_
      have hlen5 := J5.len
      have hfr : ∀ q, q < (H ++ [some [rowsAV rows]] ++ [some [AV.v (.slice none 0 0)]]).length → hget H6 q = hget H1 q := fun q hq => by
        rw [J5.frame q (fun i hi => by have := T1.low i (by omega); omega), hget_low _ _ _ (by omega)]
      have hfr5 : hget H6 ((H ++ [some [rowsAV rows]] ++ [some [AV.v (.slice none 0 0)]]) ++ X).length = some [.own 1 b 0 rows.length] := by
        rw [J5.frame _ (fun i hi => (hn5 i (by omega)).symm), hget_low _ _ _ (hget_lt hp5), hl1]; exact hp5
      have hp5 := hfr5
      have hq6 : hget H6 (H ++ [some [rowsAV rows]]).length = some [AV.v (.slice none 0 0)] := by rw [hfr _ (by simp)]; exact hq1
      have hq7 := hget_lt hq6
      have hno := J5.no h2
      have hcl : Closed l5 := closed_raised hraw J5.inv fun u w h0 hu hw => hno.2 u w h0 hu hw
      have hl5 : l5.length = rows.length := by have := J5.inv.same.len; omega
      refine R_q rfl (by simp (disch := first | omega | (simp only [List.length_map, List.length_append, List.length_set, List.length_cons, List.length_nil, List.length_take, List.length_drop]; omega)) only [go_sem, ↓reduceIte, Nat.reduceEqDiff, reduceCtorEq, hp5]; rfl) ?_
      refine R_store ty24 (by simp (disch := first | omega | (simp only [List.length_map, List.length_append, List.length_set, List.length_cons, List.length_nil, List.length_take, List.length_drop]; omega)) only [go_sem, ↓reduceIte, Nat.reduceEqDiff, reduceCtorEq]; rfl) (by simp (disch := first | omega | (simp only [List.length_map, List.length_append, List.length_set, List.length_cons, List.length_nil, List.length_take, List.length_drop]; omega)) only [go_sem, ↓reduceIte, Nat.reduceEqDiff, reduceCtorEq]; rfl) hq6 (by simp) (by rfl) (by rfl) ?_
      refine Rq ?_
      have tr : ∀ y0 y1 y2 y3 y4 y5 y9 y15 z0 z1 : AV, trim [(3, z1), (16, z0), (0, y0), (1, y1), (2, y2), (3, y3), (4, y4), (5, y5), (9, y9), (15, y15)] [(0, y0), (1, y1), (2, y2), (3, y3), (4, y4), (5, y5), (9, y9), (15, y15)] = [(0, y0), (1, y1), (2, y2), (3, z1), (4, y4), (5, y5), (9, y9), (15, y15)] := fun y0 y1 y2 y3 y4 y5 y9 y15 z0 z1 => rfl
      refine R_nil (tr _ _ _ _ _ _ _ _ _ _) ?_; clear tr
      refine then_n ?_
      refine at_ret rfl ?_
      refine fin_pure (rs := [.cell 2 24, .tmp 3]) rfl (l := [.agg [.own 1 b 0 rows.length], AV.i 0]) (by simp only [go_sem, ↓reduceIte, Nat.reduceEqDiff, hget_set_self _ _ _ hq7]; rfl) (by rewrite [← hl5]; simp only [go_sem, (J5.tab.other (H ++ [some [rowsAV rows]]).length _ (by simp)).frz H.length 3 (by simp)]; rfl) ?_
      exact ⟨rfl, fun h => absurd hraw h, fun _ => ⟨l5, rfl, J5.inv, hcl⟩⟩

end Go.Proofs.Ytdkhgpdojjdadaa
