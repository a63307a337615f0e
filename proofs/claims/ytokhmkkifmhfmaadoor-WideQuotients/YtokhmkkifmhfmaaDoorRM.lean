/-
  Walks of chapter 2. The steps are written by program (walk.py).
-/
import Derived.Test.YtokhmkkifmhfmaaDoorD128
set_option linter.unusedSimpArgs false
set_option linter.unusedVariables false
set_option maxHeartbeats 1000000
set_option maxRecDepth 20000
namespace Go.Proofs.YtokhmkkifmhfmaaDoor
open Go Go.Am
abbrev lc_incr_ok (a b c d e f g : AV) : Env := [(0,a),(1,b),(2,c),(3,d),(4,e),(5,f),(15,g)]
theorem incr_ok (lim : Nat) (H : Heap) (m : Int) (hm : 0 ≤ m ∧ m ≤ 170141183460469231731687303715884105728) : ACall sig lim 43 [lv m] H fun r H' => r = lv (m + 1) ∧ H' = H := by
 refine ACall_pure (fa := fa43) rfl rfl rfl rfl ?_
 have tr : ∀ a0 : AV, env0 fa43.keep [a0] = [(0,a0),(1,.any),(2,.any),(3,.any),(4,.any),(5,.any),(15,.any)] := fun a0 => rfl
 refine W_to (tr _) ?_; clear tr
 refine at_seq rfl ?_
 refine rg rfl ?_
 refine A_box rfl (by simp (disch := first | omega | (simp only [List.length_map, List.length_append, List.length_set, List.length_cons, List.length_nil]; omega)) only [go_sem, ↓reduceIte, Nat.reduceEqDiff, reduceCtorEq]; rfl) ?_
 intro H1 n1
 have en1 := n1.len
 have q1 := n1.new
 refine A_alloc rfl ?_
 intro H2 n2
 have en2 := n2.len
 have q1 := (n2.old _ (hget_lt q1)).trans q1
 have q2 := n2.new
 have tr : ∀ a b c d e f g h i : AV, let l := lc_incr_ok a b c d e f g; trim ((2,i)::(1,h)::l) l = [(0,a),(1,h),(2,i),(3,d),(4,e),(5,f),(15,g)] := by intros; rfl
 refine R_nil (tr ..) ?_; clear tr
 refine then_n ?_
 refine at_seq rfl ?_
 refine at_seq rfl ?_
 refine rg rfl ?_
 refine Rq ?_
 have tr : ∀ a b c d e f g h : AV, let l := lc_incr_ok a b c d e f g; trim ((4,h)::l) l = [(0,a),(1,b),(2,c),(3,d),(4,h),(5,f),(15,g)] := by intros; rfl
 refine R_nil (tr ..) ?_; clear tr
 refine then_n ?_
 refine at_block rfl ?_
 refine loop_n rfl (fun mm kv H' => ∃ i : Nat, ∃ l : List Int, ∃ x3 x5 x15 : AV, (kv = [(3, x3), (4, AV.i i), (5, x5), (15, x15)]) ∧ (mm = 4 - i) ∧ (i ≤ 4) ∧ (hget H' H.length = some (l.map u6)) ∧ (hget H' H1.length = some ([0, 0, 0, 0].map u6)) ∧ (l.length = 4) ∧ (∀ j, j < 4 → 0 ≤ gt l j ∧ gt l j ≤ 4294967295) ∧ (val l = m + 1 - pw i)) ⟨0, lm m, _, _, _, rfl, rfl, by omega, by exact q1, by exact q2, by rfl, by exact lm_rng m, by (rw [val_lm (by omega)]; show m = m + 1 - 1; omega)⟩ (by rfl) ?_
 rintro mm kv HO ⟨i, l, x3, x5, x15, rfl, rfl, hi, q1, q2, hl, hr, hv⟩
 have tr : ∀ a b c d e f g h i j k : AV, upd [(0,a),(1,b),(2,c),(3,d),(4,e),(5,f),(15,g)] [(3,h),(4,i),(5,j),(15,k)] = [(0,a),(1,b),(2,c),(3,h),(4,i),(5,j),(15,k)] := by intros; rfl
 refine W_to (tr ..) ?_; clear tr
 refine at_seq rfl ?_
 refine rg rfl ?_
 refine Rq ?_
 have tr : ∀ a b c d e f g h : AV, let l := lc_incr_ok a b c d e f g; trim ((5,h)::l) l = [(0,a),(1,b),(2,c),(3,d),(4,e),(5,h),(15,g)] := by intros; rfl
 refine R_nil (tr ..) ?_; clear tr
 refine then_n ?_
 refine at_seq rfl ?_
 refine cdd (fun h1 => ?_) (fun h1 => ?_)
 ·
  try simp only [decide_eq_true_eq, decide_eq_false_iff_not, decide_eq_decide, Bool.not_eq_true', Bool.not_eq_false', beq_iff_eq, beq_eq_false_iff_ne, ne_eq, Bool.and_eq_true, Bool.and_eq_false_iff, decide_not] at h1
  refine at_skip rfl ?_
  refine then_n ?_
  refine at_seq rfl ?_
  refine at_block rfl ?_
  refine at_seq rfl ?_
  refine rg rfl ?_
  refine Rq ?_
  refine Rq ?_
  have tr : ∀ a b c d e f g h i : AV, let l := lc_incr_ok a b c d e f g; trim ((3,i)::(6,h)::l) l = [(0,a),(1,b),(2,c),(3,i),(4,e),(5,f),(15,g)] := by intros; rfl
  refine R_nil (tr ..) ?_; clear tr
  refine then_n ?_
  refine at_seq rfl ?_
  refine rg rfl ?_
  have hx0 := hr i (by omega)
  refine Rq ?_
  refine Rq ?_
  refine R_q rfl (by simp (disch := first | omega | (simp only [List.length_map, List.length_append, List.length_set, List.length_cons, List.length_nil]; omega)) only [go_sem, ↓reduceIte, Nat.reduceEqDiff, reduceCtorEq, q1]; rfl) ?_
  refine Rq ?_
  refine Rq ?_
  have lq1 := hget_lt q1
  have lq2 := hget_lt q2
  refine A_store ty22 (by simp (disch := first | omega | (simp only [List.length_map, List.length_append, List.length_set, List.length_cons, List.length_nil]; omega)) only [go_sem, ↓reduceIte, Nat.reduceEqDiff, reduceCtorEq] <;> rfl) (by simp (disch := first | omega | (simp only [List.length_map, List.length_append, List.length_set, List.length_cons, List.length_nil]; omega)) only [go_sem, ↓reduceIte, Nat.reduceEqDiff, reduceCtorEq] <;> rfl) q1 ⟨by omega, rfl, by simp only [List.length_map]; omega⟩ (k' := (l.set i (gt l i + 1)).map u6) (by show List.set _ _ _ = _; rw [List.map_set]) ?_
  intro H4 w4
  have q1 := w4.new
  have q2 := (w4.old _ (by omega)).trans q2
  have hls : (l.set i (gt l i + 1)).length = 4 := by rw [List.length_set]; exact hl
  have hgi : gt (l.set i (gt l i + 1)) i = gt l i + 1 := by rw [gt_set _ _ _ _ (by omega), if_pos rfl]
  have tr : ∀ a b c d e f g h i j k m : AV, let l := lc_incr_ok a b c d e f g; trim ((11,m)::(10,k)::(9,j)::(8,i)::(7,h)::l) l = [(0,a),(1,b),(2,c),(3,d),(4,e),(5,f),(15,g)] := by intros; rfl
  refine R_nil (tr ..) ?_; clear tr
  refine then_n ?_
  refine at_seq rfl ?_
  refine at_seq rfl ?_
  refine rg rfl ?_
  refine Rq ?_
  refine Rq ?_
  refine R_q rfl (by simp (disch := first | omega | (simp only [List.length_map, List.length_append, List.length_set, List.length_cons, List.length_nil]; omega)) only [go_sem, ↓reduceIte, Nat.reduceEqDiff, reduceCtorEq, q1, hgi]; rfl) ?_
  refine Rq ?_
  have tr : ∀ a b c d e f g h i j k : AV, let l := lc_incr_ok a b c d e f g; trim ((15,k)::(14,j)::(13,i)::(12,h)::l) l = [(0,a),(1,b),(2,c),(3,d),(4,e),(5,f),(15,k)] := by intros; rfl
  refine R_nil (tr ..) ?_; clear tr
  refine then_n ?_
  refine cdd (fun h2 => ?_) (fun h2 => ?_)
  ·
   try simp only [decide_eq_true_eq, decide_eq_false_iff_not, decide_eq_decide, Bool.not_eq_true', Bool.not_eq_false', beq_iff_eq, beq_eq_false_iff_ne, ne_eq, Bool.and_eq_true, Bool.and_eq_false_iff, decide_not] at h2
   refine at_seq rfl ?_
   refine rg rfl ?_
   have hit := inc_hit hl hr hv (by omega) (by omega)
   rw [hit] at q1
   have q1 : hget H4 H.length = some [u6 ((m + 1) % 4294967296), u6 ((m + 1) / 4294967296 % 4294967296), u6 ((m + 1) / 18446744073709551616 % 4294967296), u6 ((m + 1) / 79228162514264337593543950336 % 4294967296)] := q1
   have q2 : hget H4 H1.length = some [u6 0, u6 0, u6 0, u6 0] := q2
   refine R_q rfl (by simp (disch := first | omega | (simp only [List.length_map, List.length_append, List.length_set, List.length_cons, List.length_nil]; omega)) only [go_sem, ↓reduceIte, Nat.reduceEqDiff, reduceCtorEq, q1]; rfl) ?_
   have lq1 := hget_lt q1
   have lq2 := hget_lt q2
   refine A_store ty57 (by simp (disch := first | omega | (simp only [List.length_map, List.length_append, List.length_set, List.length_cons, List.length_nil]; omega)) only [go_sem, ↓reduceIte, Nat.reduceEqDiff, reduceCtorEq] <;> rfl) (by simp (disch := first | omega | (simp only [List.length_map, List.length_append, List.length_set, List.length_cons, List.length_nil]; omega)) only [go_sem, ↓reduceIte, Nat.reduceEqDiff, reduceCtorEq] <;> rfl) q2 ⟨by omega, rfl, by decide⟩ (k' := (lm (m + 1)).map u6) rfl ?_
   intro H6 w6
   have q6 : hget H6 H1.length = some [u6 ((m + 1) % 4294967296), u6 ((m + 1) / 4294967296 % 4294967296), u6 ((m + 1) / 18446744073709551616 % 4294967296), u6 ((m + 1) / 79228162514264337593543950336 % 4294967296)] := w6.new
   have tr : ∀ a b c d e f g h : AV, let l := lc_incr_ok a b c d e f g; trim ((16,h)::l) l = [(0,a),(1,b),(2,c),(3,d),(4,e),(5,f),(15,g)] := by intros; rfl
   refine R_nil (tr ..) ?_; clear tr
   refine then_n ?_
   refine at_ret rfl ?_
   refine then_r ?_
   refine blk_r ?_
   refine then_r ?_
   refine then_r ?_
   refine blk_r ?_
   refine then_r ?_
   refine fin_pure (rs := [.cell 2 57]) rfl (by first | (simp (disch := first | omega | (simp only [List.length_map, List.length_append, List.length_set, List.length_cons, List.length_nil]; omega)) only [go_sem, ↓reduceIte, Nat.reduceEqDiff, reduceCtorEq, q6] <;> rfl) | rfl) (by first | rfl | (simp (disch := first | omega | (simp only [List.length_map, List.length_append, List.length_set, List.length_cons, List.length_nil]; omega)) only [go_sem, ↓reduceIte, Nat.reduceEqDiff, reduceCtorEq] <;> rfl)) ?_
   refine ⟨?_, rfl⟩
   exact lv_eq rfl rfl rfl rfl
  ·
   try simp only [decide_eq_true_eq, decide_eq_false_iff_not, decide_eq_decide, Bool.not_eq_true', Bool.not_eq_false', beq_iff_eq, beq_eq_false_iff_ne, ne_eq, Bool.and_eq_true, Bool.and_eq_false_iff, decide_not] at h2
   refine at_skip rfl ?_
   refine then_n ?_
   refine rg rfl ?_
   have hx : ¬ gt l i + 1 ≤ 4294967295 := by omega
   refine Rq ?_
   refine Rq ?_
   have lq1 := hget_lt q1
   have lq2 := hget_lt q2
   refine A_store ty22 (by simp (disch := first | omega | (simp only [List.length_map, List.length_append, List.length_set, List.length_cons, List.length_nil]; omega)) only [go_sem, ↓reduceIte, Nat.reduceEqDiff, reduceCtorEq] <;> rfl) (by simp (disch := first | omega | (simp only [List.length_map, List.length_append, List.length_set, List.length_cons, List.length_nil]; omega)) only [go_sem, ↓reduceIte, Nat.reduceEqDiff, reduceCtorEq] <;> rfl) q1 ⟨by omega, rfl, by simp only [List.length_map]; omega⟩ (k' := (l.set i 0).map u6) (by show List.set _ _ _ = _; rw [← List.map_set]; simp [List.set_set]) ?_
   intro H5 w5
   have tr : ∀ a b c d e f g h i : AV, let l := lc_incr_ok a b c d e f g; trim ((18,i)::(17,h)::l) l = [(0,a),(1,b),(2,c),(3,d),(4,e),(5,f),(15,g)] := by intros; rfl
   refine R_nil (tr ..) ?_; clear tr
   refine blk_n ?_
   refine then_n ?_
   refine rg rfl ?_
   refine Rq ?_
   refine Rq ?_
   have tr : ∀ a b c d e f g h i : AV, let l := lc_incr_ok a b c d e f g; trim ((4,i)::(19,h)::l) l = [(0,a),(1,b),(2,c),(3,d),(4,i),(5,f),(15,g)] := by intros; rfl
   refine R_nil (tr ..) ?_; clear tr
   refine then_n ?_
   exact ⟨_, _, ⟨i + 1, l.set i 0, _, _, _, rfl, rfl, by omega, by exact w5.new, by exact (w5.old _ (by omega)).trans q2, by (rw [List.length_set]; exact hl), by (intro j hj; rw [gt_set _ _ _ _ (by omega)]; split; omega; exact hr j hj), by exact inc_miss hl hr hv (by omega) hx⟩, by rfl, by omega⟩
 ·
  try simp only [decide_eq_true_eq, decide_eq_false_iff_not, decide_eq_decide, Bool.not_eq_true', Bool.not_eq_false', beq_iff_eq, beq_eq_false_iff_ne, ne_eq, Bool.and_eq_true, Bool.and_eq_false_iff, decide_not] at h1
  refine at_exit rfl ?_
  refine then_x ?_
  refine then_x ?_
  refine blk_x ?_
  refine then_n ?_
  refine at_seq rfl ?_
  refine rg rfl ?_
  exfalso; obtain rfl : i = 4 := by omega
  have := val_nn hl hr
  rw [pw4] at hv
  omega

end Go.Proofs.YtokhmkkifmhfmaaDoor
