/-
  Walks of the seat of TopReserve. The steps are written by program (walk.py).
-/
import Derived.Test.YtkjgmpjnhfmecaaMe
import Derived.Test.YtkjgmpjnhfmecaaSig
set_option linter.unusedSimpArgs false
set_option linter.unusedVariables false
set_option maxHeartbeats 40000000
set_option maxRecDepth 4000
namespace Go.Proofs.Ytkjgmpjnhfmecaa
open Go Go.Am

abbrev lc_taken_ok (a b c d e f g h i j : AV) : Env := [(0,a),(1,b),(2,c),(6,d),(8,e),(9,f),(10,g),(11,h),(12,i),(24,j)]
theorem taken_ok (lim : Nat) (H : Heap) (x x' : AV) (P : List Pd) (hx : frz H 0 8 x = x') (hP : AnyP x' P) (hPl : P.length ≤ 400) (g d : Int) :
    ACall sig lim 14 [x, AV.i g, AV.i d] H fun r H' => r = .v (.bool (tkB P g d)) ∧ H' = H := by
 have hargs : [x, AV.i g, AV.i d].map (frz H 0 8) = [x', AV.i g, AV.i d] := by
   show [frz H 0 8 x, frz H 0 8 (AV.i g), frz H 0 8 (AV.i d)] = _
   rw [hx]
   try rfl
 have q8 : True := trivial
 refine ACall_data (fa := fa14) rfl rfl rfl rfl hargs ?_
 have tr : ∀ a0 a1 a2 : AV, env0 fa14.keep [a0, a1, a2] = [(0,a0),(1,a1),(2,a2),(6,.any),(8,.any),(9,.any),(10,.any),(11,.any),(12,.any),(24,.any)] := fun a0 a1 a2 => rfl
 refine W_to (tr _ _ _) ?_; clear tr
 refine at_seq rfl ?_
 refine rg rfl ?_
 refine Rq ?_
 have tr : ∀ a b c d e f g h i j k : AV, let l := lc_taken_ok a b c d e f g h i j; trim ((6,k)::l) l = [(0,a),(1,b),(2,c),(6,k),(8,e),(9,f),(10,g),(11,h),(12,i),(24,j)] := by intros; rfl
 refine R_nil (tr ..) ?_; clear tr
 refine then_n ?_
 refine at_seq rfl ?_
 refine at_seq rfl ?_
 refine rg rfl ?_
 refine Rq ?_
 refine R_q (r := AV.i (P.length : Nat)) rfl (by simp (disch := first | omega | (simp only [List.length_map, List.length_append, List.length_set, List.length_cons, List.length_nil]; omega)) only [go_sem, ↓reduceIte, Nat.reduceEqDiff, reduceCtorEq]; exact hP.len) ?_
 refine Rq ?_
 have tr : ∀ a b c d e f g h i j k m n : AV, let l := lc_taken_ok a b c d e f g h i j; trim ((11,n)::(10,m)::(9,k)::l) l = [(0,a),(1,b),(2,c),(6,d),(8,e),(9,k),(10,m),(11,n),(12,i),(24,j)] := by intros; rfl
 refine R_nil (tr ..) ?_; clear tr
 refine then_n ?_
 refine at_block rfl ?_
 refine loop_n rfl (fun mm kv H' => ∃ u : Nat, ∃ x6 x8 x12 x24 : AV, (kv = [(6, x6), (8, x8), (11, AV.i u), (12, x12), (24, x24)]) ∧ (mm = P.length - u) ∧ (u ≤ P.length) ∧ (∀ i, i < u → ¬ ((gt P i).g = g ∧ (gt P i).d = d))) ⟨0, _, _, _, _, rfl, rfl, by omega, by intro i hi; omega⟩ (by rfl) ?_
 rintro mm kv HL ⟨u, x6, x8, x12, x24, rfl, rfl, hu, hk⟩
 have tr : ∀ a b c d e f g h i j k m n o p : AV, upd [(0,a),(1,b),(2,c),(6,d),(8,e),(9,f),(10,g),(11,h),(12,i),(24,j)] [(6,k),(8,m),(11,n),(12,o),(24,p)] = [(0,a),(1,b),(2,c),(6,k),(8,m),(9,f),(10,g),(11,n),(12,o),(24,p)] := by intros; rfl
 refine W_to (tr ..) ?_; clear tr
 refine at_seq rfl ?_
 refine rg rfl ?_
 refine Rq ?_
 have tr : ∀ a b c d e f g h i j k : AV, let l := lc_taken_ok a b c d e f g h i j; trim ((12,k)::l) l = [(0,a),(1,b),(2,c),(6,d),(8,e),(9,f),(10,g),(11,h),(12,k),(24,j)] := by intros; rfl
 refine R_nil (tr ..) ?_; clear tr
 refine then_n ?_
 refine at_seq rfl ?_
 refine cdd (fun h1 => ?_) (fun h1 => ?_)
 ·
  try simp only [decide_eq_true_eq, decide_eq_false_iff_not, Bool.not_eq_true', Bool.not_eq_false', beq_iff_eq, beq_eq_false_iff_ne, ne_eq] at h1
  refine at_skip rfl ?_
  refine then_n ?_
  refine at_seq rfl ?_
  refine at_block rfl ?_
  refine at_seq rfl ?_
  refine rg rfl ?_
  obtain rfl := hP.sl (by omega)
  refine Rq ?_
  refine R_q rfl (by simp (disch := first | omega | (simp only [List.length_map, List.length_append, List.length_set, List.length_cons, List.length_nil]; omega)) only [go_sem, ↓reduceIte, Nat.reduceEqDiff, reduceCtorEq, q8]; rfl) ?_
  
  refine A_alloc rfl ?_
  intro H4 n4
  have en4 := n4.len
  have q8 := n4.new
  have lq8 := hget_lt q8
  refine A_store ty39 (by simp (disch := first | omega | (simp only [List.length_map, List.length_append, List.length_set, List.length_cons, List.length_nil]; omega)) only [go_sem, ↓reduceIte, Nat.reduceEqDiff, reduceCtorEq, q8] <;> rfl) (by simp (disch := first | omega | (simp only [List.length_map, List.length_append, List.length_set, List.length_cons, List.length_nil]; omega)) only [go_sem, ↓reduceIte, Nat.reduceEqDiff, reduceCtorEq, q8] <;> rfl) q8 ⟨by omega, rfl, by first | exact Nat.le_refl _ | simp⟩ (k' := pdC (gt P u)) rfl ?_
  intro H4w w4
  have ew4 := w4.len
  have q8 := w4.new
  have tr : ∀ a b c d e f g h i j k m n : AV, let l := lc_taken_ok a b c d e f g h i j; trim ((8,n)::(14,m)::(13,k)::l) l = [(0,a),(1,b),(2,c),(6,d),(8,n),(9,f),(10,g),(11,h),(12,i),(24,j)] := by intros; rfl
  refine R_nil (tr ..) ?_; clear tr
  refine then_n ?_
  refine at_seq rfl ?_
  refine rg rfl ?_
  refine Rq ?_
  refine R_q rfl (by simp (disch := first | omega | (simp only [List.length_map, List.length_append, List.length_set, List.length_cons, List.length_nil]; omega)) only [go_sem, ↓reduceIte, Nat.reduceEqDiff, reduceCtorEq, q8]; rfl) ?_
  refine Rq ?_
  refine Rq ?_
  refine Rq ?_
  refine Rp_split (fun h2 => ?_) (fun h2 => ?_)
  ·
   try simp only [decide_eq_true_eq, decide_eq_false_iff_not, Bool.not_eq_true', Bool.not_eq_false', beq_iff_eq, beq_eq_false_iff_ne, ne_eq] at h2
   refine Ry ?_
   refine Rq ?_
   refine Ry ?_
   refine R_q rfl (by simp (disch := first | omega | (simp only [List.length_map, List.length_append, List.length_set, List.length_cons, List.length_nil]; omega)) only [go_sem, ↓reduceIte, Nat.reduceEqDiff, reduceCtorEq, q8]; rfl) ?_
   refine Ry ?_
   refine Rq ?_
   refine Ry ?_
   refine Rq ?_
   refine Rq ?_
   have tr : ∀ a b c d e f g h i j k m n o p q r s t u : AV, let l := lc_taken_ok a b c d e f g h i j; trim ((24,u)::(23,t)::(22,s)::(21,r)::(20,q)::(19,p)::(18,o)::(17,n)::(16,m)::(15,k)::l) l = [(0,a),(1,b),(2,c),(6,d),(8,e),(9,f),(10,g),(11,h),(12,i),(24,u)] := by intros; rfl
   refine R_nil (tr ..) ?_; clear tr
   refine then_n ?_
   refine cdd (fun h3 => ?_) (fun h3 => ?_)
   ·
    try simp only [decide_eq_true_eq, decide_eq_false_iff_not, Bool.not_eq_true', Bool.not_eq_false', beq_iff_eq, beq_eq_false_iff_ne, ne_eq] at h3
    refine at_seq rfl ?_
    refine rg rfl ?_
    refine Rq ?_
    have tr : ∀ a b c d e f g h i j k : AV, let l := lc_taken_ok a b c d e f g h i j; trim ((6,k)::l) l = [(0,a),(1,b),(2,c),(6,k),(8,e),(9,f),(10,g),(11,h),(12,i),(24,j)] := by intros; rfl
    refine R_nil (tr ..) ?_; clear tr
    refine then_n ?_
    refine at_ret rfl ?_
    refine blk_r ?_
    refine then_r ?_
    refine then_r ?_
    refine blk_r ?_
    refine then_r ?_
    refine fpure ?_
    refine ⟨rfl, ?_, rfl⟩
    first | (rw [tkB_T (u := u) (by omega) (by assumption) (by assumption)]; done) | (rw [tkB_F fun i hi => hk i (by omega)]; done)
   ·
    try simp only [decide_eq_true_eq, decide_eq_false_iff_not, Bool.not_eq_true', Bool.not_eq_false', beq_iff_eq, beq_eq_false_iff_ne, ne_eq] at h3
    refine at_skip rfl ?_
    refine blk_n ?_
    refine then_n ?_
    refine rg rfl ?_
    refine Rq ?_
    refine Rq ?_
    have tr : ∀ a b c d e f g h i j k m : AV, let l := lc_taken_ok a b c d e f g h i j; trim ((11,m)::(25,k)::l) l = [(0,a),(1,b),(2,c),(6,d),(8,e),(9,f),(10,g),(11,m),(12,i),(24,j)] := by intros; rfl
    refine R_nil (tr ..) ?_; clear tr
    refine then_n ?_
    exact ⟨_, _, ⟨u + 1, _, _, _, _, rfl, rfl, by omega, by exact all_step hk (by rintro ⟨a1, a2⟩; first | contradiction | omega)⟩, by rfl, by omega⟩
  ·
   try simp only [decide_eq_true_eq, decide_eq_false_iff_not, Bool.not_eq_true', Bool.not_eq_false', beq_iff_eq, beq_eq_false_iff_ne, ne_eq] at h2
   refine Rn ?_
   refine Rn ?_
   refine Rn ?_
   refine Rn ?_
   refine Rq ?_
   have tr : ∀ a b c d e f g h i j k m n o p q r s t u : AV, let l := lc_taken_ok a b c d e f g h i j; trim ((24,u)::(23,t)::(22,s)::(21,r)::(20,q)::(19,p)::(18,o)::(17,n)::(16,m)::(15,k)::l) l = [(0,a),(1,b),(2,c),(6,d),(8,e),(9,f),(10,g),(11,h),(12,i),(24,u)] := by intros; rfl
   refine R_nil (tr ..) ?_; clear tr
   refine then_n ?_
   refine cdf ?_
   refine at_skip rfl ?_
   refine blk_n ?_
   refine then_n ?_
   refine rg rfl ?_
   refine Rq ?_
   refine Rq ?_
   have tr : ∀ a b c d e f g h i j k m : AV, let l := lc_taken_ok a b c d e f g h i j; trim ((11,m)::(25,k)::l) l = [(0,a),(1,b),(2,c),(6,d),(8,e),(9,f),(10,g),(11,m),(12,i),(24,j)] := by intros; rfl
   refine R_nil (tr ..) ?_; clear tr
   refine then_n ?_
   exact ⟨_, _, ⟨u + 1, _, _, _, _, rfl, rfl, by omega, by exact all_step hk (by rintro ⟨a1, a2⟩; first | contradiction | omega)⟩, by rfl, by omega⟩
 ·
  try simp only [decide_eq_true_eq, decide_eq_false_iff_not, Bool.not_eq_true', Bool.not_eq_false', beq_iff_eq, beq_eq_false_iff_ne, ne_eq] at h1
  refine at_exit rfl ?_
  refine then_x ?_
  refine then_x ?_
  refine blk_x ?_
  refine then_n ?_
  refine at_seq rfl ?_
  refine rg rfl ?_
  refine Rq ?_
  have tr : ∀ a b c d e f g h i j k : AV, let l := lc_taken_ok a b c d e f g h i j; trim ((6,k)::l) l = [(0,a),(1,b),(2,c),(6,k),(8,e),(9,f),(10,g),(11,h),(12,i),(24,j)] := by intros; rfl
  refine R_nil (tr ..) ?_; clear tr
  refine then_n ?_
  refine at_ret rfl ?_
  refine fpure ?_
  refine ⟨rfl, ?_, rfl⟩
  first | (rw [tkB_T (u := u) (by omega) (by assumption) (by assumption)]; done) | (rw [tkB_F fun i hi => hk i (by omega)]; done)

abbrev lc_inside_ok (a b c d e f g h i j k : AV) : Env := [(0,a),(1,b),(3,c),(4,d),(5,e),(7,f),(8,g),(9,h),(10,i),(11,j),(25,k)]
theorem inside_ok (lim : Nat) (H : Heap) (x x' : AV) (J : List Jb) (hx : frz H 0 8 x = x') (hJ : AnyJ x' J) (hJl : J.length ≤ 400) (a b : Int) :
    ACall sig lim 22 [x, .agg [AV.i a, AV.i b]] H fun r H' => r = AV.i (ins J a b) ∧ H' = H := by
 have hargs : [x, .agg [AV.i a, AV.i b]].map (frz H 0 8) = [x', .agg [AV.i a, AV.i b]] := by
   show [frz H 0 8 x, frz H 0 8 (.agg [AV.i a, AV.i b])] = _
   rw [hx]
   try rfl
 have q3 : True := trivial
 have q7 : True := trivial
 refine ACall_data (fa := fa22) rfl rfl rfl rfl hargs ?_
 have tr : ∀ a0 a1 : AV, env0 fa22.keep [a0, a1] = [(0,a0),(1,a1),(3,.any),(4,.any),(5,.any),(7,.any),(8,.any),(9,.any),(10,.any),(11,.any),(25,.any)] := fun a0 a1 => rfl
 refine W_to (tr _ _) ?_; clear tr
 refine at_seq rfl ?_
 refine rg rfl ?_
 refine A_box rfl (by simp (disch := first | omega | (simp only [List.length_map, List.length_append, List.length_set, List.length_cons, List.length_nil]; omega)) only [go_sem, ↓reduceIte, Nat.reduceEqDiff, reduceCtorEq]; rfl) ?_
 intro H1 n1
 have en1 := n1.len
 have q3 := n1.new
 refine Rq ?_
 have tr : ∀ a b c d e f g h i j k m n : AV, let l := lc_inside_ok a b c d e f g h i j k; trim ((4,n)::(3,m)::l) l = [(0,a),(1,b),(3,m),(4,n),(5,e),(7,f),(8,g),(9,h),(10,i),(11,j),(25,k)] := by intros; rfl
 refine R_nil (tr ..) ?_; clear tr
 refine then_n ?_
 refine at_seq rfl ?_
 refine rg rfl ?_
 refine Rq ?_
 have tr : ∀ a b c d e f g h i j k m : AV, let l := lc_inside_ok a b c d e f g h i j k; trim ((5,m)::l) l = [(0,a),(1,b),(3,c),(4,d),(5,m),(7,f),(8,g),(9,h),(10,i),(11,j),(25,k)] := by intros; rfl
 refine R_nil (tr ..) ?_; clear tr
 refine then_n ?_
 refine at_seq rfl ?_
 refine at_seq rfl ?_
 refine rg rfl ?_
 refine Rq ?_
 refine R_q (r := AV.i (J.length : Nat)) rfl (by simp (disch := first | omega | (simp only [List.length_map, List.length_append, List.length_set, List.length_cons, List.length_nil]; omega)) only [go_sem, ↓reduceIte, Nat.reduceEqDiff, reduceCtorEq]; exact hJ.len) ?_
 refine Rq ?_
 have tr : ∀ a b c d e f g h i j k m n o : AV, let l := lc_inside_ok a b c d e f g h i j k; trim ((10,o)::(9,n)::(8,m)::l) l = [(0,a),(1,b),(3,c),(4,d),(5,e),(7,f),(8,m),(9,n),(10,o),(11,j),(25,k)] := by intros; rfl
 refine R_nil (tr ..) ?_; clear tr
 refine then_n ?_
 refine at_block rfl ?_
 refine loop_n rfl (fun mm kv H' => ∃ u : Nat, ∃ n : Int, ∃ x7 x11 x25 : AV, (kv = [(5, AV.i n), (7, x7), (10, AV.i u), (11, x11), (25, x25)]) ∧ (mm = J.length - u) ∧ (u ≤ J.length) ∧ (n = ct (inp J a b) u) ∧ (hget H' 0 = some [AV.i a, AV.i b])) ⟨0, 0, _, _, _, rfl, rfl, by omega, by rfl, by exact q3⟩ (by rfl) ?_
 rintro mm kv HL ⟨u, n, x7, x11, x25, rfl, rfl, hu, hn, q3⟩
 have tr : ∀ a b c d e f g h i j k m n o p q : AV, upd [(0,a),(1,b),(3,c),(4,d),(5,e),(7,f),(8,g),(9,h),(10,i),(11,j),(25,k)] [(5,m),(7,n),(10,o),(11,p),(25,q)] = [(0,a),(1,b),(3,c),(4,d),(5,m),(7,n),(8,g),(9,h),(10,o),(11,p),(25,q)] := by intros; rfl
 refine W_to (tr ..) ?_; clear tr
 have hnb := ct_nn (inp J a b) u
 rewrite [← hn] at hnb
 refine at_seq rfl ?_
 refine rg rfl ?_
 refine Rq ?_
 have tr : ∀ a b c d e f g h i j k m : AV, let l := lc_inside_ok a b c d e f g h i j k; trim ((11,m)::l) l = [(0,a),(1,b),(3,c),(4,d),(5,e),(7,f),(8,g),(9,h),(10,i),(11,m),(25,k)] := by intros; rfl
 refine R_nil (tr ..) ?_; clear tr
 refine then_n ?_
 refine at_seq rfl ?_
 refine cdd (fun h1 => ?_) (fun h1 => ?_)
 ·
  try simp only [decide_eq_true_eq, decide_eq_false_iff_not, Bool.not_eq_true', Bool.not_eq_false', beq_iff_eq, beq_eq_false_iff_ne, ne_eq] at h1
  refine at_skip rfl ?_
  refine then_n ?_
  refine at_seq rfl ?_
  refine at_block rfl ?_
  refine at_seq rfl ?_
  refine rg rfl ?_
  obtain rfl := hJ.sl (by omega)
  refine Rq ?_
  refine R_q rfl (by simp (disch := first | omega | (simp only [List.length_map, List.length_append, List.length_set, List.length_cons, List.length_nil]; omega)) only [go_sem, ↓reduceIte, Nat.reduceEqDiff, reduceCtorEq, q3, q7]; rfl) ?_
  have mq3 := hget_lt q3
  refine A_alloc rfl ?_
  intro H4 n4
  have en4 := n4.len
  have q3 := (n4.old _ (hget_lt q3)).trans q3
  have q7 := n4.new
  have lq3 := hget_lt q3
  have lq7 := hget_lt q7
  refine A_store ty43 (by simp (disch := first | omega | (simp only [List.length_map, List.length_append, List.length_set, List.length_cons, List.length_nil]; omega)) only [go_sem, ↓reduceIte, Nat.reduceEqDiff, reduceCtorEq, q7] <;> rfl) (by simp (disch := first | omega | (simp only [List.length_map, List.length_append, List.length_set, List.length_cons, List.length_nil]; omega)) only [go_sem, ↓reduceIte, Nat.reduceEqDiff, reduceCtorEq, q7] <;> rfl) q7 ⟨by omega, rfl, by first | exact Nat.le_refl _ | simp⟩ (k' := jbC (gt J u)) rfl ?_
  intro H4w w4
  have ew4 := w4.len
  have q3 := (w4.old _ (by omega)).trans q3
  have q7 := w4.new
  have tr : ∀ a b c d e f g h i j k m n o : AV, let l := lc_inside_ok a b c d e f g h i j k; trim ((7,o)::(13,n)::(12,m)::l) l = [(0,a),(1,b),(3,c),(4,d),(5,e),(7,o),(8,g),(9,h),(10,i),(11,j),(25,k)] := by intros; rfl
  refine R_nil (tr ..) ?_; clear tr
  refine then_n ?_
  refine at_seq rfl ?_
  refine rg rfl ?_
  refine Rq ?_
  refine R_q rfl (by simp (disch := first | omega | (simp only [List.length_map, List.length_append, List.length_set, List.length_cons, List.length_nil]; omega)) only [go_sem, ↓reduceIte, Nat.reduceEqDiff, reduceCtorEq, q3, q7]; rfl) ?_
  refine Rq ?_
  refine R_q rfl (by simp (disch := first | omega | (simp only [List.length_map, List.length_append, List.length_set, List.length_cons, List.length_nil]; omega)) only [go_sem, ↓reduceIte, Nat.reduceEqDiff, reduceCtorEq, q3, q7]; rfl) ?_
  refine Rq ?_
  refine Rq ?_
  refine Rp_split (fun h2 => ?_) (fun h2 => ?_)
  ·
   try simp only [decide_eq_true_eq, decide_eq_false_iff_not, Bool.not_eq_true', Bool.not_eq_false', beq_iff_eq, beq_eq_false_iff_ne, ne_eq] at h2
   refine Ry ?_
   refine Rq ?_
   refine Ry ?_
   refine R_q rfl (by simp (disch := first | omega | (simp only [List.length_map, List.length_append, List.length_set, List.length_cons, List.length_nil]; omega)) only [go_sem, ↓reduceIte, Nat.reduceEqDiff, reduceCtorEq, q3, q7]; rfl) ?_
   refine Ry ?_
   refine Rq ?_
   refine Ry ?_
   refine R_q rfl (by simp (disch := first | omega | (simp only [List.length_map, List.length_append, List.length_set, List.length_cons, List.length_nil]; omega)) only [go_sem, ↓reduceIte, Nat.reduceEqDiff, reduceCtorEq, q3, q7]; rfl) ?_
   refine Ry ?_
   refine Rq ?_
   refine Rq ?_
   have tr : ∀ a b c d e f g h i j k m n o p q r s t u v w x : AV, let l := lc_inside_ok a b c d e f g h i j k; trim ((25,x)::(24,w)::(23,v)::(22,u)::(21,t)::(20,s)::(19,r)::(18,q)::(17,p)::(16,o)::(15,n)::(14,m)::l) l = [(0,a),(1,b),(3,c),(4,d),(5,e),(7,f),(8,g),(9,h),(10,i),(11,j),(25,x)] := by intros; rfl
   refine R_nil (tr ..) ?_; clear tr
   refine then_n ?_
   refine cdd (fun h3 => ?_) (fun h3 => ?_)
   ·
    try simp only [decide_eq_true_eq, decide_eq_false_iff_not, Bool.not_eq_true', Bool.not_eq_false', beq_iff_eq, beq_eq_false_iff_ne, ne_eq] at h3
    refine rg rfl ?_
    refine Rq ?_
    refine Rq ?_
    refine Rq ?_
    have tr : ∀ a b c d e f g h i j k m n o : AV, let l := lc_inside_ok a b c d e f g h i j k; trim ((5,o)::(27,n)::(26,m)::l) l = [(0,a),(1,b),(3,c),(4,d),(5,o),(7,f),(8,g),(9,h),(10,i),(11,j),(25,k)] := by intros; rfl
    refine R_nil (tr ..) ?_; clear tr
    refine blk_n ?_
    refine then_n ?_
    refine rg rfl ?_
    refine Rq ?_
    refine Rq ?_
    have tr : ∀ a b c d e f g h i j k m n : AV, let l := lc_inside_ok a b c d e f g h i j k; trim ((10,n)::(28,m)::l) l = [(0,a),(1,b),(3,c),(4,d),(5,e),(7,f),(8,g),(9,h),(10,n),(11,j),(25,k)] := by intros; rfl
    refine R_nil (tr ..) ?_; clear tr
    refine then_n ?_
    exact ⟨_, _, ⟨u + 1, _, _, _, _, rfl, rfl, by omega, by first | exact ct_T hn ⟨by omega, by omega⟩ | exact ct_F hn (fun hh => by have h1 := hh.1; have h2 := hh.2; omega), by exact q3⟩, by rfl, by omega⟩
   ·
    try simp only [decide_eq_true_eq, decide_eq_false_iff_not, Bool.not_eq_true', Bool.not_eq_false', beq_iff_eq, beq_eq_false_iff_ne, ne_eq] at h3
    refine at_skip rfl ?_
    refine blk_n ?_
    refine then_n ?_
    refine rg rfl ?_
    refine Rq ?_
    refine Rq ?_
    have tr : ∀ a b c d e f g h i j k m n : AV, let l := lc_inside_ok a b c d e f g h i j k; trim ((10,n)::(28,m)::l) l = [(0,a),(1,b),(3,c),(4,d),(5,e),(7,f),(8,g),(9,h),(10,n),(11,j),(25,k)] := by intros; rfl
    refine R_nil (tr ..) ?_; clear tr
    refine then_n ?_
    exact ⟨_, _, ⟨u + 1, _, _, _, _, rfl, rfl, by omega, by first | exact ct_T hn ⟨by omega, by omega⟩ | exact ct_F hn (fun hh => by have h1 := hh.1; have h2 := hh.2; omega), by exact q3⟩, by rfl, by omega⟩
  ·
   try simp only [decide_eq_true_eq, decide_eq_false_iff_not, Bool.not_eq_true', Bool.not_eq_false', beq_iff_eq, beq_eq_false_iff_ne, ne_eq] at h2
   refine Rn ?_
   refine Rn ?_
   refine Rn ?_
   refine Rn ?_
   refine Rn ?_
   refine Rq ?_
   have tr : ∀ a b c d e f g h i j k m n o p q r s t u v w x : AV, let l := lc_inside_ok a b c d e f g h i j k; trim ((25,x)::(24,w)::(23,v)::(22,u)::(21,t)::(20,s)::(19,r)::(18,q)::(17,p)::(16,o)::(15,n)::(14,m)::l) l = [(0,a),(1,b),(3,c),(4,d),(5,e),(7,f),(8,g),(9,h),(10,i),(11,j),(25,x)] := by intros; rfl
   refine R_nil (tr ..) ?_; clear tr
   refine then_n ?_
   refine cdf ?_
   refine at_skip rfl ?_
   refine blk_n ?_
   refine then_n ?_
   refine rg rfl ?_
   refine Rq ?_
   refine Rq ?_
   have tr : ∀ a b c d e f g h i j k m n : AV, let l := lc_inside_ok a b c d e f g h i j k; trim ((10,n)::(28,m)::l) l = [(0,a),(1,b),(3,c),(4,d),(5,e),(7,f),(8,g),(9,h),(10,n),(11,j),(25,k)] := by intros; rfl
   refine R_nil (tr ..) ?_; clear tr
   refine then_n ?_
   exact ⟨_, _, ⟨u + 1, _, _, _, _, rfl, rfl, by omega, by first | exact ct_T hn ⟨by omega, by omega⟩ | exact ct_F hn (fun hh => by have h1 := hh.1; have h2 := hh.2; omega), by exact q3⟩, by rfl, by omega⟩
 ·
  try simp only [decide_eq_true_eq, decide_eq_false_iff_not, Bool.not_eq_true', Bool.not_eq_false', beq_iff_eq, beq_eq_false_iff_ne, ne_eq] at h1
  refine at_exit rfl ?_
  refine then_x ?_
  refine then_x ?_
  refine blk_x ?_
  refine then_n ?_
  refine at_seq rfl ?_
  refine rg rfl ?_
  refine Rq ?_
  refine Rq ?_
  have tr : ∀ a b c d e f g h i j k m n : AV, let l := lc_inside_ok a b c d e f g h i j k; trim ((4,n)::(29,m)::l) l = [(0,a),(1,b),(3,c),(4,n),(5,e),(7,f),(8,g),(9,h),(10,i),(11,j),(25,k)] := by intros; rfl
  refine R_nil (tr ..) ?_; clear tr
  refine then_n ?_
  refine at_ret rfl ?_
  refine fpure ?_
  refine ⟨rfl, ?_, rfl⟩
  rw [hn, show u = J.length by omega]; rfl

abbrev lc_room_ok (a b c d e f g h i j k m n o p : AV) : Env := [(0,a),(1,b),(2,c),(3,d),(6,e),(7,f),(8,g),(9,h),(10,i),(16,j),(17,k),(18,m),(19,n),(20,o),(36,p)]
theorem room_ok (lim : Nat) (H : Heap) (y : AV) (cs : List Int) (hy : frz H 0 8 y = intsAV cs) (hcl : cs.length ≤ 400) (h01 : ∀ i, i < cs.length → gt cs i = 0 ∨ gt cs i = 1) (a b first : Int) (g1 : 0 ≤ first ∧ first ≤ 109572) :
    ACall sig lim 23 [.agg [AV.i a, AV.i b], AV.i first, y] H fun r H' => r = AV.i (rm cs first a b cs.length) ∧ H' = H := by
 have hargs : [.agg [AV.i a, AV.i b], AV.i first, y].map (frz H 0 8) = [.agg [AV.i a, AV.i b], AV.i first, intsAV cs] := by
   show [frz H 0 8 (.agg [AV.i a, AV.i b]), frz H 0 8 (AV.i first), frz H 0 8 y] = _
   rw [hy]
   try rfl
 have q3 : True := trivial
 refine ACall_data (fa := fa23) rfl rfl rfl rfl hargs ?_
 have tr : ∀ a0 a1 a2 : AV, env0 fa23.keep [a0, a1, a2] = [(0,a0),(1,a1),(2,a2),(3,.any),(6,.any),(7,.any),(8,.any),(9,.any),(10,.any),(16,.any),(17,.any),(18,.any),(19,.any),(20,.any),(36,.any)] := fun a0 a1 a2 => rfl
 refine W_to (tr _ _ _) ?_; clear tr
 refine at_seq rfl ?_
 refine rg rfl ?_
 refine A_box rfl (by simp (disch := first | omega | (simp only [List.length_map, List.length_append, List.length_set, List.length_cons, List.length_nil]; omega)) only [go_sem, ↓reduceIte, Nat.reduceEqDiff, reduceCtorEq]; rfl) ?_
 intro H1 n1
 have en1 := n1.len
 have q3 := n1.new
 refine Rq ?_
 have tr : ∀ a b c d e f g h i j k m n o p q r : AV, let l := lc_room_ok a b c d e f g h i j k m n o p; trim ((6,r)::(3,q)::l) l = [(0,a),(1,b),(2,c),(3,q),(6,r),(7,f),(8,g),(9,h),(10,i),(16,j),(17,k),(18,m),(19,n),(20,o),(36,p)] := by intros; rfl
 refine R_nil (tr ..) ?_; clear tr
 refine then_n ?_
 refine at_seq rfl ?_
 refine at_seq rfl ?_
 refine rg rfl ?_
 refine Rq ?_
 refine Rq ?_
 refine Rq ?_
 refine Rp_split (fun h1 => ?_) (fun h1 => ?_)
 ·
  try simp only [decide_eq_true_eq, decide_eq_false_iff_not, Bool.not_eq_true', Bool.not_eq_false', beq_iff_eq, beq_eq_false_iff_ne, ne_eq] at h1
  refine Rn ?_
  refine Rn ?_
  refine Rq ?_
  have tr : ∀ a b c d e f g h i j k m n o p q r s t u v : AV, let l := lc_room_ok a b c d e f g h i j k m n o p; trim ((16,v)::(15,u)::(14,t)::(13,s)::(12,r)::(11,q)::l) l = [(0,a),(1,b),(2,c),(3,d),(6,e),(7,f),(8,g),(9,h),(10,i),(16,v),(17,k),(18,m),(19,n),(20,o),(36,p)] := by intros; rfl
  refine R_nil (tr ..) ?_; clear tr
  refine then_n ?_
  refine cdt ?_
  refine at_seq rfl ?_
  refine rg rfl ?_
  refine Rq ?_
  have tr : ∀ a b c d e f g h i j k m n o p q : AV, let l := lc_room_ok a b c d e f g h i j k m n o p; trim ((6,q)::l) l = [(0,a),(1,b),(2,c),(3,d),(6,q),(7,f),(8,g),(9,h),(10,i),(16,j),(17,k),(18,m),(19,n),(20,o),(36,p)] := by intros; rfl
  refine R_nil (tr ..) ?_; clear tr
  refine then_n ?_
  refine at_ret rfl ?_
  refine then_r ?_
  first | (exfalso; omega) | (refine fpure ?_; refine ⟨rfl, ?_, rfl⟩; rw [hn, show u = cs.length by omega])
 ·
  try simp only [decide_eq_true_eq, decide_eq_false_iff_not, Bool.not_eq_true', Bool.not_eq_false', beq_iff_eq, beq_eq_false_iff_ne, ne_eq] at h1
  refine Ry ?_
  refine Rq ?_
  refine Ry ?_
  refine Rq ?_
  refine Rq ?_
  have tr : ∀ a b c d e f g h i j k m n o p q r s t u v : AV, let l := lc_room_ok a b c d e f g h i j k m n o p; trim ((16,v)::(15,u)::(14,t)::(13,s)::(12,r)::(11,q)::l) l = [(0,a),(1,b),(2,c),(3,d),(6,e),(7,f),(8,g),(9,h),(10,i),(16,v),(17,k),(18,m),(19,n),(20,o),(36,p)] := by intros; rfl
  refine R_nil (tr ..) ?_; clear tr
  refine then_n ?_
  refine cdd (fun h2 => ?_) (fun h2 => ?_)
  ·
   try simp only [decide_eq_true_eq, decide_eq_false_iff_not, Bool.not_eq_true', Bool.not_eq_false', beq_iff_eq, beq_eq_false_iff_ne, ne_eq] at h2
   refine at_seq rfl ?_
   refine rg rfl ?_
   refine Rq ?_
   have tr : ∀ a b c d e f g h i j k m n o p q : AV, let l := lc_room_ok a b c d e f g h i j k m n o p; trim ((6,q)::l) l = [(0,a),(1,b),(2,c),(3,d),(6,q),(7,f),(8,g),(9,h),(10,i),(16,j),(17,k),(18,m),(19,n),(20,o),(36,p)] := by intros; rfl
   refine R_nil (tr ..) ?_; clear tr
   refine then_n ?_
   refine at_ret rfl ?_
   refine then_r ?_
   first | (exfalso; omega) | (refine fpure ?_; refine ⟨rfl, ?_, rfl⟩; rw [hn, show u = cs.length by omega])
  ·
   try simp only [decide_eq_true_eq, decide_eq_false_iff_not, Bool.not_eq_true', Bool.not_eq_false', beq_iff_eq, beq_eq_false_iff_ne, ne_eq] at h2
   refine at_skip rfl ?_
   refine then_n ?_
   refine at_seq rfl ?_
   refine rg rfl ?_
   refine Rq ?_
   have tr : ∀ a b c d e f g h i j k m n o p q : AV, let l := lc_room_ok a b c d e f g h i j k m n o p; trim ((7,q)::l) l = [(0,a),(1,b),(2,c),(3,d),(6,e),(7,q),(8,g),(9,h),(10,i),(16,j),(17,k),(18,m),(19,n),(20,o),(36,p)] := by intros; rfl
   refine R_nil (tr ..) ?_; clear tr
   refine then_n ?_
   refine at_seq rfl ?_
   refine at_seq rfl ?_
   refine rg rfl ?_
   refine Rq ?_
   refine Rq ?_
   refine Rq ?_
   have tr : ∀ a b c d e f g h i j k m n o p q r s : AV, let l := lc_room_ok a b c d e f g h i j k m n o p; trim ((19,s)::(18,r)::(17,q)::l) l = [(0,a),(1,b),(2,c),(3,d),(6,e),(7,f),(8,g),(9,h),(10,i),(16,j),(17,q),(18,r),(19,s),(20,o),(36,p)] := by intros; rfl
   refine R_nil (tr ..) ?_; clear tr
   refine then_n ?_
   refine at_block rfl ?_
   refine loop_n rfl (fun mm kv H' => ∃ u : Nat, ∃ n : Int, ∃ x8 x9 x10 x20 x36 : AV, (kv = [(7, AV.i n), (8, x8), (9, x9), (10, x10), (19, AV.i u), (20, x20), (36, x36)]) ∧ (mm = cs.length - u) ∧ (u ≤ cs.length) ∧ (n = rm cs first a b u) ∧ (hget H' 0 = some [AV.i a, AV.i b])) ⟨0, 0, _, _, _, _, _, rfl, rfl, by omega, by rfl, by exact q3⟩ (by rfl) ?_
   rintro mm kv HL ⟨u, n, x8, x9, x10, x20, x36, rfl, rfl, hu, hn, q3⟩
   have tr : ∀ a b c d e f g h i j k m n o p q r s t u v w : AV, upd [(0,a),(1,b),(2,c),(3,d),(6,e),(7,f),(8,g),(9,h),(10,i),(16,j),(17,k),(18,m),(19,n),(20,o),(36,p)] [(7,q),(8,r),(9,s),(10,t),(19,u),(20,v),(36,w)] = [(0,a),(1,b),(2,c),(3,d),(6,e),(7,q),(8,r),(9,s),(10,t),(16,j),(17,k),(18,m),(19,u),(20,v),(36,w)] := by intros; rfl
   refine W_to (tr ..) ?_; clear tr
   have hnb := rm_box h01 (first := first) (a := a) (b := b) u hu
   rewrite [← hn] at hnb
   refine at_seq rfl ?_
   refine rg rfl ?_
   refine Rq ?_
   have tr : ∀ a b c d e f g h i j k m n o p q : AV, let l := lc_room_ok a b c d e f g h i j k m n o p; trim ((20,q)::l) l = [(0,a),(1,b),(2,c),(3,d),(6,e),(7,f),(8,g),(9,h),(10,i),(16,j),(17,k),(18,m),(19,n),(20,q),(36,p)] := by intros; rfl
   refine R_nil (tr ..) ?_; clear tr
   refine then_n ?_
   refine at_seq rfl ?_
   refine cdd (fun h3 => ?_) (fun h3 => ?_)
   ·
    try simp only [decide_eq_true_eq, decide_eq_false_iff_not, Bool.not_eq_true', Bool.not_eq_false', beq_iff_eq, beq_eq_false_iff_ne, ne_eq] at h3
    refine at_skip rfl ?_
    refine then_n ?_
    refine at_seq rfl ?_
    refine at_block rfl ?_
    refine at_seq rfl ?_
    refine rg rfl ?_
    refine Rq ?_
    refine Rq ?_
    have hcu := h01 u (by omega)
    refine R_q (r := AV.i (gt cs u)) rfl (by simp (disch := first | omega | (simp only [List.length_map, List.length_append, List.length_set, List.length_cons, List.length_nil]; omega)) only [go_sem, ↓reduceIte, Nat.reduceEqDiff, reduceCtorEq] <;> exact ints_at cs u (by omega)) ?_
    refine Rq ?_
    refine Rq ?_
    have tr : ∀ a b c d e f g h i j k m n o p q r s t u : AV, let l := lc_room_ok a b c d e f g h i j k m n o p; trim ((9,u)::(8,t)::(23,s)::(22,r)::(21,q)::l) l = [(0,a),(1,b),(2,c),(3,d),(6,e),(7,f),(8,t),(9,u),(10,i),(16,j),(17,k),(18,m),(19,n),(20,o),(36,p)] := by intros; rfl
    refine R_nil (tr ..) ?_; clear tr
    refine then_n ?_
    refine at_seq rfl ?_
    refine rg rfl ?_
    refine Rq ?_
    refine Rq ?_
    refine Rq ?_
    refine Rq ?_
    have tr : ∀ a b c d e f g h i j k m n o p q r s t : AV, let l := lc_room_ok a b c d e f g h i j k m n o p; trim ((10,t)::(26,s)::(25,r)::(24,q)::l) l = [(0,a),(1,b),(2,c),(3,d),(6,e),(7,f),(8,g),(9,h),(10,t),(16,j),(17,k),(18,m),(19,n),(20,o),(36,p)] := by intros; rfl
    refine R_nil (tr ..) ?_; clear tr
    refine then_n ?_
    refine at_seq rfl ?_
    refine rg rfl ?_
    refine Rq ?_
    refine R_q rfl (by simp (disch := first | omega | (simp only [List.length_map, List.length_append, List.length_set, List.length_cons, List.length_nil]; omega)) only [go_sem, ↓reduceIte, Nat.reduceEqDiff, reduceCtorEq, q3]; rfl) ?_
    refine Rq ?_
    refine Rq ?_
    refine Rq ?_
    refine Rp_split (fun h4 => ?_) (fun h4 => ?_)
    ·
     try simp only [decide_eq_true_eq, decide_eq_false_iff_not, Bool.not_eq_true', Bool.not_eq_false', beq_iff_eq, beq_eq_false_iff_ne, ne_eq] at h4
     refine Ry ?_
     refine Rq ?_
     refine Ry ?_
     refine Rq ?_
     refine Ry ?_
     refine R_q rfl (by simp (disch := first | omega | (simp only [List.length_map, List.length_append, List.length_set, List.length_cons, List.length_nil]; omega)) only [go_sem, ↓reduceIte, Nat.reduceEqDiff, reduceCtorEq, q3]; rfl) ?_
     refine Ry ?_
     refine Rq ?_
     refine Rq ?_
     have tr : ∀ a b c d e f g h i j k m n o p q r s t u v w x y z : AV, let l := lc_room_ok a b c d e f g h i j k m n o p; trim ((36,z)::(35,y)::(34,x)::(33,w)::(32,v)::(31,u)::(30,t)::(29,s)::(28,r)::(27,q)::l) l = [(0,a),(1,b),(2,c),(3,d),(6,e),(7,f),(8,g),(9,h),(10,i),(16,j),(17,k),(18,m),(19,n),(20,o),(36,z)] := by intros; rfl
     refine R_nil (tr ..) ?_; clear tr
     refine then_n ?_
     refine cdd (fun h5 => ?_) (fun h5 => ?_)
     ·
      try simp only [decide_eq_true_eq, decide_eq_false_iff_not, Bool.not_eq_true', Bool.not_eq_false', beq_iff_eq, beq_eq_false_iff_ne, ne_eq] at h5
      refine rg rfl ?_
      refine Rq ?_
      refine Rq ?_
      refine Rq ?_
      refine Rq ?_
      have tr : ∀ a b c d e f g h i j k m n o p q r s t : AV, let l := lc_room_ok a b c d e f g h i j k m n o p; trim ((7,t)::(39,s)::(38,r)::(37,q)::l) l = [(0,a),(1,b),(2,c),(3,d),(6,e),(7,t),(8,g),(9,h),(10,i),(16,j),(17,k),(18,m),(19,n),(20,o),(36,p)] := by intros; rfl
      refine R_nil (tr ..) ?_; clear tr
      refine blk_n ?_
      refine then_n ?_
      refine rg rfl ?_
      refine Rq ?_
      refine Rq ?_
      have tr : ∀ a b c d e f g h i j k m n o p q r : AV, let l := lc_room_ok a b c d e f g h i j k m n o p; trim ((19,r)::(40,q)::l) l = [(0,a),(1,b),(2,c),(3,d),(6,e),(7,f),(8,g),(9,h),(10,i),(16,j),(17,k),(18,m),(19,r),(20,o),(36,p)] := by intros; rfl
      refine R_nil (tr ..) ?_; clear tr
      refine then_n ?_
      exact ⟨_, _, ⟨u + 1, _, _, _, _, _, _, rfl, rfl, by omega, by first | exact rm_T hn (by omega) (by omega) | exact rm_F hn (fun hh => by have h1 := hh.1; have h2 := hh.2; omega), by exact q3⟩, by rfl, by omega⟩
     ·
      try simp only [decide_eq_true_eq, decide_eq_false_iff_not, Bool.not_eq_true', Bool.not_eq_false', beq_iff_eq, beq_eq_false_iff_ne, ne_eq] at h5
      refine at_skip rfl ?_
      refine blk_n ?_
      refine then_n ?_
      refine rg rfl ?_
      refine Rq ?_
      refine Rq ?_
      have tr : ∀ a b c d e f g h i j k m n o p q r : AV, let l := lc_room_ok a b c d e f g h i j k m n o p; trim ((19,r)::(40,q)::l) l = [(0,a),(1,b),(2,c),(3,d),(6,e),(7,f),(8,g),(9,h),(10,i),(16,j),(17,k),(18,m),(19,r),(20,o),(36,p)] := by intros; rfl
      refine R_nil (tr ..) ?_; clear tr
      refine then_n ?_
      exact ⟨_, _, ⟨u + 1, _, _, _, _, _, _, rfl, rfl, by omega, by first | exact rm_T hn (by omega) (by omega) | exact rm_F hn (fun hh => by have h1 := hh.1; have h2 := hh.2; omega), by exact q3⟩, by rfl, by omega⟩
    ·
     try simp only [decide_eq_true_eq, decide_eq_false_iff_not, Bool.not_eq_true', Bool.not_eq_false', beq_iff_eq, beq_eq_false_iff_ne, ne_eq] at h4
     refine Rn ?_
     refine Rn ?_
     refine Rn ?_
     refine Rn ?_
     refine Rq ?_
     have tr : ∀ a b c d e f g h i j k m n o p q r s t u v w x y z : AV, let l := lc_room_ok a b c d e f g h i j k m n o p; trim ((36,z)::(35,y)::(34,x)::(33,w)::(32,v)::(31,u)::(30,t)::(29,s)::(28,r)::(27,q)::l) l = [(0,a),(1,b),(2,c),(3,d),(6,e),(7,f),(8,g),(9,h),(10,i),(16,j),(17,k),(18,m),(19,n),(20,o),(36,z)] := by intros; rfl
     refine R_nil (tr ..) ?_; clear tr
     refine then_n ?_
     refine cdf ?_
     refine at_skip rfl ?_
     refine blk_n ?_
     refine then_n ?_
     refine rg rfl ?_
     refine Rq ?_
     refine Rq ?_
     have tr : ∀ a b c d e f g h i j k m n o p q r : AV, let l := lc_room_ok a b c d e f g h i j k m n o p; trim ((19,r)::(40,q)::l) l = [(0,a),(1,b),(2,c),(3,d),(6,e),(7,f),(8,g),(9,h),(10,i),(16,j),(17,k),(18,m),(19,r),(20,o),(36,p)] := by intros; rfl
     refine R_nil (tr ..) ?_; clear tr
     refine then_n ?_
     exact ⟨_, _, ⟨u + 1, _, _, _, _, _, _, rfl, rfl, by omega, by first | exact rm_T hn (by omega) (by omega) | exact rm_F hn (fun hh => by have h1 := hh.1; have h2 := hh.2; omega), by exact q3⟩, by rfl, by omega⟩
   ·
    try simp only [decide_eq_true_eq, decide_eq_false_iff_not, Bool.not_eq_true', Bool.not_eq_false', beq_iff_eq, beq_eq_false_iff_ne, ne_eq] at h3
    refine at_exit rfl ?_
    refine then_x ?_
    refine then_x ?_
    refine blk_x ?_
    refine then_n ?_
    refine at_seq rfl ?_
    refine rg rfl ?_
    refine Rq ?_
    refine Rq ?_
    have tr : ∀ a b c d e f g h i j k m n o p q r : AV, let l := lc_room_ok a b c d e f g h i j k m n o p; trim ((6,r)::(41,q)::l) l = [(0,a),(1,b),(2,c),(3,d),(6,r),(7,f),(8,g),(9,h),(10,i),(16,j),(17,k),(18,m),(19,n),(20,o),(36,p)] := by intros; rfl
    refine R_nil (tr ..) ?_; clear tr
    refine then_n ?_
    refine at_ret rfl ?_
    first | (exfalso; omega) | (refine fpure ?_; refine ⟨rfl, ?_, rfl⟩; rw [hn, show u = cs.length by omega])

end Go.Proofs.Ytkjgmpjnhfmecaa
