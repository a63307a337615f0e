/-
  Texts of AttackCosts, part 9 of 17. Walks of chapters 46, 43 and 42. The steps are written by program (walk.py).
-/
import Derived.Test.YtplockpopmaejaaKAttackCosts5
import Derived.Test.YtplockpopmaejaaKAttackCosts6
import Derived.Test.YtplockpopmaejaaKAttackCosts7
section
set_option linter.unusedSimpArgs false
set_option linter.unusedVariables false
set_option maxHeartbeats 40000000
set_option maxRecDepth 4000
namespace Go.Proofs.Ytplockpopmaejaa
open Go Go.Am

abbrev lc_isnan (a b : AV) : Env := [(0,a),(2,b)]
theorem isnan (lim : Nat) (H : Heap) (x : Int) : ACall sig lim 50 [AV.i x] H fun r H' => r = .v (.bool false) ∧ H' = H := by
 refine ACall_pure (fa := fa50) rfl rfl rfl rfl ?_
 have tr : ∀ a0 : AV, env0 fa50.keep [a0] = [(0,a0),(2,.any)] := fun a0 => rfl
 refine W_to (tr _) ?_; clear tr
 refine at_seq rfl ?_
 refine rg rfl ?_
 refine Rq ?_
 have tr : ∀ a b c : AV, let l := lc_isnan a b; trim ((2,c)::l) l = [(0,a),(2,c)] := by intros; rfl
 refine R_nil (tr ..) ?_; clear tr
 refine then_n ?_
 refine at_seq rfl ?_
 refine rg rfl ?_
 refine Rq ?_
 refine Rq ?_
 refine Rq ?_
 refine Rq ?_
 have tr : ∀ a b c d e f : AV, let l := lc_isnan a b; trim ((2,f)::(5,e)::(4,d)::(3,c)::l) l = [(0,a),(2,f)] := by intros; rfl
 refine R_nil (tr ..) ?_; clear tr
 refine then_n ?_
 refine at_ret rfl ?_
 refine fpure ?_
 refine ⟨?_, rfl⟩
 first | rfl | simp

abbrev lc_cmp_ok (a b c d e f g h i j : AV) : Env := [(0,a),(1,b),(4,c),(5,d),(6,e),(11,f),(12,g),(13,h),(16,i),(19,j)]
theorem cmp_ok (lim : Nat) (H : Heap) (x y : Int) : ACall sig lim 47 [AV.i x, AV.i y] H fun r H' => r = AV.i (if x < y then -1 else if y < x then 1 else 0) ∧ H' = H := by
 refine ACall_pure (fa := fa47) rfl rfl rfl rfl ?_
 have tr : ∀ a0 a1 : AV, env0 fa47.keep [a0, a1] = [(0,a0),(1,a1),(4,.any),(5,.any),(6,.any),(11,.any),(12,.any),(13,.any),(16,.any),(19,.any)] := fun a0 a1 => rfl
 refine W_to (tr _ _) ?_; clear tr
 refine at_seq rfl ?_
 refine rg rfl ?_
 refine Rq ?_
 have tr : ∀ a b c d e f g h i j k : AV, let l := lc_cmp_ok a b c d e f g h i j; trim ((4,k)::l) l = [(0,a),(1,b),(4,k),(5,d),(6,e),(11,f),(12,g),(13,h),(16,i),(19,j)] := by intros; rfl
 refine R_nil (tr ..) ?_; clear tr
 refine then_n ?_
 refine at_seq rfl ?_
 refine rg rfl ?_
 refine Rq ?_
 refine Rcall ?_
 refine ACall_eq (isnan _ _ _) ?_
 refine Rq ?_
 have tr : ∀ a b c d e f g h i j k m n : AV, let l := lc_cmp_ok a b c d e f g h i j; trim ((5,n)::(8,m)::(7,k)::l) l = [(0,a),(1,b),(4,c),(5,n),(6,e),(11,f),(12,g),(13,h),(16,i),(19,j)] := by intros; rfl
 refine R_nil (tr ..) ?_; clear tr
 refine then_n ?_
 refine at_seq rfl ?_
 refine rg rfl ?_
 refine Rq ?_
 refine Rcall ?_
 refine ACall_eq (isnan _ _ _) ?_
 refine Rq ?_
 have tr : ∀ a b c d e f g h i j k m n : AV, let l := lc_cmp_ok a b c d e f g h i j; trim ((6,n)::(10,m)::(9,k)::l) l = [(0,a),(1,b),(4,c),(5,d),(6,n),(11,f),(12,g),(13,h),(16,i),(19,j)] := by intros; rfl
 refine R_nil (tr ..) ?_; clear tr
 refine then_n ?_
 refine at_seq rfl ?_
 refine at_seq rfl ?_
 refine rg rfl ?_
 refine Rq ?_
 have tr : ∀ a b c d e f g h i j k : AV, let l := lc_cmp_ok a b c d e f g h i j; trim ((11,k)::l) l = [(0,a),(1,b),(4,c),(5,d),(6,e),(11,k),(12,g),(13,h),(16,i),(19,j)] := by intros; rfl
 refine R_nil (tr ..) ?_; clear tr
 refine then_n ?_
 refine cdf ?_
 refine at_skip rfl ?_
 refine then_n ?_
 refine at_seq rfl ?_
 refine at_seq rfl ?_
 refine rg rfl ?_
 refine Rq ?_
 have tr : ∀ a b c d e f g h i j k : AV, let l := lc_cmp_ok a b c d e f g h i j; trim ((13,k)::l) l = [(0,a),(1,b),(4,c),(5,d),(6,e),(11,f),(12,g),(13,k),(16,i),(19,j)] := by intros; rfl
 refine R_nil (tr ..) ?_; clear tr
 refine then_n ?_
 refine cdf ?_
 refine at_skip rfl ?_
 refine then_n ?_
 refine at_seq rfl ?_
 refine at_seq rfl ?_
 refine rg rfl ?_
 refine Rq ?_
 refine Rq ?_
 refine Rq ?_
 have tr : ∀ a b c d e f g h i j k m n : AV, let l := lc_cmp_ok a b c d e f g h i j; trim ((16,n)::(15,m)::(14,k)::l) l = [(0,a),(1,b),(4,c),(5,d),(6,e),(11,f),(12,g),(13,h),(16,n),(19,j)] := by intros; rfl
 refine R_nil (tr ..) ?_; clear tr
 refine then_n ?_
 refine cdd (fun h1 => ?_) (fun h1 => ?_)
 ·
  try simp only [decide_eq_true_eq, decide_eq_false_iff_not, Bool.not_eq_true', Bool.not_eq_false', beq_iff_eq, beq_eq_false_iff_ne, ne_eq] at h1
  refine at_seq rfl ?_
  refine rg rfl ?_
  refine Rq ?_
  have tr : ∀ a b c d e f g h i j k : AV, let l := lc_cmp_ok a b c d e f g h i j; trim ((4,k)::l) l = [(0,a),(1,b),(4,k),(5,d),(6,e),(11,f),(12,g),(13,h),(16,i),(19,j)] := by intros; rfl
  refine R_nil (tr ..) ?_; clear tr
  refine then_n ?_
  refine at_ret rfl ?_
  refine then_r ?_
  refine fpure ?_
  refine ⟨?_, rfl⟩
  first | (rw [if_pos (by omega)]; done) | (rw [if_neg (by omega), if_pos (by omega)]; done) | (rw [if_neg (by omega), if_neg (by omega)]; done)
 ·
  try simp only [decide_eq_true_eq, decide_eq_false_iff_not, Bool.not_eq_true', Bool.not_eq_false', beq_iff_eq, beq_eq_false_iff_ne, ne_eq] at h1
  refine at_skip rfl ?_
  refine then_n ?_
  refine at_seq rfl ?_
  refine at_seq rfl ?_
  refine rg rfl ?_
  refine Rq ?_
  refine Rq ?_
  refine Rq ?_
  have tr : ∀ a b c d e f g h i j k m n : AV, let l := lc_cmp_ok a b c d e f g h i j; trim ((19,n)::(18,m)::(17,k)::l) l = [(0,a),(1,b),(4,c),(5,d),(6,e),(11,f),(12,g),(13,h),(16,i),(19,n)] := by intros; rfl
  refine R_nil (tr ..) ?_; clear tr
  refine then_n ?_
  refine cdd (fun h2 => ?_) (fun h2 => ?_)
  ·
   try simp only [decide_eq_true_eq, decide_eq_false_iff_not, Bool.not_eq_true', Bool.not_eq_false', beq_iff_eq, beq_eq_false_iff_ne, ne_eq] at h2
   refine at_seq rfl ?_
   refine rg rfl ?_
   refine Rq ?_
   have tr : ∀ a b c d e f g h i j k : AV, let l := lc_cmp_ok a b c d e f g h i j; trim ((4,k)::l) l = [(0,a),(1,b),(4,k),(5,d),(6,e),(11,f),(12,g),(13,h),(16,i),(19,j)] := by intros; rfl
   refine R_nil (tr ..) ?_; clear tr
   refine then_n ?_
   refine at_ret rfl ?_
   refine then_r ?_
   refine fpure ?_
   refine ⟨?_, rfl⟩
   first | (rw [if_pos (by omega)]; done) | (rw [if_neg (by omega), if_pos (by omega)]; done) | (rw [if_neg (by omega), if_neg (by omega)]; done)
  ·
   try simp only [decide_eq_true_eq, decide_eq_false_iff_not, Bool.not_eq_true', Bool.not_eq_false', beq_iff_eq, beq_eq_false_iff_ne, ne_eq] at h2
   refine at_skip rfl ?_
   refine then_n ?_
   refine at_seq rfl ?_
   refine rg rfl ?_
   refine Rq ?_
   have tr : ∀ a b c d e f g h i j k : AV, let l := lc_cmp_ok a b c d e f g h i j; trim ((4,k)::l) l = [(0,a),(1,b),(4,k),(5,d),(6,e),(11,f),(12,g),(13,h),(16,i),(19,j)] := by intros; rfl
   refine R_nil (tr ..) ?_; clear tr
   refine then_n ?_
   refine at_ret rfl ?_
   refine fpure ?_
   refine ⟨?_, rfl⟩
   first | (rw [if_pos (by omega)]; done) | (rw [if_neg (by omega), if_pos (by omega)]; done) | (rw [if_neg (by omega), if_neg (by omega)]; done)

abbrev lc_order_ok (a b c d e f g h : AV) : Env := [(0,a),(1,b),(2,c),(3,d),(4,e),(5,f),(16,g),(22,h)]
theorem order_ok (lim : Nat) (H : Heap) (a b : Oc) : ACall sig lim 36 [.agg (ocC a), .agg (ocC b)] H fun r H' => r = AV.i (cmO a b) ∧ H' = H := by
 refine ACall_pure (fa := fa36) rfl rfl rfl rfl ?_
 have tr : ∀ a0 a1 : AV, env0 fa36.keep [a0, a1] = [(0,a0),(1,a1),(2,.any),(3,.any),(4,.any),(5,.any),(16,.any),(22,.any)] := fun a0 a1 => rfl
 refine W_to (tr _ _) ?_; clear tr
 refine at_seq rfl ?_
 refine rg rfl ?_
 refine R_box rfl (by simp (disch := first | omega | (simp only [List.length_map, List.length_append, List.length_set, List.length_cons, List.length_nil]; omega)) only [go_sem, ↓reduceIte, Nat.reduceEqDiff, reduceCtorEq] <;> rfl) rfl rfl ?_
 refine R_box rfl (by simp (disch := first | omega | (simp only [List.length_map, List.length_append, List.length_set, List.length_cons, List.length_nil]; omega)) only [go_sem, ↓reduceIte, Nat.reduceEqDiff, reduceCtorEq] <;> rfl) rfl rfl ?_
 refine Rq ?_
 have tr : ∀ a b c d e f g h i j k : AV, let l := lc_order_ok a b c d e f g h; trim ((4,k)::(3,j)::(2,i)::l) l = [(0,a),(1,b),(2,i),(3,j),(4,k),(5,f),(16,g),(22,h)] := by intros; rfl
 refine R_nil (tr ..) ?_; clear tr
 refine then_n ?_
 refine at_seq rfl ?_
 refine at_block rfl ?_
 refine at_seq rfl ?_
 refine rg rfl ?_
 refine Rq ?_
 refine Rq ?_
 refine Rq ?_
 refine Rq ?_
 refine Rq ?_
 refine Rq ?_
 have tr : ∀ a b c d e f g h i j k m n o : AV, let l := lc_order_ok a b c d e f g h; trim ((5,o)::(10,n)::(9,m)::(8,k)::(7,j)::(6,i)::l) l = [(0,a),(1,b),(2,c),(3,d),(4,e),(5,o),(16,g),(22,h)] := by intros; rfl
 refine R_nil (tr ..) ?_; clear tr
 refine then_n ?_
 refine cdd (fun h1 => ?_) (fun h1 => ?_)
 ·
  try simp only [decide_eq_true_eq, decide_eq_false_iff_not, Bool.not_eq_true', Bool.not_eq_false', beq_iff_eq, beq_eq_false_iff_ne, ne_eq] at h1
  refine at_seq rfl ?_
  refine rg rfl ?_
  refine Rq ?_
  refine Rq ?_
  refine Rq ?_
  refine Rq ?_
  refine Rcall ?_
  refine ACall_eq (cmp_ok _ _ _ _) ?_
  refine Rq ?_
  have tr : ∀ a b c d e f g h i j k m n o : AV, let l := lc_order_ok a b c d e f g h; trim ((4,o)::(15,n)::(14,m)::(13,k)::(12,j)::(11,i)::l) l = [(0,a),(1,b),(2,c),(3,d),(4,o),(5,f),(16,g),(22,h)] := by intros; rfl
  refine R_nil (tr ..) ?_; clear tr
  refine then_n ?_
  refine at_ret rfl ?_
  refine blk_r ?_
  refine then_r ?_
  refine fpure ?_
  refine ⟨?_, rfl⟩
  first | exact cmO_ne (by assumption) | (rw [cmO, if_neg (by omega), if_pos (by simp_all)]; done) | (rw [cmO, if_neg (by omega), if_neg (by simp_all), if_pos (by simp_all)]; done) | (rw [cmO, if_neg (by omega), if_neg (by simp_all), if_neg (by simp_all)]; done)
 ·
  try simp only [decide_eq_true_eq, decide_eq_false_iff_not, Bool.not_eq_true', Bool.not_eq_false', beq_iff_eq, beq_eq_false_iff_ne, ne_eq] at h1
  refine at_seq rfl ?_
  refine rg rfl ?_
  refine Rq ?_
  refine Rq ?_
  refine Rq ?_
  refine Rq ?_
  refine Rq ?_
  refine Rq ?_
  have tr : ∀ a b c d e f g h i j k m n o : AV, let l := lc_order_ok a b c d e f g h; trim ((16,o)::(21,n)::(20,m)::(19,k)::(18,j)::(17,i)::l) l = [(0,a),(1,b),(2,c),(3,d),(4,e),(5,f),(16,o),(22,h)] := by intros; rfl
  refine R_nil (tr ..) ?_; clear tr
  refine then_n ?_
  refine cdd (fun h2 => ?_) (fun h2 => ?_)
  ·
   try simp only [decide_eq_true_eq, decide_eq_false_iff_not, Bool.not_eq_true', Bool.not_eq_false', beq_iff_eq, beq_eq_false_iff_ne, ne_eq] at h2
   refine at_seq rfl ?_
   refine rg rfl ?_
   refine Rq ?_
   have tr : ∀ a b c d e f g h i : AV, let l := lc_order_ok a b c d e f g h; trim ((4,i)::l) l = [(0,a),(1,b),(2,c),(3,d),(4,i),(5,f),(16,g),(22,h)] := by intros; rfl
   refine R_nil (tr ..) ?_; clear tr
   refine then_n ?_
   refine at_ret rfl ?_
   refine blk_r ?_
   refine then_r ?_
   refine fpure ?_
   refine ⟨?_, rfl⟩
   first | exact cmO_ne (by assumption) | (rw [cmO, if_neg (by omega), if_pos (by simp_all)]; done) | (rw [cmO, if_neg (by omega), if_neg (by simp_all), if_pos (by simp_all)]; done) | (rw [cmO, if_neg (by omega), if_neg (by simp_all), if_neg (by simp_all)]; done)
  ·
   try simp only [decide_eq_true_eq, decide_eq_false_iff_not, Bool.not_eq_true', Bool.not_eq_false', beq_iff_eq, beq_eq_false_iff_ne, ne_eq] at h2
   refine at_seq rfl ?_
   refine rg rfl ?_
   refine Rq ?_
   refine Rq ?_
   refine Rq ?_
   have tr : ∀ a b c d e f g h i j k : AV, let l := lc_order_ok a b c d e f g h; trim ((22,k)::(24,j)::(23,i)::l) l = [(0,a),(1,b),(2,c),(3,d),(4,e),(5,f),(16,g),(22,k)] := by intros; rfl
   refine R_nil (tr ..) ?_; clear tr
   refine then_n ?_
   refine cdd (fun h3 => ?_) (fun h3 => ?_)
   ·
    try simp only [decide_eq_true_eq, decide_eq_false_iff_not, Bool.not_eq_true', Bool.not_eq_false', beq_iff_eq, beq_eq_false_iff_ne, ne_eq] at h3
    refine at_seq rfl ?_
    refine rg rfl ?_
    refine Rq ?_
    have tr : ∀ a b c d e f g h i : AV, let l := lc_order_ok a b c d e f g h; trim ((4,i)::l) l = [(0,a),(1,b),(2,c),(3,d),(4,i),(5,f),(16,g),(22,h)] := by intros; rfl
    refine R_nil (tr ..) ?_; clear tr
    refine then_n ?_
    refine at_ret rfl ?_
    refine blk_r ?_
    refine then_r ?_
    refine fpure ?_
    refine ⟨?_, rfl⟩
    first | exact cmO_ne (by assumption) | (rw [cmO, if_neg (by omega), if_pos (by simp_all)]; done) | (rw [cmO, if_neg (by omega), if_neg (by simp_all), if_pos (by simp_all)]; done) | (rw [cmO, if_neg (by omega), if_neg (by simp_all), if_neg (by simp_all)]; done)
   ·
    try simp only [decide_eq_true_eq, decide_eq_false_iff_not, Bool.not_eq_true', Bool.not_eq_false', beq_iff_eq, beq_eq_false_iff_ne, ne_eq] at h3
    refine at_skip rfl ?_
    refine blk_n ?_
    refine then_n ?_
    refine at_seq rfl ?_
    refine rg rfl ?_
    refine Rq ?_
    have tr : ∀ a b c d e f g h i : AV, let l := lc_order_ok a b c d e f g h; trim ((4,i)::l) l = [(0,a),(1,b),(2,c),(3,d),(4,i),(5,f),(16,g),(22,h)] := by intros; rfl
    refine R_nil (tr ..) ?_; clear tr
    refine then_n ?_
    refine at_ret rfl ?_
    refine fpure ?_
    refine ⟨?_, rfl⟩
    first | exact cmO_ne (by assumption) | (rw [cmO, if_neg (by omega), if_pos (by simp_all)]; done) | (rw [cmO, if_neg (by omega), if_neg (by simp_all), if_pos (by simp_all)]; done) | (rw [cmO, if_neg (by omega), if_neg (by simp_all), if_neg (by simp_all)]; done)

abbrev lc_before_ok (a b c d e : AV) : Env := [(0,a),(1,b),(2,c),(3,d),(4,e)]
theorem before_ok (lim : Nat) (H : Heap) (a b : Oc) : ACall sig lim 42 [.agg (ocC a), .agg (ocC b)] H fun r H' => r = .v (.bool (decide (ltO a b))) ∧ H' = H := by
 refine ACall_pure (fa := fa42) rfl rfl rfl rfl ?_
 have tr : ∀ a0 a1 : AV, env0 fa42.keep [a0, a1] = [(0,a0),(1,a1),(2,.any),(3,.any),(4,.any)] := fun a0 a1 => rfl
 refine W_to (tr _ _) ?_; clear tr
 refine at_seq rfl ?_
 refine rg rfl ?_
 refine R_box rfl (by simp (disch := first | omega | (simp only [List.length_map, List.length_append, List.length_set, List.length_cons, List.length_nil]; omega)) only [go_sem, ↓reduceIte, Nat.reduceEqDiff, reduceCtorEq] <;> rfl) rfl rfl ?_
 refine R_box rfl (by simp (disch := first | omega | (simp only [List.length_map, List.length_append, List.length_set, List.length_cons, List.length_nil]; omega)) only [go_sem, ↓reduceIte, Nat.reduceEqDiff, reduceCtorEq] <;> rfl) rfl rfl ?_
 refine Rq ?_
 have tr : ∀ a b c d e f g h : AV, let l := lc_before_ok a b c d e; trim ((4,h)::(3,g)::(2,f)::l) l = [(0,a),(1,b),(2,f),(3,g),(4,h)] := by intros; rfl
 refine R_nil (tr ..) ?_; clear tr
 refine then_n ?_
 refine at_seq rfl ?_
 refine rg rfl ?_
 refine Rq ?_
 refine Rq ?_
 refine Rq ?_
 refine Rq ?_
 refine Rq ?_
 refine Rq ?_
 refine Rp_split (fun h1 => ?_) (fun h1 => ?_)
 ·
  try simp only [decide_eq_true_eq, decide_eq_false_iff_not, Bool.not_eq_true', Bool.not_eq_false', beq_iff_eq, beq_eq_false_iff_ne, ne_eq] at h1
  refine Rn ?_
  refine Rn ?_
  refine Rn ?_
  refine Rn ?_
  refine Rn ?_
  refine Rn ?_
  refine Ru ?_
  refine Ru ?_
  refine Ru ?_
  refine Rn ?_
  refine Rn ?_
  refine Ru ?_
  refine Ru ?_
  refine Rn ?_
  refine Rq ?_
  refine Rq ?_
  have tr : ∀ a b c d e f g h i j k m n o p q r s t u v w x y z A B : AV, let l := lc_before_ok a b c d e; trim ((4,B)::(25,A)::(24,z)::(23,y)::(22,x)::(21,w)::(20,v)::(19,u)::(18,t)::(17,s)::(16,r)::(15,q)::(14,p)::(13,o)::(12,n)::(11,m)::(10,k)::(9,j)::(8,i)::(7,h)::(6,g)::(5,f)::l) l = [(0,a),(1,b),(2,c),(3,d),(4,B)] := by intros; rfl
  refine R_nil (tr ..) ?_; clear tr
  refine then_n ?_
  refine at_ret rfl ?_
  refine fpure ?_
  refine ⟨?_, rfl⟩
  refine congrArg (fun z => AV.v (.bool z)) ?_
  unfold ltO
  first | (simp_all; done) | (simp_all; omega) | (cases ha : a.k <;> cases hb : b.k <;> simp_all <;> omega)
 ·
  try simp only [decide_eq_true_eq, decide_eq_false_iff_not, Bool.not_eq_true', Bool.not_eq_false', beq_iff_eq, beq_eq_false_iff_ne, ne_eq] at h1
  refine Ry ?_
  refine Rq ?_
  refine Ry ?_
  refine Rq ?_
  refine Ry ?_
  refine Rq ?_
  refine Ry ?_
  refine Rq ?_
  refine Ry ?_
  refine Rq ?_
  refine Ry ?_
  refine Rq ?_
  refine Rp_split (fun h2 => ?_) (fun h2 => ?_)
  ·
   try simp only [decide_eq_true_eq, decide_eq_false_iff_not, Bool.not_eq_true', Bool.not_eq_false', beq_iff_eq, beq_eq_false_iff_ne, ne_eq] at h2
   refine Ry ?_
   refine Rq ?_
   refine Ry ?_
   refine Rq ?_
   refine Ry ?_
   refine Rq ?_
   refine Ry ?_
   refine Rq ?_
   refine Ry ?_
   refine Rq ?_
   refine Rp_split (fun h3 => ?_) (fun h3 => ?_)
   ·
    try simp only [decide_eq_true_eq, decide_eq_false_iff_not, Bool.not_eq_true', Bool.not_eq_false', beq_iff_eq, beq_eq_false_iff_ne, ne_eq] at h3
    refine Ry ?_
    refine Rq ?_
    refine Ry ?_
    refine Rq ?_
    refine Ry ?_
    refine Rq ?_
    refine Rq ?_
    refine Rq ?_
    have tr : ∀ a b c d e f g h i j k m n o p q r s t u v w x y z A B : AV, let l := lc_before_ok a b c d e; trim ((4,B)::(25,A)::(24,z)::(23,y)::(22,x)::(21,w)::(20,v)::(19,u)::(18,t)::(17,s)::(16,r)::(15,q)::(14,p)::(13,o)::(12,n)::(11,m)::(10,k)::(9,j)::(8,i)::(7,h)::(6,g)::(5,f)::l) l = [(0,a),(1,b),(2,c),(3,d),(4,B)] := by intros; rfl
    refine R_nil (tr ..) ?_; clear tr
    refine then_n ?_
    refine at_ret rfl ?_
    refine fpure ?_
    refine ⟨?_, rfl⟩
    refine congrArg (fun z => AV.v (.bool z)) ?_
    unfold ltO
    first | (simp_all; done) | (simp_all; omega) | (cases ha : a.k <;> cases hb : b.k <;> simp_all <;> omega)
   ·
    try simp only [decide_eq_true_eq, decide_eq_false_iff_not, Bool.not_eq_true', Bool.not_eq_false', beq_iff_eq, beq_eq_false_iff_ne, ne_eq] at h3
    refine Rn ?_
    refine Rn ?_
    refine Ry ?_
    refine Rq ?_
    refine Rq ?_
    refine Rq ?_
    have tr : ∀ a b c d e f g h i j k m n o p q r s t u v w x y z A B : AV, let l := lc_before_ok a b c d e; trim ((4,B)::(25,A)::(24,z)::(23,y)::(22,x)::(21,w)::(20,v)::(19,u)::(18,t)::(17,s)::(16,r)::(15,q)::(14,p)::(13,o)::(12,n)::(11,m)::(10,k)::(9,j)::(8,i)::(7,h)::(6,g)::(5,f)::l) l = [(0,a),(1,b),(2,c),(3,d),(4,B)] := by intros; rfl
    refine R_nil (tr ..) ?_; clear tr
    refine then_n ?_
    refine at_ret rfl ?_
    refine fpure ?_
    refine ⟨?_, rfl⟩
    refine congrArg (fun z => AV.v (.bool z)) ?_
    unfold ltO
    first | (simp_all; done) | (simp_all; omega) | (cases ha : a.k <;> cases hb : b.k <;> simp_all <;> omega)
  ·
   try simp only [decide_eq_true_eq, decide_eq_false_iff_not, Bool.not_eq_true', Bool.not_eq_false', beq_iff_eq, beq_eq_false_iff_ne, ne_eq] at h2
   refine Rn ?_
   refine Rn ?_
   refine Rn ?_
   refine Ry ?_
   refine Rq ?_
   refine Ry ?_
   refine Rq ?_
   refine Rn ?_
   refine Rn ?_
   refine Ry ?_
   refine Rq ?_
   refine Rq ?_
   refine Rq ?_
   have tr : ∀ a b c d e f g h i j k m n o p q r s t u v w x y z A B : AV, let l := lc_before_ok a b c d e; trim ((4,B)::(25,A)::(24,z)::(23,y)::(22,x)::(21,w)::(20,v)::(19,u)::(18,t)::(17,s)::(16,r)::(15,q)::(14,p)::(13,o)::(12,n)::(11,m)::(10,k)::(9,j)::(8,i)::(7,h)::(6,g)::(5,f)::l) l = [(0,a),(1,b),(2,c),(3,d),(4,B)] := by intros; rfl
   refine R_nil (tr ..) ?_; clear tr
   refine then_n ?_
   refine at_ret rfl ?_
   refine fpure ?_
   refine ⟨?_, rfl⟩
   refine congrArg (fun z => AV.v (.bool z)) ?_
   unfold ltO
   first | (simp_all; done) | (simp_all; omega) | (cases ha : a.k <;> cases hb : b.k <;> simp_all <;> omega)

end Go.Proofs.Ytplockpopmaejaa
end
section
set_option linter.unusedSimpArgs false
set_option linter.unusedVariables false
set_option maxHeartbeats 40000000
set_option maxRecDepth 4000
namespace Go.Proofs.Ytplockpopmaejaa
open Go Go.Am

abbrev lc_chk25 (a b c d e f g h i j k m n o : AV) : Env := [(0,a),(2,b),(3,c),(4,d),(5,e),(6,f),(10,g),(14,h),(15,i),(16,j),(17,k),(21,m),(40,n),(59,o)]
theorem chk25 (lim : Nat) (H : Heap) (d : List Oc) : ACall sig lim 25 [ocsAV d] H fun r H' => r = AV.i (chkD d) ∧ H' = H := by
 refine ACall_pure (fa := fa25) rfl rfl rfl rfl ?_
 have tr : ∀ a0 : AV, env0 fa25.keep [a0] = [(0,a0),(2,.any),(3,.any),(4,.any),(5,.any),(6,.any),(10,.any),(14,.any),(15,.any),(16,.any),(17,.any),(21,.any),(40,.any),(59,.any)] := fun a0 => rfl
 refine W_to (tr _) ?_; clear tr
 refine at_seq rfl ?_
 refine rg rfl ?_
 refine Rq ?_
 have tr : ∀ a b c d e f g h i j k m n o p : AV, let l := lc_chk25 a b c d e f g h i j k m n o; trim ((2,p)::l) l = [(0,a),(2,p),(3,c),(4,d),(5,e),(6,f),(10,g),(14,h),(15,i),(16,j),(17,k),(21,m),(40,n),(59,o)] := by intros; rfl
 refine R_nil (tr ..) ?_; clear tr
 refine then_n ?_
 refine at_seq rfl ?_
 refine at_block rfl ?_
 refine at_seq rfl ?_
 refine rg rfl ?_
 refine Rq ?_
 refine Rq ?_
 refine Rq ?_
 refine Rq ?_
 have tr : ∀ a b c d e f g h i j k m n o p q r s : AV, let l := lc_chk25 a b c d e f g h i j k m n o; trim ((6,s)::(9,r)::(8,q)::(7,p)::l) l = [(0,a),(2,b),(3,c),(4,d),(5,e),(6,s),(10,g),(14,h),(15,i),(16,j),(17,k),(21,m),(40,n),(59,o)] := by intros; rfl
 refine R_nil (tr ..) ?_; clear tr
 refine then_n ?_
 refine cdd (fun h1 => ?_) (fun h1 => ?_)
 ·
  try simp only [decide_eq_true_eq, decide_eq_false_iff_not, Bool.not_eq_true', Bool.not_eq_false', beq_iff_eq, beq_eq_false_iff_ne, ne_eq] at h1
  refine at_seq rfl ?_
  refine rg rfl ?_
  refine Rq ?_
  have tr : ∀ a b c d e f g h i j k m n o p : AV, let l := lc_chk25 a b c d e f g h i j k m n o; trim ((2,p)::l) l = [(0,a),(2,p),(3,c),(4,d),(5,e),(6,f),(10,g),(14,h),(15,i),(16,j),(17,k),(21,m),(40,n),(59,o)] := by intros; rfl
  refine R_nil (tr ..) ?_; clear tr
  refine then_n ?_
  refine at_ret rfl ?_
  refine blk_r ?_
  refine then_r ?_
  first | (refine fpure ?_; refine ⟨?_, rfl⟩; rw [chkD, if_pos (by omega)]) | (refine fpure ?_; refine ⟨?_, rfl⟩; rw [chkD, if_neg (by omega), if_pos (by omega)]) | (refine fpure ?_; refine ⟨?_, rfl⟩; have he : stE d u = 2 := stE_2 (by unfold rgO; omega); have hc := ferr_at hf (by rw [he]; decide) d.length (by omega); rw [chkD, if_neg (by omega), if_neg (by omega), if_pos (by rw [hc, he]; decide), hc, he]) | (refine fpure ?_; refine ⟨?_, rfl⟩; have he : stE d u = 8 := stE_8 (by unfold rgO; omega) (by omega) (by first | exact cmO_nn (by omega) | assumption | simp_all); have hc := ferr_at hf (by rw [he]; decide) d.length (by omega); rw [chkD, if_neg (by omega), if_neg (by omega), if_pos (by rw [hc, he]; decide), hc, he]) | (refine fpure ?_; refine ⟨?_, rfl⟩; have hd : u = d.length := (by omega); subst hd; rw [chkD, if_neg (by omega), if_neg (by omega), if_neg (fun hh => hh hf), if_pos (by omega)]) | (refine fpure ?_; refine ⟨?_, rfl⟩; have hd : u = d.length := (by omega); subst hd; rw [chkD, if_neg (by omega), if_neg (by omega), if_neg (fun hh => hh hf), if_neg (by omega)])
 ·
  try simp only [decide_eq_true_eq, decide_eq_false_iff_not, Bool.not_eq_true', Bool.not_eq_false', beq_iff_eq, beq_eq_false_iff_ne, ne_eq] at h1
  refine at_seq rfl ?_
  refine rg rfl ?_
  refine Rq ?_
  refine Rq ?_
  refine Rq ?_
  refine Rq ?_
  have tr : ∀ a b c d e f g h i j k m n o p q r s : AV, let l := lc_chk25 a b c d e f g h i j k m n o; trim ((10,s)::(13,r)::(12,q)::(11,p)::l) l = [(0,a),(2,b),(3,c),(4,d),(5,e),(6,f),(10,s),(14,h),(15,i),(16,j),(17,k),(21,m),(40,n),(59,o)] := by intros; rfl
  refine R_nil (tr ..) ?_; clear tr
  refine then_n ?_
  refine cdd (fun h2 => ?_) (fun h2 => ?_)
  ·
   try simp only [decide_eq_true_eq, decide_eq_false_iff_not, Bool.not_eq_true', Bool.not_eq_false', beq_iff_eq, beq_eq_false_iff_ne, ne_eq] at h2
   refine at_seq rfl ?_
   refine rg rfl ?_
   refine Rq ?_
   have tr : ∀ a b c d e f g h i j k m n o p : AV, let l := lc_chk25 a b c d e f g h i j k m n o; trim ((2,p)::l) l = [(0,a),(2,p),(3,c),(4,d),(5,e),(6,f),(10,g),(14,h),(15,i),(16,j),(17,k),(21,m),(40,n),(59,o)] := by intros; rfl
   refine R_nil (tr ..) ?_; clear tr
   refine then_n ?_
   refine at_ret rfl ?_
   refine blk_r ?_
   refine then_r ?_
   first | (refine fpure ?_; refine ⟨?_, rfl⟩; rw [chkD, if_pos (by omega)]) | (refine fpure ?_; refine ⟨?_, rfl⟩; rw [chkD, if_neg (by omega), if_pos (by omega)]) | (refine fpure ?_; refine ⟨?_, rfl⟩; have he : stE d u = 2 := stE_2 (by unfold rgO; omega); have hc := ferr_at hf (by rw [he]; decide) d.length (by omega); rw [chkD, if_neg (by omega), if_neg (by omega), if_pos (by rw [hc, he]; decide), hc, he]) | (refine fpure ?_; refine ⟨?_, rfl⟩; have he : stE d u = 8 := stE_8 (by unfold rgO; omega) (by omega) (by first | exact cmO_nn (by omega) | assumption | simp_all); have hc := ferr_at hf (by rw [he]; decide) d.length (by omega); rw [chkD, if_neg (by omega), if_neg (by omega), if_pos (by rw [hc, he]; decide), hc, he]) | (refine fpure ?_; refine ⟨?_, rfl⟩; have hd : u = d.length := (by omega); subst hd; rw [chkD, if_neg (by omega), if_neg (by omega), if_neg (fun hh => hh hf), if_pos (by omega)]) | (refine fpure ?_; refine ⟨?_, rfl⟩; have hd : u = d.length := (by omega); subst hd; rw [chkD, if_neg (by omega), if_neg (by omega), if_neg (fun hh => hh hf), if_neg (by omega)])
  ·
   try simp only [decide_eq_true_eq, decide_eq_false_iff_not, Bool.not_eq_true', Bool.not_eq_false', beq_iff_eq, beq_eq_false_iff_ne, ne_eq] at h2
   refine at_skip rfl ?_
   refine blk_n ?_
   refine then_n ?_
   refine at_seq rfl ?_
   refine rg rfl ?_
   refine Rq ?_
   have tr : ∀ a b c d e f g h i j k m n o p : AV, let l := lc_chk25 a b c d e f g h i j k m n o; trim ((3,p)::l) l = [(0,a),(2,b),(3,p),(4,d),(5,e),(6,f),(10,g),(14,h),(15,i),(16,j),(17,k),(21,m),(40,n),(59,o)] := by intros; rfl
   refine R_nil (tr ..) ?_; clear tr
   refine then_n ?_
   refine at_seq rfl ?_
   refine at_seq rfl ?_
   refine rg rfl ?_
   refine Rq ?_
   refine Rq ?_
   refine Rq ?_
   have tr : ∀ a b c d e f g h i j k m n o p q r : AV, let l := lc_chk25 a b c d e f g h i j k m n o; trim ((16,r)::(15,q)::(14,p)::l) l = [(0,a),(2,b),(3,c),(4,d),(5,e),(6,f),(10,g),(14,p),(15,q),(16,r),(17,k),(21,m),(40,n),(59,o)] := by intros; rfl
   refine R_nil (tr ..) ?_; clear tr
   refine then_n ?_
   refine at_block rfl ?_
   refine loop_n rfl (fun mm kv H' => ∃ u : Nat, ∃ n : Int, ∃ X : Heap, ∃ x2 x4 x5 x17 x21 x40 : AV, (kv = [(2, x2), (3, AV.i n), (4, x4), (5, x5), (16, AV.i u), (17, x17), (21, x21), (40, x40)]) ∧ (mm = d.length - u) ∧ (H' = H ++ X) ∧ (u ≤ d.length) ∧ (ferr (stE d) u = 0) ∧ (n = sW d u)) ⟨0, 0, [], _, _, _, _, _, _, rfl, rfl, by simp, by omega, by rfl, by rfl⟩ (by rfl) ?_
   rintro mm kv H1 ⟨u, n, X, x2, x4, x5, x17, x21, x40, rfl, rfl, hX, hu, hf, hn⟩
   have tr : ∀ a b c d e f g h i j k m n o p q r s t u v w : AV, upd [(0,a),(2,b),(3,c),(4,d),(5,e),(6,f),(10,g),(14,h),(15,i),(16,j),(17,k),(21,m),(40,n),(59,o)] [(2,p),(3,q),(4,r),(5,s),(16,t),(17,u),(21,v),(40,w)] = [(0,a),(2,p),(3,q),(4,r),(5,s),(6,f),(10,g),(14,h),(15,i),(16,t),(17,u),(21,v),(40,w),(59,o)] := by intros; rfl
   refine W_to (tr ..) ?_; clear tr
   subst hX
   have hbx := sW_box hf
   refine at_seq rfl ?_
   refine rg rfl ?_
   refine Rq ?_
   have tr : ∀ a b c d e f g h i j k m n o p : AV, let l := lc_chk25 a b c d e f g h i j k m n o; trim ((17,p)::l) l = [(0,a),(2,b),(3,c),(4,d),(5,e),(6,f),(10,g),(14,h),(15,i),(16,j),(17,p),(21,m),(40,n),(59,o)] := by intros; rfl
   refine R_nil (tr ..) ?_; clear tr
   refine then_n ?_
   refine at_seq rfl ?_
   refine cdd (fun h3 => ?_) (fun h3 => ?_)
   ·
    try simp only [decide_eq_true_eq, decide_eq_false_iff_not, Bool.not_eq_true', Bool.not_eq_false', beq_iff_eq, beq_eq_false_iff_ne, ne_eq] at h3
    refine at_skip rfl ?_
    refine then_n ?_
    refine at_seq rfl ?_
    refine at_block rfl ?_
    refine at_seq rfl ?_
    refine rg rfl ?_
    refine Rq ?_
    refine Rq ?_
    refine Rq ?_
    refine R_alloc (by simp (disch := first | omega | (simp only [List.length_map, List.length_append, List.length_set, List.length_cons, List.length_nil]; omega)) only [go_sem, ↓reduceIte, Nat.reduceEqDiff, reduceCtorEq] <;> rfl) rfl (by simp only [List.map_cons, List.map_nil]; rfl) ?_
    refine Rq ?_
    refine R_store ty68 (by simp (disch := first | omega | (simp only [List.length_map, List.length_append, List.length_set, List.length_cons, List.length_nil]; omega)) only [go_sem, ↓reduceIte, Nat.reduceEqDiff, reduceCtorEq] <;> rfl) (by simp (disch := first | omega | (simp only [List.length_map, List.length_append, List.length_set, List.length_cons, List.length_nil]; omega)) only [go_sem, ↓reduceIte, Nat.reduceEqDiff, reduceCtorEq] <;> rfl) (by simp (disch := first | omega | (simp only [List.length_map, List.length_append, List.length_set, List.length_cons, List.length_nil]; omega)) only [go_sem, ↓reduceIte, Nat.reduceEqDiff, reduceCtorEq] <;> rfl) (by simp) (by rfl) (by simp (disch := first | omega | (simp only [List.length_map, List.length_append, List.length_set, List.length_cons, List.length_nil]; omega)) only [go_sem, ↓reduceIte, Nat.reduceEqDiff, reduceCtorEq] <;> rfl) ?_
    have tr : ∀ a b c d e f g h i j k m n o p q r s t : AV, let l := lc_chk25 a b c d e f g h i j k m n o; trim ((4,t)::(5,s)::(20,r)::(19,q)::(18,p)::l) l = [(0,a),(2,b),(3,c),(4,t),(5,s),(6,f),(10,g),(14,h),(15,i),(16,j),(17,k),(21,m),(40,n),(59,o)] := by intros; rfl
    refine R_nil (tr ..) ?_; clear tr
    refine then_n ?_
    refine at_seq rfl ?_
    refine at_block rfl ?_
    refine at_seq rfl ?_
    refine rg rfl ?_
    refine Rq ?_
    refine Rq ?_
    refine Rq ?_
    refine Rq ?_
    refine Rp_split (fun h4 => ?_) (fun h4 => ?_)
    ·
     try simp only [decide_eq_true_eq, decide_eq_false_iff_not, Bool.not_eq_true', Bool.not_eq_false', beq_iff_eq, beq_eq_false_iff_ne, ne_eq] at h4
     refine Rn ?_
     refine Rn ?_
     refine Rn ?_
     refine Rq ?_
     refine Rq ?_
     refine Rn ?_
     refine Rn ?_
     refine Rn ?_
     refine Rq ?_
     refine Rq ?_
     refine Rn ?_
     refine Rn ?_
     refine Rn ?_
     refine Rq ?_
     refine Rq ?_
     have tr : ∀ a b c d e f g h i j k m n o p q r s t u v w x y z A B C D E F G H : AV, let l := lc_chk25 a b c d e f g h i j k m n o; trim ((21,H)::(39,G)::(38,F)::(37,E)::(36,D)::(35,C)::(34,B)::(33,A)::(32,z)::(31,y)::(30,x)::(29,w)::(28,v)::(27,u)::(26,t)::(25,s)::(24,r)::(23,q)::(22,p)::l) l = [(0,a),(2,b),(3,c),(4,d),(5,e),(6,f),(10,g),(14,h),(15,i),(16,j),(17,k),(21,H),(40,n),(59,o)] := by intros; rfl
     refine R_nil (tr ..) ?_; clear tr
     refine then_n ?_
     refine cdt ?_
     refine at_seq rfl ?_
     refine rg rfl ?_
     refine Rq ?_
     have tr : ∀ a b c d e f g h i j k m n o p : AV, let l := lc_chk25 a b c d e f g h i j k m n o; trim ((2,p)::l) l = [(0,a),(2,p),(3,c),(4,d),(5,e),(6,f),(10,g),(14,h),(15,i),(16,j),(17,k),(21,m),(40,n),(59,o)] := by intros; rfl
     refine R_nil (tr ..) ?_; clear tr
     refine then_n ?_
     refine at_ret rfl ?_
     refine blk_r ?_
     refine then_r ?_
     refine blk_r ?_
     refine then_r ?_
     refine then_r ?_
     refine blk_r ?_
     refine then_r ?_
     first | (refine fpure ?_; refine ⟨?_, rfl⟩; rw [chkD, if_pos (by omega)]) | (refine fpure ?_; refine ⟨?_, rfl⟩; rw [chkD, if_neg (by omega), if_pos (by omega)]) | (refine fpure ?_; refine ⟨?_, rfl⟩; have he : stE d u = 2 := stE_2 (by unfold rgO; omega); have hc := ferr_at hf (by rw [he]; decide) d.length (by omega); rw [chkD, if_neg (by omega), if_neg (by omega), if_pos (by rw [hc, he]; decide), hc, he]) | (refine fpure ?_; refine ⟨?_, rfl⟩; have he : stE d u = 8 := stE_8 (by unfold rgO; omega) (by omega) (by first | exact cmO_nn (by omega) | assumption | simp_all); have hc := ferr_at hf (by rw [he]; decide) d.length (by omega); rw [chkD, if_neg (by omega), if_neg (by omega), if_pos (by rw [hc, he]; decide), hc, he]) | (refine fpure ?_; refine ⟨?_, rfl⟩; have hd : u = d.length := (by omega); subst hd; rw [chkD, if_neg (by omega), if_neg (by omega), if_neg (fun hh => hh hf), if_pos (by omega)]) | (refine fpure ?_; refine ⟨?_, rfl⟩; have hd : u = d.length := (by omega); subst hd; rw [chkD, if_neg (by omega), if_neg (by omega), if_neg (fun hh => hh hf), if_neg (by omega)])
    ·
     try simp only [decide_eq_true_eq, decide_eq_false_iff_not, Bool.not_eq_true', Bool.not_eq_false', beq_iff_eq, beq_eq_false_iff_ne, ne_eq] at h4
     refine Ry ?_
     refine Rq ?_
     refine Ry ?_
     refine Rq ?_
     refine Ry ?_
     refine Rq ?_
     refine Rq ?_
     refine Rq ?_
     refine Rp_split (fun h5 => ?_) (fun h5 => ?_)
     ·
      try simp only [decide_eq_true_eq, decide_eq_false_iff_not, Bool.not_eq_true', Bool.not_eq_false', beq_iff_eq, beq_eq_false_iff_ne, ne_eq] at h5
      refine Rn ?_
      refine Rn ?_
      refine Rn ?_
      refine Rq ?_
      refine Rq ?_
      refine Rn ?_
      refine Rn ?_
      refine Rn ?_
      refine Rq ?_
      refine Rq ?_
      have tr : ∀ a b c d e f g h i j k m n o p q r s t u v w x y z A B C D E F G H : AV, let l := lc_chk25 a b c d e f g h i j k m n o; trim ((21,H)::(39,G)::(38,F)::(37,E)::(36,D)::(35,C)::(34,B)::(33,A)::(32,z)::(31,y)::(30,x)::(29,w)::(28,v)::(27,u)::(26,t)::(25,s)::(24,r)::(23,q)::(22,p)::l) l = [(0,a),(2,b),(3,c),(4,d),(5,e),(6,f),(10,g),(14,h),(15,i),(16,j),(17,k),(21,H),(40,n),(59,o)] := by intros; rfl
      refine R_nil (tr ..) ?_; clear tr
      refine then_n ?_
      refine cdt ?_
      refine at_seq rfl ?_
      refine rg rfl ?_
      refine Rq ?_
      have tr : ∀ a b c d e f g h i j k m n o p : AV, let l := lc_chk25 a b c d e f g h i j k m n o; trim ((2,p)::l) l = [(0,a),(2,p),(3,c),(4,d),(5,e),(6,f),(10,g),(14,h),(15,i),(16,j),(17,k),(21,m),(40,n),(59,o)] := by intros; rfl
      refine R_nil (tr ..) ?_; clear tr
      refine then_n ?_
      refine at_ret rfl ?_
      refine blk_r ?_
      refine then_r ?_
      refine blk_r ?_
      refine then_r ?_
      refine then_r ?_
      refine blk_r ?_
      refine then_r ?_
      first | (refine fpure ?_; refine ⟨?_, rfl⟩; rw [chkD, if_pos (by omega)]) | (refine fpure ?_; refine ⟨?_, rfl⟩; rw [chkD, if_neg (by omega), if_pos (by omega)]) | (refine fpure ?_; refine ⟨?_, rfl⟩; have he : stE d u = 2 := stE_2 (by unfold rgO; omega); have hc := ferr_at hf (by rw [he]; decide) d.length (by omega); rw [chkD, if_neg (by omega), if_neg (by omega), if_pos (by rw [hc, he]; decide), hc, he]) | (refine fpure ?_; refine ⟨?_, rfl⟩; have he : stE d u = 8 := stE_8 (by unfold rgO; omega) (by omega) (by first | exact cmO_nn (by omega) | assumption | simp_all); have hc := ferr_at hf (by rw [he]; decide) d.length (by omega); rw [chkD, if_neg (by omega), if_neg (by omega), if_pos (by rw [hc, he]; decide), hc, he]) | (refine fpure ?_; refine ⟨?_, rfl⟩; have hd : u = d.length := (by omega); subst hd; rw [chkD, if_neg (by omega), if_neg (by omega), if_neg (fun hh => hh hf), if_pos (by omega)]) | (refine fpure ?_; refine ⟨?_, rfl⟩; have hd : u = d.length := (by omega); subst hd; rw [chkD, if_neg (by omega), if_neg (by omega), if_neg (fun hh => hh hf), if_neg (by omega)])
     ·
      try simp only [decide_eq_true_eq, decide_eq_false_iff_not, Bool.not_eq_true', Bool.not_eq_false', beq_iff_eq, beq_eq_false_iff_ne, ne_eq] at h5
      refine Ry ?_
      refine Rq ?_
      refine Ry ?_
      refine Rq ?_
      refine Ry ?_
      refine Rq ?_
      refine Rq ?_
      refine Rq ?_
      refine Rp_split (fun h6 => ?_) (fun h6 => ?_)
      ·
       try simp only [decide_eq_true_eq, decide_eq_false_iff_not, Bool.not_eq_true', Bool.not_eq_false', beq_iff_eq, beq_eq_false_iff_ne, ne_eq] at h6
       refine Rn ?_
       refine Rn ?_
       refine Rn ?_
       refine Rq ?_
       refine Rq ?_
       have tr : ∀ a b c d e f g h i j k m n o p q r s t u v w x y z A B C D E F G H : AV, let l := lc_chk25 a b c d e f g h i j k m n o; trim ((21,H)::(39,G)::(38,F)::(37,E)::(36,D)::(35,C)::(34,B)::(33,A)::(32,z)::(31,y)::(30,x)::(29,w)::(28,v)::(27,u)::(26,t)::(25,s)::(24,r)::(23,q)::(22,p)::l) l = [(0,a),(2,b),(3,c),(4,d),(5,e),(6,f),(10,g),(14,h),(15,i),(16,j),(17,k),(21,H),(40,n),(59,o)] := by intros; rfl
       refine R_nil (tr ..) ?_; clear tr
       refine then_n ?_
       refine cdt ?_
       refine at_seq rfl ?_
       refine rg rfl ?_
       refine Rq ?_
       have tr : ∀ a b c d e f g h i j k m n o p : AV, let l := lc_chk25 a b c d e f g h i j k m n o; trim ((2,p)::l) l = [(0,a),(2,p),(3,c),(4,d),(5,e),(6,f),(10,g),(14,h),(15,i),(16,j),(17,k),(21,m),(40,n),(59,o)] := by intros; rfl
       refine R_nil (tr ..) ?_; clear tr
       refine then_n ?_
       refine at_ret rfl ?_
       refine blk_r ?_
       refine then_r ?_
       refine blk_r ?_
       refine then_r ?_
       refine then_r ?_
       refine blk_r ?_
       refine then_r ?_
       first | (refine fpure ?_; refine ⟨?_, rfl⟩; rw [chkD, if_pos (by omega)]) | (refine fpure ?_; refine ⟨?_, rfl⟩; rw [chkD, if_neg (by omega), if_pos (by omega)]) | (refine fpure ?_; refine ⟨?_, rfl⟩; have he : stE d u = 2 := stE_2 (by unfold rgO; omega); have hc := ferr_at hf (by rw [he]; decide) d.length (by omega); rw [chkD, if_neg (by omega), if_neg (by omega), if_pos (by rw [hc, he]; decide), hc, he]) | (refine fpure ?_; refine ⟨?_, rfl⟩; have he : stE d u = 8 := stE_8 (by unfold rgO; omega) (by omega) (by first | exact cmO_nn (by omega) | assumption | simp_all); have hc := ferr_at hf (by rw [he]; decide) d.length (by omega); rw [chkD, if_neg (by omega), if_neg (by omega), if_pos (by rw [hc, he]; decide), hc, he]) | (refine fpure ?_; refine ⟨?_, rfl⟩; have hd : u = d.length := (by omega); subst hd; rw [chkD, if_neg (by omega), if_neg (by omega), if_neg (fun hh => hh hf), if_pos (by omega)]) | (refine fpure ?_; refine ⟨?_, rfl⟩; have hd : u = d.length := (by omega); subst hd; rw [chkD, if_neg (by omega), if_neg (by omega), if_neg (fun hh => hh hf), if_neg (by omega)])
      ·
       try simp only [decide_eq_true_eq, decide_eq_false_iff_not, Bool.not_eq_true', Bool.not_eq_false', beq_iff_eq, beq_eq_false_iff_ne, ne_eq] at h6
       refine Ry ?_
       refine Rq ?_
       refine Ry ?_
       refine Rq ?_
       refine Ry ?_
       refine Rq ?_
       refine Rq ?_
       refine Rq ?_
       have tr : ∀ a b c d e f g h i j k m n o p q r s t u v w x y z A B C D E F G H : AV, let l := lc_chk25 a b c d e f g h i j k m n o; trim ((21,H)::(39,G)::(38,F)::(37,E)::(36,D)::(35,C)::(34,B)::(33,A)::(32,z)::(31,y)::(30,x)::(29,w)::(28,v)::(27,u)::(26,t)::(25,s)::(24,r)::(23,q)::(22,p)::l) l = [(0,a),(2,b),(3,c),(4,d),(5,e),(6,f),(10,g),(14,h),(15,i),(16,j),(17,k),(21,H),(40,n),(59,o)] := by intros; rfl
       refine R_nil (tr ..) ?_; clear tr
       refine then_n ?_
       refine cdd (fun h7 => ?_) (fun h7 => ?_)
       ·
        try simp only [decide_eq_true_eq, decide_eq_false_iff_not, Bool.not_eq_true', Bool.not_eq_false', beq_iff_eq, beq_eq_false_iff_ne, ne_eq] at h7
        refine at_seq rfl ?_
        refine rg rfl ?_
        refine Rq ?_
        have tr : ∀ a b c d e f g h i j k m n o p : AV, let l := lc_chk25 a b c d e f g h i j k m n o; trim ((2,p)::l) l = [(0,a),(2,p),(3,c),(4,d),(5,e),(6,f),(10,g),(14,h),(15,i),(16,j),(17,k),(21,m),(40,n),(59,o)] := by intros; rfl
        refine R_nil (tr ..) ?_; clear tr
        refine then_n ?_
        refine at_ret rfl ?_
        refine blk_r ?_
        refine then_r ?_
        refine blk_r ?_
        refine then_r ?_
        refine then_r ?_
        refine blk_r ?_
        refine then_r ?_
        first | (refine fpure ?_; refine ⟨?_, rfl⟩; rw [chkD, if_pos (by omega)]) | (refine fpure ?_; refine ⟨?_, rfl⟩; rw [chkD, if_neg (by omega), if_pos (by omega)]) | (refine fpure ?_; refine ⟨?_, rfl⟩; have he : stE d u = 2 := stE_2 (by unfold rgO; omega); have hc := ferr_at hf (by rw [he]; decide) d.length (by omega); rw [chkD, if_neg (by omega), if_neg (by omega), if_pos (by rw [hc, he]; decide), hc, he]) | (refine fpure ?_; refine ⟨?_, rfl⟩; have he : stE d u = 8 := stE_8 (by unfold rgO; omega) (by omega) (by first | exact cmO_nn (by omega) | assumption | simp_all); have hc := ferr_at hf (by rw [he]; decide) d.length (by omega); rw [chkD, if_neg (by omega), if_neg (by omega), if_pos (by rw [hc, he]; decide), hc, he]) | (refine fpure ?_; refine ⟨?_, rfl⟩; have hd : u = d.length := (by omega); subst hd; rw [chkD, if_neg (by omega), if_neg (by omega), if_neg (fun hh => hh hf), if_pos (by omega)]) | (refine fpure ?_; refine ⟨?_, rfl⟩; have hd : u = d.length := (by omega); subst hd; rw [chkD, if_neg (by omega), if_neg (by omega), if_neg (fun hh => hh hf), if_neg (by omega)])
       ·
        try simp only [decide_eq_true_eq, decide_eq_false_iff_not, Bool.not_eq_true', Bool.not_eq_false', beq_iff_eq, beq_eq_false_iff_ne, ne_eq] at h7
        refine at_seq rfl ?_
        refine rd rfl rfl ?_
        refine Qq ?_
        refine Qq ?_
        refine Qq ?_
        refine Qp_split (fun h8 => ?_) (fun h8 => ?_)
        ·
         try simp only [decide_eq_true_eq, decide_eq_false_iff_not, Bool.not_eq_true', Bool.not_eq_false', beq_iff_eq, beq_eq_false_iff_ne, ne_eq] at h8
         refine Qy ?_
         refine Qq ?_
         refine Qy ?_
         refine Qq ?_
         refine Qy ?_
         refine Qq ?_
         refine Qy ?_
         refine Qq ?_
         refine Qy ?_
         refine Qq ?_
         refine Qy ?_
         refine Qq ?_
         refine Qy ?_
         refine Qcall ?_
         refine ACall_eq (order_ok _ _ (gt d (u - 1)) (gt d u)) ?_
         refine ⟨rfl, ?_⟩
         refine Qy ?_
         refine Qq ?_
         refine Qq ?_
         refine Qq ?_
         refine Q_nil ?_
         have tr : ∀ a b c d e f g h i j k m n o p q r s t u v w x y z A B : AV, let l := lc_chk25 a b c d e f g h i j k m n o; trim ((40,B)::(52,A)::(51,z)::(50,y)::(49,x)::(48,w)::(47,v)::(46,u)::(45,t)::(44,s)::(43,r)::(42,q)::(41,p)::l) l = [(0,a),(2,b),(3,c),(4,d),(5,e),(6,f),(10,g),(14,h),(15,i),(16,j),(17,k),(21,m),(40,B),(59,o)] := by intros; rfl
         refine R_nil (tr ..) ?_; clear tr
         refine then_n ?_
         refine cdd (fun h9 => ?_) (fun h9 => ?_)
         ·
          try simp only [decide_eq_true_eq, decide_eq_false_iff_not, Bool.not_eq_true', Bool.not_eq_false', beq_iff_eq, beq_eq_false_iff_ne, ne_eq] at h9
          refine at_seq rfl ?_
          refine rg rfl ?_
          refine Rq ?_
          have tr : ∀ a b c d e f g h i j k m n o p : AV, let l := lc_chk25 a b c d e f g h i j k m n o; trim ((2,p)::l) l = [(0,a),(2,p),(3,c),(4,d),(5,e),(6,f),(10,g),(14,h),(15,i),(16,j),(17,k),(21,m),(40,n),(59,o)] := by intros; rfl
          refine R_nil (tr ..) ?_; clear tr
          refine then_n ?_
          refine at_ret rfl ?_
          refine blk_r ?_
          refine then_r ?_
          refine blk_r ?_
          refine then_r ?_
          refine then_r ?_
          refine blk_r ?_
          refine then_r ?_
          first | (refine fpure ?_; refine ⟨?_, rfl⟩; rw [chkD, if_pos (by omega)]) | (refine fpure ?_; refine ⟨?_, rfl⟩; rw [chkD, if_neg (by omega), if_pos (by omega)]) | (refine fpure ?_; refine ⟨?_, rfl⟩; have he : stE d u = 2 := stE_2 (by unfold rgO; omega); have hc := ferr_at hf (by rw [he]; decide) d.length (by omega); rw [chkD, if_neg (by omega), if_neg (by omega), if_pos (by rw [hc, he]; decide), hc, he]) | (refine fpure ?_; refine ⟨?_, rfl⟩; have he : stE d u = 8 := stE_8 (by unfold rgO; omega) (by omega) (by first | exact cmO_nn (by omega) | assumption | simp_all); have hc := ferr_at hf (by rw [he]; decide) d.length (by omega); rw [chkD, if_neg (by omega), if_neg (by omega), if_pos (by rw [hc, he]; decide), hc, he]) | (refine fpure ?_; refine ⟨?_, rfl⟩; have hd : u = d.length := (by omega); subst hd; rw [chkD, if_neg (by omega), if_neg (by omega), if_neg (fun hh => hh hf), if_pos (by omega)]) | (refine fpure ?_; refine ⟨?_, rfl⟩; have hd : u = d.length := (by omega); subst hd; rw [chkD, if_neg (by omega), if_neg (by omega), if_neg (fun hh => hh hf), if_neg (by omega)])
         ·
          try simp only [decide_eq_true_eq, decide_eq_false_iff_not, Bool.not_eq_true', Bool.not_eq_false', beq_iff_eq, beq_eq_false_iff_ne, ne_eq] at h9
          refine at_skip rfl ?_
          refine blk_n ?_
          refine then_n ?_
          refine rg rfl ?_
          refine Rq ?_
          refine Rq ?_
          refine Rq ?_
          refine Rq ?_
          refine Rq ?_
          have tr : ∀ a b c d e f g h i j k m n o p q r s t : AV, let l := lc_chk25 a b c d e f g h i j k m n o; trim ((3,t)::(56,s)::(55,r)::(54,q)::(53,p)::l) l = [(0,a),(2,b),(3,t),(4,d),(5,e),(6,f),(10,g),(14,h),(15,i),(16,j),(17,k),(21,m),(40,n),(59,o)] := by intros; rfl
          refine R_nil (tr ..) ?_; clear tr
          refine blk_n ?_
          refine then_n ?_
          refine rg rfl ?_
          refine Rq ?_
          refine Rq ?_
          have tr : ∀ a b c d e f g h i j k m n o p q : AV, let l := lc_chk25 a b c d e f g h i j k m n o; trim ((16,q)::(57,p)::l) l = [(0,a),(2,b),(3,c),(4,d),(5,e),(6,f),(10,g),(14,h),(15,i),(16,q),(17,k),(21,m),(40,n),(59,o)] := by intros; rfl
          refine R_nil (tr ..) ?_; clear tr
          refine then_n ?_
          exact ⟨_, _, ⟨u + 1, n + (gt d u).w, X ++ [some (ocC (gt d u))], _, _, _, _, _, _, rfl, rfl, by simp; rfl, by omega, by exact ferr_ok hf (stE_0 (by unfold rgO; omega) (by first | (left; omega) | (right; exact cmO_neg (by omega)) | (right; first | assumption | simp_all))), by rw [hn]; rfl⟩, by rfl, by omega⟩
        ·
         try simp only [decide_eq_true_eq, decide_eq_false_iff_not, Bool.not_eq_true', Bool.not_eq_false', beq_iff_eq, beq_eq_false_iff_ne, ne_eq] at h8
         refine Qn ?_
         refine Qn ?_
         refine Qn ?_
         refine Qn ?_
         refine Qn ?_
         refine Qn ?_
         refine Qn ?_
         refine Qn ?_
         refine Qq ?_
         refine Qq ?_
         refine Q_nil ?_
         have tr : ∀ a b c d e f g h i j k m n o p q r s t u v w x y z A B : AV, let l := lc_chk25 a b c d e f g h i j k m n o; trim ((40,B)::(52,A)::(51,z)::(50,y)::(49,x)::(48,w)::(47,v)::(46,u)::(45,t)::(44,s)::(43,r)::(42,q)::(41,p)::l) l = [(0,a),(2,b),(3,c),(4,d),(5,e),(6,f),(10,g),(14,h),(15,i),(16,j),(17,k),(21,m),(40,B),(59,o)] := by intros; rfl
         refine R_nil (tr ..) ?_; clear tr
         refine then_n ?_
         refine cdf ?_
         refine at_skip rfl ?_
         refine blk_n ?_
         refine then_n ?_
         refine rg rfl ?_
         refine Rq ?_
         refine Rq ?_
         refine Rq ?_
         refine Rq ?_
         refine Rq ?_
         have tr : ∀ a b c d e f g h i j k m n o p q r s t : AV, let l := lc_chk25 a b c d e f g h i j k m n o; trim ((3,t)::(56,s)::(55,r)::(54,q)::(53,p)::l) l = [(0,a),(2,b),(3,t),(4,d),(5,e),(6,f),(10,g),(14,h),(15,i),(16,j),(17,k),(21,m),(40,n),(59,o)] := by intros; rfl
         refine R_nil (tr ..) ?_; clear tr
         refine blk_n ?_
         refine then_n ?_
         refine rg rfl ?_
         refine Rq ?_
         refine Rq ?_
         have tr : ∀ a b c d e f g h i j k m n o p q : AV, let l := lc_chk25 a b c d e f g h i j k m n o; trim ((16,q)::(57,p)::l) l = [(0,a),(2,b),(3,c),(4,d),(5,e),(6,f),(10,g),(14,h),(15,i),(16,q),(17,k),(21,m),(40,n),(59,o)] := by intros; rfl
         refine R_nil (tr ..) ?_; clear tr
         refine then_n ?_
         exact ⟨_, _, ⟨u + 1, n + (gt d u).w, X ++ [some (ocC (gt d u))], _, _, _, _, _, _, rfl, rfl, by simp; rfl, by omega, by exact ferr_ok hf (stE_0 (by unfold rgO; omega) (by first | (left; omega) | (right; exact cmO_neg (by omega)) | (right; first | assumption | simp_all))), by rw [hn]; rfl⟩, by rfl, by omega⟩
   ·
    try simp only [decide_eq_true_eq, decide_eq_false_iff_not, Bool.not_eq_true', Bool.not_eq_false', beq_iff_eq, beq_eq_false_iff_ne, ne_eq] at h3
    refine at_exit rfl ?_
    refine then_x ?_
    refine then_x ?_
    refine blk_x ?_
    refine then_n ?_
    refine at_seq rfl ?_
    refine at_seq rfl ?_
    refine rg rfl ?_
    refine Rq ?_
    refine Rq ?_
    have tr : ∀ a b c d e f g h i j k m n o p q : AV, let l := lc_chk25 a b c d e f g h i j k m n o; trim ((59,q)::(58,p)::l) l = [(0,a),(2,b),(3,c),(4,d),(5,e),(6,f),(10,g),(14,h),(15,i),(16,j),(17,k),(21,m),(40,n),(59,q)] := by intros; rfl
    refine R_nil (tr ..) ?_; clear tr
    refine then_n ?_
    refine cdd (fun h10 => ?_) (fun h10 => ?_)
    ·
     try simp only [decide_eq_true_eq, decide_eq_false_iff_not, Bool.not_eq_true', Bool.not_eq_false', beq_iff_eq, beq_eq_false_iff_ne, ne_eq] at h10
     refine at_seq rfl ?_
     refine rg rfl ?_
     refine Rq ?_
     have tr : ∀ a b c d e f g h i j k m n o p : AV, let l := lc_chk25 a b c d e f g h i j k m n o; trim ((2,p)::l) l = [(0,a),(2,p),(3,c),(4,d),(5,e),(6,f),(10,g),(14,h),(15,i),(16,j),(17,k),(21,m),(40,n),(59,o)] := by intros; rfl
     refine R_nil (tr ..) ?_; clear tr
     refine then_n ?_
     refine at_ret rfl ?_
     refine then_r ?_
     first | (refine fpure ?_; refine ⟨?_, rfl⟩; rw [chkD, if_pos (by omega)]) | (refine fpure ?_; refine ⟨?_, rfl⟩; rw [chkD, if_neg (by omega), if_pos (by omega)]) | (refine fpure ?_; refine ⟨?_, rfl⟩; have he : stE d u = 2 := stE_2 (by unfold rgO; omega); have hc := ferr_at hf (by rw [he]; decide) d.length (by omega); rw [chkD, if_neg (by omega), if_neg (by omega), if_pos (by rw [hc, he]; decide), hc, he]) | (refine fpure ?_; refine ⟨?_, rfl⟩; have he : stE d u = 8 := stE_8 (by unfold rgO; omega) (by omega) (by first | exact cmO_nn (by omega) | assumption | simp_all); have hc := ferr_at hf (by rw [he]; decide) d.length (by omega); rw [chkD, if_neg (by omega), if_neg (by omega), if_pos (by rw [hc, he]; decide), hc, he]) | (refine fpure ?_; refine ⟨?_, rfl⟩; have hd : u = d.length := (by omega); subst hd; rw [chkD, if_neg (by omega), if_neg (by omega), if_neg (fun hh => hh hf), if_pos (by omega)]) | (refine fpure ?_; refine ⟨?_, rfl⟩; have hd : u = d.length := (by omega); subst hd; rw [chkD, if_neg (by omega), if_neg (by omega), if_neg (fun hh => hh hf), if_neg (by omega)])
    ·
     try simp only [decide_eq_true_eq, decide_eq_false_iff_not, Bool.not_eq_true', Bool.not_eq_false', beq_iff_eq, beq_eq_false_iff_ne, ne_eq] at h10
     refine at_skip rfl ?_
     refine then_n ?_
     refine at_seq rfl ?_
     refine rg rfl ?_
     refine Rq ?_
     have tr : ∀ a b c d e f g h i j k m n o p : AV, let l := lc_chk25 a b c d e f g h i j k m n o; trim ((2,p)::l) l = [(0,a),(2,p),(3,c),(4,d),(5,e),(6,f),(10,g),(14,h),(15,i),(16,j),(17,k),(21,m),(40,n),(59,o)] := by intros; rfl
     refine R_nil (tr ..) ?_; clear tr
     refine then_n ?_
     refine at_ret rfl ?_
     first | (refine fpure ?_; refine ⟨?_, rfl⟩; rw [chkD, if_pos (by omega)]) | (refine fpure ?_; refine ⟨?_, rfl⟩; rw [chkD, if_neg (by omega), if_pos (by omega)]) | (refine fpure ?_; refine ⟨?_, rfl⟩; have he : stE d u = 2 := stE_2 (by unfold rgO; omega); have hc := ferr_at hf (by rw [he]; decide) d.length (by omega); rw [chkD, if_neg (by omega), if_neg (by omega), if_pos (by rw [hc, he]; decide), hc, he]) | (refine fpure ?_; refine ⟨?_, rfl⟩; have he : stE d u = 8 := stE_8 (by unfold rgO; omega) (by omega) (by first | exact cmO_nn (by omega) | assumption | simp_all); have hc := ferr_at hf (by rw [he]; decide) d.length (by omega); rw [chkD, if_neg (by omega), if_neg (by omega), if_pos (by rw [hc, he]; decide), hc, he]) | (refine fpure ?_; refine ⟨?_, rfl⟩; have hd : u = d.length := (by omega); subst hd; rw [chkD, if_neg (by omega), if_neg (by omega), if_neg (fun hh => hh hf), if_pos (by omega)]) | (refine fpure ?_; refine ⟨?_, rfl⟩; have hd : u = d.length := (by omega); subst hd; rw [chkD, if_neg (by omega), if_neg (by omega), if_neg (fun hh => hh hf), if_neg (by omega)])

abbrev lc_chk30 (a b c d e f g h i j k m n o : AV) : Env := [(0,a),(2,b),(3,c),(4,d),(5,e),(8,f),(11,g),(12,h),(13,i),(14,j),(15,k),(36,m),(48,n),(55,o)]
theorem chk30 (lim : Nat) (H : Heap) (d : List Oc) : ACall sig lim 30 [ocsAV d] H fun r H' => r = AV.i (chkD d) ∧ H' = H := by
 refine ACall_pure (fa := fa30) rfl rfl rfl rfl ?_
 have tr : ∀ a0 : AV, env0 fa30.keep [a0] = [(0,a0),(2,.any),(3,.any),(4,.any),(5,.any),(8,.any),(11,.any),(12,.any),(13,.any),(14,.any),(15,.any),(36,.any),(48,.any),(55,.any)] := fun a0 => rfl
 refine W_to (tr _) ?_; clear tr
 refine at_seq rfl ?_
 refine rg rfl ?_
 refine Rq ?_
 have tr : ∀ a b c d e f g h i j k m n o p : AV, let l := lc_chk30 a b c d e f g h i j k m n o; trim ((2,p)::l) l = [(0,a),(2,p),(3,c),(4,d),(5,e),(8,f),(11,g),(12,h),(13,i),(14,j),(15,k),(36,m),(48,n),(55,o)] := by intros; rfl
 refine R_nil (tr ..) ?_; clear tr
 refine then_n ?_
 refine at_seq rfl ?_
 refine at_seq rfl ?_
 refine rg rfl ?_
 refine Rq ?_
 refine Rq ?_
 refine Rq ?_
 have tr : ∀ a b c d e f g h i j k m n o p q r : AV, let l := lc_chk30 a b c d e f g h i j k m n o; trim ((8,r)::(7,q)::(6,p)::l) l = [(0,a),(2,b),(3,c),(4,d),(5,e),(8,r),(11,g),(12,h),(13,i),(14,j),(15,k),(36,m),(48,n),(55,o)] := by intros; rfl
 refine R_nil (tr ..) ?_; clear tr
 refine then_n ?_
 refine cdd (fun h1 => ?_) (fun h1 => ?_)
 ·
  try simp only [decide_eq_true_eq, decide_eq_false_iff_not, Bool.not_eq_true', Bool.not_eq_false', beq_iff_eq, beq_eq_false_iff_ne, ne_eq] at h1
  refine at_seq rfl ?_
  refine rg rfl ?_
  refine Rq ?_
  have tr : ∀ a b c d e f g h i j k m n o p : AV, let l := lc_chk30 a b c d e f g h i j k m n o; trim ((2,p)::l) l = [(0,a),(2,p),(3,c),(4,d),(5,e),(8,f),(11,g),(12,h),(13,i),(14,j),(15,k),(36,m),(48,n),(55,o)] := by intros; rfl
  refine R_nil (tr ..) ?_; clear tr
  refine then_n ?_
  refine at_ret rfl ?_
  refine then_r ?_
  first | (refine fpure ?_; refine ⟨?_, rfl⟩; rw [chkD, if_pos (by omega)]) | (refine fpure ?_; refine ⟨?_, rfl⟩; rw [chkD, if_neg (by omega), if_pos (by omega)]) | (refine fpure ?_; refine ⟨?_, rfl⟩; have he : stE d u = 2 := stE_2 (by unfold rgO; omega); have hc := ferr_at hf (by rw [he]; decide) d.length (by omega); rw [chkD, if_neg (by omega), if_neg (by omega), if_pos (by rw [hc, he]; decide), hc, he]) | (refine fpure ?_; refine ⟨?_, rfl⟩; have he : stE d u = 8 := stE_8 (by unfold rgO; omega) (by omega) (by first | exact cmO_nn (by omega) | assumption | simp_all); have hc := ferr_at hf (by rw [he]; decide) d.length (by omega); rw [chkD, if_neg (by omega), if_neg (by omega), if_pos (by rw [hc, he]; decide), hc, he]) | (refine fpure ?_; refine ⟨?_, rfl⟩; have hd : u = d.length := (by omega); subst hd; rw [chkD, if_neg (by omega), if_neg (by omega), if_neg (fun hh => hh hf), if_pos (by omega)]) | (refine fpure ?_; refine ⟨?_, rfl⟩; have hd : u = d.length := (by omega); subst hd; rw [chkD, if_neg (by omega), if_neg (by omega), if_neg (fun hh => hh hf), if_neg (by omega)])
 ·
  try simp only [decide_eq_true_eq, decide_eq_false_iff_not, Bool.not_eq_true', Bool.not_eq_false', beq_iff_eq, beq_eq_false_iff_ne, ne_eq] at h1
  refine at_skip rfl ?_
  refine then_n ?_
  refine at_seq rfl ?_
  refine at_seq rfl ?_
  refine rg rfl ?_
  refine Rq ?_
  refine Rq ?_
  refine Rq ?_
  have tr : ∀ a b c d e f g h i j k m n o p q r : AV, let l := lc_chk30 a b c d e f g h i j k m n o; trim ((11,r)::(10,q)::(9,p)::l) l = [(0,a),(2,b),(3,c),(4,d),(5,e),(8,f),(11,r),(12,h),(13,i),(14,j),(15,k),(36,m),(48,n),(55,o)] := by intros; rfl
  refine R_nil (tr ..) ?_; clear tr
  refine then_n ?_
  refine cdd (fun h2 => ?_) (fun h2 => ?_)
  ·
   try simp only [decide_eq_true_eq, decide_eq_false_iff_not, Bool.not_eq_true', Bool.not_eq_false', beq_iff_eq, beq_eq_false_iff_ne, ne_eq] at h2
   refine at_seq rfl ?_
   refine rg rfl ?_
   refine Rq ?_
   have tr : ∀ a b c d e f g h i j k m n o p : AV, let l := lc_chk30 a b c d e f g h i j k m n o; trim ((2,p)::l) l = [(0,a),(2,p),(3,c),(4,d),(5,e),(8,f),(11,g),(12,h),(13,i),(14,j),(15,k),(36,m),(48,n),(55,o)] := by intros; rfl
   refine R_nil (tr ..) ?_; clear tr
   refine then_n ?_
   refine at_ret rfl ?_
   refine then_r ?_
   first | (refine fpure ?_; refine ⟨?_, rfl⟩; rw [chkD, if_pos (by omega)]) | (refine fpure ?_; refine ⟨?_, rfl⟩; rw [chkD, if_neg (by omega), if_pos (by omega)]) | (refine fpure ?_; refine ⟨?_, rfl⟩; have he : stE d u = 2 := stE_2 (by unfold rgO; omega); have hc := ferr_at hf (by rw [he]; decide) d.length (by omega); rw [chkD, if_neg (by omega), if_neg (by omega), if_pos (by rw [hc, he]; decide), hc, he]) | (refine fpure ?_; refine ⟨?_, rfl⟩; have he : stE d u = 8 := stE_8 (by unfold rgO; omega) (by omega) (by first | exact cmO_nn (by omega) | assumption | simp_all); have hc := ferr_at hf (by rw [he]; decide) d.length (by omega); rw [chkD, if_neg (by omega), if_neg (by omega), if_pos (by rw [hc, he]; decide), hc, he]) | (refine fpure ?_; refine ⟨?_, rfl⟩; have hd : u = d.length := (by omega); subst hd; rw [chkD, if_neg (by omega), if_neg (by omega), if_neg (fun hh => hh hf), if_pos (by omega)]) | (refine fpure ?_; refine ⟨?_, rfl⟩; have hd : u = d.length := (by omega); subst hd; rw [chkD, if_neg (by omega), if_neg (by omega), if_neg (fun hh => hh hf), if_neg (by omega)])
  ·
   try simp only [decide_eq_true_eq, decide_eq_false_iff_not, Bool.not_eq_true', Bool.not_eq_false', beq_iff_eq, beq_eq_false_iff_ne, ne_eq] at h2
   refine at_skip rfl ?_
   refine then_n ?_
   refine at_seq rfl ?_
   refine rg rfl ?_
   refine Rq ?_
   have tr : ∀ a b c d e f g h i j k m n o p : AV, let l := lc_chk30 a b c d e f g h i j k m n o; trim ((3,p)::l) l = [(0,a),(2,b),(3,p),(4,d),(5,e),(8,f),(11,g),(12,h),(13,i),(14,j),(15,k),(36,m),(48,n),(55,o)] := by intros; rfl
   refine R_nil (tr ..) ?_; clear tr
   refine then_n ?_
   refine at_seq rfl ?_
   refine at_seq rfl ?_
   refine rg rfl ?_
   refine Rq ?_
   refine Rq ?_
   refine Rq ?_
   have tr : ∀ a b c d e f g h i j k m n o p q r : AV, let l := lc_chk30 a b c d e f g h i j k m n o; trim ((14,r)::(13,q)::(12,p)::l) l = [(0,a),(2,b),(3,c),(4,d),(5,e),(8,f),(11,g),(12,p),(13,q),(14,r),(15,k),(36,m),(48,n),(55,o)] := by intros; rfl
   refine R_nil (tr ..) ?_; clear tr
   refine then_n ?_
   refine at_block rfl ?_
   refine loop_n rfl (fun mm kv H' => ∃ u : Nat, ∃ n : Int, ∃ X : Heap, ∃ x2 x4 x5 x15 x36 x48 : AV, (kv = [(2, x2), (3, AV.i n), (4, x4), (5, x5), (14, AV.i u), (15, x15), (36, x36), (48, x48)]) ∧ (mm = d.length - u) ∧ (H' = H ++ X) ∧ (u ≤ d.length) ∧ (ferr (stE d) u = 0) ∧ (n = sW d u)) ⟨0, 0, [], _, _, _, _, _, _, rfl, rfl, by simp, by omega, by rfl, by rfl⟩ (by rfl) ?_
   rintro mm kv H1 ⟨u, n, X, x2, x4, x5, x15, x36, x48, rfl, rfl, hX, hu, hf, hn⟩
   have tr : ∀ a b c d e f g h i j k m n o p q r s t u v w : AV, upd [(0,a),(2,b),(3,c),(4,d),(5,e),(8,f),(11,g),(12,h),(13,i),(14,j),(15,k),(36,m),(48,n),(55,o)] [(2,p),(3,q),(4,r),(5,s),(14,t),(15,u),(36,v),(48,w)] = [(0,a),(2,p),(3,q),(4,r),(5,s),(8,f),(11,g),(12,h),(13,i),(14,t),(15,u),(36,v),(48,w),(55,o)] := by intros; rfl
   refine W_to (tr ..) ?_; clear tr
   subst hX
   have hbx := sW_box hf
   refine at_seq rfl ?_
   refine rg rfl ?_
   refine Rq ?_
   have tr : ∀ a b c d e f g h i j k m n o p : AV, let l := lc_chk30 a b c d e f g h i j k m n o; trim ((15,p)::l) l = [(0,a),(2,b),(3,c),(4,d),(5,e),(8,f),(11,g),(12,h),(13,i),(14,j),(15,p),(36,m),(48,n),(55,o)] := by intros; rfl
   refine R_nil (tr ..) ?_; clear tr
   refine then_n ?_
   refine at_seq rfl ?_
   refine cdd (fun h3 => ?_) (fun h3 => ?_)
   ·
    try simp only [decide_eq_true_eq, decide_eq_false_iff_not, Bool.not_eq_true', Bool.not_eq_false', beq_iff_eq, beq_eq_false_iff_ne, ne_eq] at h3
    refine at_skip rfl ?_
    refine then_n ?_
    refine at_seq rfl ?_
    refine at_block rfl ?_
    refine at_seq rfl ?_
    refine rg rfl ?_
    refine Rq ?_
    refine Rq ?_
    refine Rq ?_
    refine R_alloc (by simp (disch := first | omega | (simp only [List.length_map, List.length_append, List.length_set, List.length_cons, List.length_nil]; omega)) only [go_sem, ↓reduceIte, Nat.reduceEqDiff, reduceCtorEq] <;> rfl) rfl (by simp only [List.map_cons, List.map_nil]; rfl) ?_
    refine Rq ?_
    refine R_store ty68 (by simp (disch := first | omega | (simp only [List.length_map, List.length_append, List.length_set, List.length_cons, List.length_nil]; omega)) only [go_sem, ↓reduceIte, Nat.reduceEqDiff, reduceCtorEq] <;> rfl) (by simp (disch := first | omega | (simp only [List.length_map, List.length_append, List.length_set, List.length_cons, List.length_nil]; omega)) only [go_sem, ↓reduceIte, Nat.reduceEqDiff, reduceCtorEq] <;> rfl) (by simp (disch := first | omega | (simp only [List.length_map, List.length_append, List.length_set, List.length_cons, List.length_nil]; omega)) only [go_sem, ↓reduceIte, Nat.reduceEqDiff, reduceCtorEq] <;> rfl) (by simp) (by rfl) (by simp (disch := first | omega | (simp only [List.length_map, List.length_append, List.length_set, List.length_cons, List.length_nil]; omega)) only [go_sem, ↓reduceIte, Nat.reduceEqDiff, reduceCtorEq] <;> rfl) ?_
    have tr : ∀ a b c d e f g h i j k m n o p q r s t : AV, let l := lc_chk30 a b c d e f g h i j k m n o; trim ((4,t)::(5,s)::(18,r)::(17,q)::(16,p)::l) l = [(0,a),(2,b),(3,c),(4,t),(5,s),(8,f),(11,g),(12,h),(13,i),(14,j),(15,k),(36,m),(48,n),(55,o)] := by intros; rfl
    refine R_nil (tr ..) ?_; clear tr
    refine then_n ?_
    refine at_seq rfl ?_
    refine at_seq rfl ?_
    refine rg rfl ?_
    refine Rq ?_
    refine Rq ?_
    refine Rq ?_
    refine Rq ?_
    refine Rp_split (fun h4 => ?_) (fun h4 => ?_)
    ·
     try simp only [decide_eq_true_eq, decide_eq_false_iff_not, Bool.not_eq_true', Bool.not_eq_false', beq_iff_eq, beq_eq_false_iff_ne, ne_eq] at h4
     refine Rn ?_
     refine Rn ?_
     refine Rn ?_
     refine Rq ?_
     refine Rq ?_
     refine Rn ?_
     refine Rn ?_
     refine Rn ?_
     refine Rq ?_
     refine Rq ?_
     refine Rn ?_
     refine Rn ?_
     refine Rn ?_
     refine Rq ?_
     have tr : ∀ a b c d e f g h i j k m n o p q r s t u v w x y z A B C D E F G : AV, let l := lc_chk30 a b c d e f g h i j k m n o; trim ((36,G)::(35,F)::(34,E)::(33,D)::(32,C)::(31,B)::(30,A)::(29,z)::(28,y)::(27,x)::(26,w)::(25,v)::(24,u)::(23,t)::(22,s)::(21,r)::(20,q)::(19,p)::l) l = [(0,a),(2,b),(3,c),(4,d),(5,e),(8,f),(11,g),(12,h),(13,i),(14,j),(15,k),(36,G),(48,n),(55,o)] := by intros; rfl
     refine R_nil (tr ..) ?_; clear tr
     refine then_n ?_
     refine cdt ?_
     refine at_seq rfl ?_
     refine rg rfl ?_
     refine Rq ?_
     have tr : ∀ a b c d e f g h i j k m n o p : AV, let l := lc_chk30 a b c d e f g h i j k m n o; trim ((2,p)::l) l = [(0,a),(2,p),(3,c),(4,d),(5,e),(8,f),(11,g),(12,h),(13,i),(14,j),(15,k),(36,m),(48,n),(55,o)] := by intros; rfl
     refine R_nil (tr ..) ?_; clear tr
     refine then_n ?_
     refine at_ret rfl ?_
     refine then_r ?_
     refine blk_r ?_
     refine then_r ?_
     refine then_r ?_
     refine blk_r ?_
     refine then_r ?_
     first | (refine fpure ?_; refine ⟨?_, rfl⟩; rw [chkD, if_pos (by omega)]) | (refine fpure ?_; refine ⟨?_, rfl⟩; rw [chkD, if_neg (by omega), if_pos (by omega)]) | (refine fpure ?_; refine ⟨?_, rfl⟩; have he : stE d u = 2 := stE_2 (by unfold rgO; omega); have hc := ferr_at hf (by rw [he]; decide) d.length (by omega); rw [chkD, if_neg (by omega), if_neg (by omega), if_pos (by rw [hc, he]; decide), hc, he]) | (refine fpure ?_; refine ⟨?_, rfl⟩; have he : stE d u = 8 := stE_8 (by unfold rgO; omega) (by omega) (by first | exact cmO_nn (by omega) | assumption | simp_all); have hc := ferr_at hf (by rw [he]; decide) d.length (by omega); rw [chkD, if_neg (by omega), if_neg (by omega), if_pos (by rw [hc, he]; decide), hc, he]) | (refine fpure ?_; refine ⟨?_, rfl⟩; have hd : u = d.length := (by omega); subst hd; rw [chkD, if_neg (by omega), if_neg (by omega), if_neg (fun hh => hh hf), if_pos (by omega)]) | (refine fpure ?_; refine ⟨?_, rfl⟩; have hd : u = d.length := (by omega); subst hd; rw [chkD, if_neg (by omega), if_neg (by omega), if_neg (fun hh => hh hf), if_neg (by omega)])
    ·
     try simp only [decide_eq_true_eq, decide_eq_false_iff_not, Bool.not_eq_true', Bool.not_eq_false', beq_iff_eq, beq_eq_false_iff_ne, ne_eq] at h4
     refine Ry ?_
     refine Rq ?_
     refine Ry ?_
     refine Rq ?_
     refine Ry ?_
     refine Rq ?_
     refine Rq ?_
     refine Rq ?_
     refine Rp_split (fun h5 => ?_) (fun h5 => ?_)
     ·
      try simp only [decide_eq_true_eq, decide_eq_false_iff_not, Bool.not_eq_true', Bool.not_eq_false', beq_iff_eq, beq_eq_false_iff_ne, ne_eq] at h5
      refine Rn ?_
      refine Rn ?_
      refine Rn ?_
      refine Rq ?_
      refine Rq ?_
      refine Rn ?_
      refine Rn ?_
      refine Rn ?_
      refine Rq ?_
      have tr : ∀ a b c d e f g h i j k m n o p q r s t u v w x y z A B C D E F G : AV, let l := lc_chk30 a b c d e f g h i j k m n o; trim ((36,G)::(35,F)::(34,E)::(33,D)::(32,C)::(31,B)::(30,A)::(29,z)::(28,y)::(27,x)::(26,w)::(25,v)::(24,u)::(23,t)::(22,s)::(21,r)::(20,q)::(19,p)::l) l = [(0,a),(2,b),(3,c),(4,d),(5,e),(8,f),(11,g),(12,h),(13,i),(14,j),(15,k),(36,G),(48,n),(55,o)] := by intros; rfl
      refine R_nil (tr ..) ?_; clear tr
      refine then_n ?_
      refine cdt ?_
      refine at_seq rfl ?_
      refine rg rfl ?_
      refine Rq ?_
      have tr : ∀ a b c d e f g h i j k m n o p : AV, let l := lc_chk30 a b c d e f g h i j k m n o; trim ((2,p)::l) l = [(0,a),(2,p),(3,c),(4,d),(5,e),(8,f),(11,g),(12,h),(13,i),(14,j),(15,k),(36,m),(48,n),(55,o)] := by intros; rfl
      refine R_nil (tr ..) ?_; clear tr
      refine then_n ?_
      refine at_ret rfl ?_
      refine then_r ?_
      refine blk_r ?_
      refine then_r ?_
      refine then_r ?_
      refine blk_r ?_
      refine then_r ?_
      first | (refine fpure ?_; refine ⟨?_, rfl⟩; rw [chkD, if_pos (by omega)]) | (refine fpure ?_; refine ⟨?_, rfl⟩; rw [chkD, if_neg (by omega), if_pos (by omega)]) | (refine fpure ?_; refine ⟨?_, rfl⟩; have he : stE d u = 2 := stE_2 (by unfold rgO; omega); have hc := ferr_at hf (by rw [he]; decide) d.length (by omega); rw [chkD, if_neg (by omega), if_neg (by omega), if_pos (by rw [hc, he]; decide), hc, he]) | (refine fpure ?_; refine ⟨?_, rfl⟩; have he : stE d u = 8 := stE_8 (by unfold rgO; omega) (by omega) (by first | exact cmO_nn (by omega) | assumption | simp_all); have hc := ferr_at hf (by rw [he]; decide) d.length (by omega); rw [chkD, if_neg (by omega), if_neg (by omega), if_pos (by rw [hc, he]; decide), hc, he]) | (refine fpure ?_; refine ⟨?_, rfl⟩; have hd : u = d.length := (by omega); subst hd; rw [chkD, if_neg (by omega), if_neg (by omega), if_neg (fun hh => hh hf), if_pos (by omega)]) | (refine fpure ?_; refine ⟨?_, rfl⟩; have hd : u = d.length := (by omega); subst hd; rw [chkD, if_neg (by omega), if_neg (by omega), if_neg (fun hh => hh hf), if_neg (by omega)])
     ·
      try simp only [decide_eq_true_eq, decide_eq_false_iff_not, Bool.not_eq_true', Bool.not_eq_false', beq_iff_eq, beq_eq_false_iff_ne, ne_eq] at h5
      refine Ry ?_
      refine Rq ?_
      refine Ry ?_
      refine Rq ?_
      refine Ry ?_
      refine Rq ?_
      refine Rq ?_
      refine Rq ?_
      refine Rp_split (fun h6 => ?_) (fun h6 => ?_)
      ·
       try simp only [decide_eq_true_eq, decide_eq_false_iff_not, Bool.not_eq_true', Bool.not_eq_false', beq_iff_eq, beq_eq_false_iff_ne, ne_eq] at h6
       refine Rn ?_
       refine Rn ?_
       refine Rn ?_
       refine Rq ?_
       have tr : ∀ a b c d e f g h i j k m n o p q r s t u v w x y z A B C D E F G : AV, let l := lc_chk30 a b c d e f g h i j k m n o; trim ((36,G)::(35,F)::(34,E)::(33,D)::(32,C)::(31,B)::(30,A)::(29,z)::(28,y)::(27,x)::(26,w)::(25,v)::(24,u)::(23,t)::(22,s)::(21,r)::(20,q)::(19,p)::l) l = [(0,a),(2,b),(3,c),(4,d),(5,e),(8,f),(11,g),(12,h),(13,i),(14,j),(15,k),(36,G),(48,n),(55,o)] := by intros; rfl
       refine R_nil (tr ..) ?_; clear tr
       refine then_n ?_
       refine cdt ?_
       refine at_seq rfl ?_
       refine rg rfl ?_
       refine Rq ?_
       have tr : ∀ a b c d e f g h i j k m n o p : AV, let l := lc_chk30 a b c d e f g h i j k m n o; trim ((2,p)::l) l = [(0,a),(2,p),(3,c),(4,d),(5,e),(8,f),(11,g),(12,h),(13,i),(14,j),(15,k),(36,m),(48,n),(55,o)] := by intros; rfl
       refine R_nil (tr ..) ?_; clear tr
       refine then_n ?_
       refine at_ret rfl ?_
       refine then_r ?_
       refine blk_r ?_
       refine then_r ?_
       refine then_r ?_
       refine blk_r ?_
       refine then_r ?_
       first | (refine fpure ?_; refine ⟨?_, rfl⟩; rw [chkD, if_pos (by omega)]) | (refine fpure ?_; refine ⟨?_, rfl⟩; rw [chkD, if_neg (by omega), if_pos (by omega)]) | (refine fpure ?_; refine ⟨?_, rfl⟩; have he : stE d u = 2 := stE_2 (by unfold rgO; omega); have hc := ferr_at hf (by rw [he]; decide) d.length (by omega); rw [chkD, if_neg (by omega), if_neg (by omega), if_pos (by rw [hc, he]; decide), hc, he]) | (refine fpure ?_; refine ⟨?_, rfl⟩; have he : stE d u = 8 := stE_8 (by unfold rgO; omega) (by omega) (by first | exact cmO_nn (by omega) | assumption | simp_all); have hc := ferr_at hf (by rw [he]; decide) d.length (by omega); rw [chkD, if_neg (by omega), if_neg (by omega), if_pos (by rw [hc, he]; decide), hc, he]) | (refine fpure ?_; refine ⟨?_, rfl⟩; have hd : u = d.length := (by omega); subst hd; rw [chkD, if_neg (by omega), if_neg (by omega), if_neg (fun hh => hh hf), if_pos (by omega)]) | (refine fpure ?_; refine ⟨?_, rfl⟩; have hd : u = d.length := (by omega); subst hd; rw [chkD, if_neg (by omega), if_neg (by omega), if_neg (fun hh => hh hf), if_neg (by omega)])
      ·
       try simp only [decide_eq_true_eq, decide_eq_false_iff_not, Bool.not_eq_true', Bool.not_eq_false', beq_iff_eq, beq_eq_false_iff_ne, ne_eq] at h6
       refine Ry ?_
       refine Rq ?_
       refine Ry ?_
       refine Rq ?_
       refine Ry ?_
       refine Rq ?_
       refine Rq ?_
       have tr : ∀ a b c d e f g h i j k m n o p q r s t u v w x y z A B C D E F G : AV, let l := lc_chk30 a b c d e f g h i j k m n o; trim ((36,G)::(35,F)::(34,E)::(33,D)::(32,C)::(31,B)::(30,A)::(29,z)::(28,y)::(27,x)::(26,w)::(25,v)::(24,u)::(23,t)::(22,s)::(21,r)::(20,q)::(19,p)::l) l = [(0,a),(2,b),(3,c),(4,d),(5,e),(8,f),(11,g),(12,h),(13,i),(14,j),(15,k),(36,G),(48,n),(55,o)] := by intros; rfl
       refine R_nil (tr ..) ?_; clear tr
       refine then_n ?_
       refine cdd (fun h7 => ?_) (fun h7 => ?_)
       ·
        try simp only [decide_eq_true_eq, decide_eq_false_iff_not, Bool.not_eq_true', Bool.not_eq_false', beq_iff_eq, beq_eq_false_iff_ne, ne_eq] at h7
        refine at_seq rfl ?_
        refine rg rfl ?_
        refine Rq ?_
        have tr : ∀ a b c d e f g h i j k m n o p : AV, let l := lc_chk30 a b c d e f g h i j k m n o; trim ((2,p)::l) l = [(0,a),(2,p),(3,c),(4,d),(5,e),(8,f),(11,g),(12,h),(13,i),(14,j),(15,k),(36,m),(48,n),(55,o)] := by intros; rfl
        refine R_nil (tr ..) ?_; clear tr
        refine then_n ?_
        refine at_ret rfl ?_
        refine then_r ?_
        refine blk_r ?_
        refine then_r ?_
        refine then_r ?_
        refine blk_r ?_
        refine then_r ?_
        first | (refine fpure ?_; refine ⟨?_, rfl⟩; rw [chkD, if_pos (by omega)]) | (refine fpure ?_; refine ⟨?_, rfl⟩; rw [chkD, if_neg (by omega), if_pos (by omega)]) | (refine fpure ?_; refine ⟨?_, rfl⟩; have he : stE d u = 2 := stE_2 (by unfold rgO; omega); have hc := ferr_at hf (by rw [he]; decide) d.length (by omega); rw [chkD, if_neg (by omega), if_neg (by omega), if_pos (by rw [hc, he]; decide), hc, he]) | (refine fpure ?_; refine ⟨?_, rfl⟩; have he : stE d u = 8 := stE_8 (by unfold rgO; omega) (by omega) (by first | exact cmO_nn (by omega) | assumption | simp_all); have hc := ferr_at hf (by rw [he]; decide) d.length (by omega); rw [chkD, if_neg (by omega), if_neg (by omega), if_pos (by rw [hc, he]; decide), hc, he]) | (refine fpure ?_; refine ⟨?_, rfl⟩; have hd : u = d.length := (by omega); subst hd; rw [chkD, if_neg (by omega), if_neg (by omega), if_neg (fun hh => hh hf), if_pos (by omega)]) | (refine fpure ?_; refine ⟨?_, rfl⟩; have hd : u = d.length := (by omega); subst hd; rw [chkD, if_neg (by omega), if_neg (by omega), if_neg (fun hh => hh hf), if_neg (by omega)])
       ·
        try simp only [decide_eq_true_eq, decide_eq_false_iff_not, Bool.not_eq_true', Bool.not_eq_false', beq_iff_eq, beq_eq_false_iff_ne, ne_eq] at h7
        refine at_skip rfl ?_
        refine then_n ?_
        refine at_seq rfl ?_
        refine at_seq rfl ?_
        refine rd rfl rfl ?_
        refine Qq ?_
        refine Qq ?_
        refine Qq ?_
        refine Qp_split (fun h8 => ?_) (fun h8 => ?_)
        ·
         try simp only [decide_eq_true_eq, decide_eq_false_iff_not, Bool.not_eq_true', Bool.not_eq_false', beq_iff_eq, beq_eq_false_iff_ne, ne_eq] at h8
         refine Qy ?_
         refine Qq ?_
         refine Qy ?_
         refine Qq ?_
         refine Qy ?_
         refine Qq ?_
         refine Qy ?_
         refine Qq ?_
         refine Qy ?_
         refine Qq ?_
         refine Qy ?_
         refine Qq ?_
         refine Qy ?_
         refine Qcall ?_
         refine ACall_eq (before_ok _ _ (gt d (u - 1)) (gt d u)) ?_
         refine ⟨rfl, ?_⟩
         refine Qy ?_
         refine Qq ?_
         refine Qq ?_
         refine Q_nil ?_
         have tr : ∀ a b c d e f g h i j k m n o p q r s t u v w x y z A : AV, let l := lc_chk30 a b c d e f g h i j k m n o; trim ((48,A)::(47,z)::(46,y)::(45,x)::(44,w)::(43,v)::(42,u)::(41,t)::(40,s)::(39,r)::(38,q)::(37,p)::l) l = [(0,a),(2,b),(3,c),(4,d),(5,e),(8,f),(11,g),(12,h),(13,i),(14,j),(15,k),(36,m),(48,A),(55,o)] := by intros; rfl
         refine R_nil (tr ..) ?_; clear tr
         refine then_n ?_
         refine cdd (fun h9 => ?_) (fun h9 => ?_)
         ·
          try simp only [decide_eq_true_eq, decide_eq_false_iff_not, Bool.not_eq_true', Bool.not_eq_false', beq_iff_eq, beq_eq_false_iff_ne, ne_eq] at h9
          refine at_seq rfl ?_
          refine rg rfl ?_
          refine Rq ?_
          have tr : ∀ a b c d e f g h i j k m n o p : AV, let l := lc_chk30 a b c d e f g h i j k m n o; trim ((2,p)::l) l = [(0,a),(2,p),(3,c),(4,d),(5,e),(8,f),(11,g),(12,h),(13,i),(14,j),(15,k),(36,m),(48,n),(55,o)] := by intros; rfl
          refine R_nil (tr ..) ?_; clear tr
          refine then_n ?_
          refine at_ret rfl ?_
          refine then_r ?_
          refine blk_r ?_
          refine then_r ?_
          refine then_r ?_
          refine blk_r ?_
          refine then_r ?_
          first | (refine fpure ?_; refine ⟨?_, rfl⟩; rw [chkD, if_pos (by omega)]) | (refine fpure ?_; refine ⟨?_, rfl⟩; rw [chkD, if_neg (by omega), if_pos (by omega)]) | (refine fpure ?_; refine ⟨?_, rfl⟩; have he : stE d u = 2 := stE_2 (by unfold rgO; omega); have hc := ferr_at hf (by rw [he]; decide) d.length (by omega); rw [chkD, if_neg (by omega), if_neg (by omega), if_pos (by rw [hc, he]; decide), hc, he]) | (refine fpure ?_; refine ⟨?_, rfl⟩; have he : stE d u = 8 := stE_8 (by unfold rgO; omega) (by omega) (by first | exact cmO_nn (by omega) | assumption | simp_all); have hc := ferr_at hf (by rw [he]; decide) d.length (by omega); rw [chkD, if_neg (by omega), if_neg (by omega), if_pos (by rw [hc, he]; decide), hc, he]) | (refine fpure ?_; refine ⟨?_, rfl⟩; have hd : u = d.length := (by omega); subst hd; rw [chkD, if_neg (by omega), if_neg (by omega), if_neg (fun hh => hh hf), if_pos (by omega)]) | (refine fpure ?_; refine ⟨?_, rfl⟩; have hd : u = d.length := (by omega); subst hd; rw [chkD, if_neg (by omega), if_neg (by omega), if_neg (fun hh => hh hf), if_neg (by omega)])
         ·
          try simp only [decide_eq_true_eq, decide_eq_false_iff_not, Bool.not_eq_true', Bool.not_eq_false', beq_iff_eq, beq_eq_false_iff_ne, ne_eq] at h9
          refine at_skip rfl ?_
          refine then_n ?_
          refine rg rfl ?_
          refine Rq ?_
          refine Rq ?_
          refine Rq ?_
          refine Rq ?_
          refine Rq ?_
          have tr : ∀ a b c d e f g h i j k m n o p q r s t : AV, let l := lc_chk30 a b c d e f g h i j k m n o; trim ((3,t)::(52,s)::(51,r)::(50,q)::(49,p)::l) l = [(0,a),(2,b),(3,t),(4,d),(5,e),(8,f),(11,g),(12,h),(13,i),(14,j),(15,k),(36,m),(48,n),(55,o)] := by intros; rfl
          refine R_nil (tr ..) ?_; clear tr
          refine blk_n ?_
          refine then_n ?_
          refine rg rfl ?_
          refine Rq ?_
          refine Rq ?_
          have tr : ∀ a b c d e f g h i j k m n o p q : AV, let l := lc_chk30 a b c d e f g h i j k m n o; trim ((14,q)::(53,p)::l) l = [(0,a),(2,b),(3,c),(4,d),(5,e),(8,f),(11,g),(12,h),(13,i),(14,q),(15,k),(36,m),(48,n),(55,o)] := by intros; rfl
          refine R_nil (tr ..) ?_; clear tr
          refine then_n ?_
          exact ⟨_, _, ⟨u + 1, n + (gt d u).w, X ++ [some (ocC (gt d u))], _, _, _, _, _, _, rfl, rfl, by simp; rfl, by omega, by exact ferr_ok hf (stE_0 (by unfold rgO; omega) (by first | (left; omega) | (right; exact cmO_neg (by omega)) | (right; first | assumption | simp_all))), by rw [hn]; rfl⟩, by rfl, by omega⟩
        ·
         try simp only [decide_eq_true_eq, decide_eq_false_iff_not, Bool.not_eq_true', Bool.not_eq_false', beq_iff_eq, beq_eq_false_iff_ne, ne_eq] at h8
         refine Qn ?_
         refine Qn ?_
         refine Qn ?_
         refine Qn ?_
         refine Qn ?_
         refine Qn ?_
         refine Qn ?_
         refine Qn ?_
         refine Qq ?_
         refine Q_nil ?_
         have tr : ∀ a b c d e f g h i j k m n o p q r s t u v w x y z A : AV, let l := lc_chk30 a b c d e f g h i j k m n o; trim ((48,A)::(47,z)::(46,y)::(45,x)::(44,w)::(43,v)::(42,u)::(41,t)::(40,s)::(39,r)::(38,q)::(37,p)::l) l = [(0,a),(2,b),(3,c),(4,d),(5,e),(8,f),(11,g),(12,h),(13,i),(14,j),(15,k),(36,m),(48,A),(55,o)] := by intros; rfl
         refine R_nil (tr ..) ?_; clear tr
         refine then_n ?_
         refine cdf ?_
         refine at_skip rfl ?_
         refine then_n ?_
         refine rg rfl ?_
         refine Rq ?_
         refine Rq ?_
         refine Rq ?_
         refine Rq ?_
         refine Rq ?_
         have tr : ∀ a b c d e f g h i j k m n o p q r s t : AV, let l := lc_chk30 a b c d e f g h i j k m n o; trim ((3,t)::(52,s)::(51,r)::(50,q)::(49,p)::l) l = [(0,a),(2,b),(3,t),(4,d),(5,e),(8,f),(11,g),(12,h),(13,i),(14,j),(15,k),(36,m),(48,n),(55,o)] := by intros; rfl
         refine R_nil (tr ..) ?_; clear tr
         refine blk_n ?_
         refine then_n ?_
         refine rg rfl ?_
         refine Rq ?_
         refine Rq ?_
         have tr : ∀ a b c d e f g h i j k m n o p q : AV, let l := lc_chk30 a b c d e f g h i j k m n o; trim ((14,q)::(53,p)::l) l = [(0,a),(2,b),(3,c),(4,d),(5,e),(8,f),(11,g),(12,h),(13,i),(14,q),(15,k),(36,m),(48,n),(55,o)] := by intros; rfl
         refine R_nil (tr ..) ?_; clear tr
         refine then_n ?_
         exact ⟨_, _, ⟨u + 1, n + (gt d u).w, X ++ [some (ocC (gt d u))], _, _, _, _, _, _, rfl, rfl, by simp; rfl, by omega, by exact ferr_ok hf (stE_0 (by unfold rgO; omega) (by first | (left; omega) | (right; exact cmO_neg (by omega)) | (right; first | assumption | simp_all))), by rw [hn]; rfl⟩, by rfl, by omega⟩
   ·
    try simp only [decide_eq_true_eq, decide_eq_false_iff_not, Bool.not_eq_true', Bool.not_eq_false', beq_iff_eq, beq_eq_false_iff_ne, ne_eq] at h3
    refine at_exit rfl ?_
    refine then_x ?_
    refine then_x ?_
    refine blk_x ?_
    refine then_n ?_
    refine at_seq rfl ?_
    refine at_seq rfl ?_
    refine rg rfl ?_
    refine Rq ?_
    refine Rq ?_
    have tr : ∀ a b c d e f g h i j k m n o p q : AV, let l := lc_chk30 a b c d e f g h i j k m n o; trim ((55,q)::(54,p)::l) l = [(0,a),(2,b),(3,c),(4,d),(5,e),(8,f),(11,g),(12,h),(13,i),(14,j),(15,k),(36,m),(48,n),(55,q)] := by intros; rfl
    refine R_nil (tr ..) ?_; clear tr
    refine then_n ?_
    refine cdd (fun h10 => ?_) (fun h10 => ?_)
    ·
     try simp only [decide_eq_true_eq, decide_eq_false_iff_not, Bool.not_eq_true', Bool.not_eq_false', beq_iff_eq, beq_eq_false_iff_ne, ne_eq] at h10
     refine at_seq rfl ?_
     refine rg rfl ?_
     refine Rq ?_
     have tr : ∀ a b c d e f g h i j k m n o p : AV, let l := lc_chk30 a b c d e f g h i j k m n o; trim ((2,p)::l) l = [(0,a),(2,p),(3,c),(4,d),(5,e),(8,f),(11,g),(12,h),(13,i),(14,j),(15,k),(36,m),(48,n),(55,o)] := by intros; rfl
     refine R_nil (tr ..) ?_; clear tr
     refine then_n ?_
     refine at_ret rfl ?_
     refine then_r ?_
     first | (refine fpure ?_; refine ⟨?_, rfl⟩; rw [chkD, if_pos (by omega)]) | (refine fpure ?_; refine ⟨?_, rfl⟩; rw [chkD, if_neg (by omega), if_pos (by omega)]) | (refine fpure ?_; refine ⟨?_, rfl⟩; have he : stE d u = 2 := stE_2 (by unfold rgO; omega); have hc := ferr_at hf (by rw [he]; decide) d.length (by omega); rw [chkD, if_neg (by omega), if_neg (by omega), if_pos (by rw [hc, he]; decide), hc, he]) | (refine fpure ?_; refine ⟨?_, rfl⟩; have he : stE d u = 8 := stE_8 (by unfold rgO; omega) (by omega) (by first | exact cmO_nn (by omega) | assumption | simp_all); have hc := ferr_at hf (by rw [he]; decide) d.length (by omega); rw [chkD, if_neg (by omega), if_neg (by omega), if_pos (by rw [hc, he]; decide), hc, he]) | (refine fpure ?_; refine ⟨?_, rfl⟩; have hd : u = d.length := (by omega); subst hd; rw [chkD, if_neg (by omega), if_neg (by omega), if_neg (fun hh => hh hf), if_pos (by omega)]) | (refine fpure ?_; refine ⟨?_, rfl⟩; have hd : u = d.length := (by omega); subst hd; rw [chkD, if_neg (by omega), if_neg (by omega), if_neg (fun hh => hh hf), if_neg (by omega)])
    ·
     try simp only [decide_eq_true_eq, decide_eq_false_iff_not, Bool.not_eq_true', Bool.not_eq_false', beq_iff_eq, beq_eq_false_iff_ne, ne_eq] at h10
     refine at_skip rfl ?_
     refine then_n ?_
     refine at_seq rfl ?_
     refine rg rfl ?_
     refine Rq ?_
     have tr : ∀ a b c d e f g h i j k m n o p : AV, let l := lc_chk30 a b c d e f g h i j k m n o; trim ((2,p)::l) l = [(0,a),(2,p),(3,c),(4,d),(5,e),(8,f),(11,g),(12,h),(13,i),(14,j),(15,k),(36,m),(48,n),(55,o)] := by intros; rfl
     refine R_nil (tr ..) ?_; clear tr
     refine then_n ?_
     refine at_ret rfl ?_
     first | (refine fpure ?_; refine ⟨?_, rfl⟩; rw [chkD, if_pos (by omega)]) | (refine fpure ?_; refine ⟨?_, rfl⟩; rw [chkD, if_neg (by omega), if_pos (by omega)]) | (refine fpure ?_; refine ⟨?_, rfl⟩; have he : stE d u = 2 := stE_2 (by unfold rgO; omega); have hc := ferr_at hf (by rw [he]; decide) d.length (by omega); rw [chkD, if_neg (by omega), if_neg (by omega), if_pos (by rw [hc, he]; decide), hc, he]) | (refine fpure ?_; refine ⟨?_, rfl⟩; have he : stE d u = 8 := stE_8 (by unfold rgO; omega) (by omega) (by first | exact cmO_nn (by omega) | assumption | simp_all); have hc := ferr_at hf (by rw [he]; decide) d.length (by omega); rw [chkD, if_neg (by omega), if_neg (by omega), if_pos (by rw [hc, he]; decide), hc, he]) | (refine fpure ?_; refine ⟨?_, rfl⟩; have hd : u = d.length := (by omega); subst hd; rw [chkD, if_neg (by omega), if_neg (by omega), if_neg (fun hh => hh hf), if_pos (by omega)]) | (refine fpure ?_; refine ⟨?_, rfl⟩; have hd : u = d.length := (by omega); subst hd; rw [chkD, if_neg (by omega), if_neg (by omega), if_neg (fun hh => hh hf), if_neg (by omega)])

abbrev lc_mean12 (a b c d e f g h i j k : AV) : Env := [(0,a),(2,b),(3,c),(4,d),(5,e),(7,f),(11,g),(13,h),(14,i),(15,j),(16,k)]
theorem mean12 (lim : Nat) (H : Heap) (d : List Oc) : ACall sig lim 12 [ocsAV d] H fun r H' => r = .tup [AV.i (meanS d).1, AV.i (meanS d).2] ∧ H' = H := by
 refine ACall_pure (fa := fa12) rfl rfl rfl rfl ?_
 have tr : ∀ a0 : AV, env0 fa12.keep [a0] = [(0,a0),(2,.any),(3,.any),(4,.any),(5,.any),(7,.any),(11,.any),(13,.any),(14,.any),(15,.any),(16,.any)] := fun a0 => rfl
 refine W_to (tr _) ?_; clear tr
 refine at_seq rfl ?_
 refine rg rfl ?_
 refine Rq ?_
 refine Rq ?_
 have tr : ∀ a b c d e f g h i j k m n : AV, let l := lc_mean12 a b c d e f g h i j k; trim ((3,n)::(2,m)::l) l = [(0,a),(2,m),(3,n),(4,d),(5,e),(7,f),(11,g),(13,h),(14,i),(15,j),(16,k)] := by intros; rfl
 refine R_nil (tr ..) ?_; clear tr
 refine then_n ?_
 refine at_seq rfl ?_
 refine at_seq rfl ?_
 refine rg rfl ?_
 refine Rq ?_
 refine Rcall ?_
 refine ACall_eq (chk25 _ _ d) ?_
 refine Rq ?_
 have tr : ∀ a b c d e f g h i j k m n o : AV, let l := lc_mean12 a b c d e f g h i j k; trim ((4,o)::(9,n)::(8,m)::l) l = [(0,a),(2,b),(3,c),(4,o),(5,e),(7,f),(11,g),(13,h),(14,i),(15,j),(16,k)] := by intros; rfl
 refine R_nil (tr ..) ?_; clear tr
 refine then_n ?_
 refine at_seq rfl ?_
 refine rg rfl ?_
 refine Rq ?_
 refine Rq ?_
 have tr : ∀ a b c d e f g h i j k m n : AV, let l := lc_mean12 a b c d e f g h i j k; trim ((11,n)::(10,m)::l) l = [(0,a),(2,b),(3,c),(4,d),(5,e),(7,f),(11,n),(13,h),(14,i),(15,j),(16,k)] := by intros; rfl
 refine R_nil (tr ..) ?_; clear tr
 refine then_n ?_
 refine cdd (fun h1 => ?_) (fun h1 => ?_)
 ·
  try simp only [decide_eq_true_eq, decide_eq_false_iff_not, Bool.not_eq_true', Bool.not_eq_false', beq_iff_eq, beq_eq_false_iff_ne, ne_eq] at h1
  refine at_seq rfl ?_
  refine rg rfl ?_
  refine Rq ?_
  refine Rq ?_
  refine Rq ?_
  have tr : ∀ a b c d e f g h i j k m n o : AV, let l := lc_mean12 a b c d e f g h i j k; trim ((3,o)::(2,n)::(12,m)::l) l = [(0,a),(2,n),(3,o),(4,d),(5,e),(7,f),(11,g),(13,h),(14,i),(15,j),(16,k)] := by intros; rfl
  refine R_nil (tr ..) ?_; clear tr
  refine then_n ?_
  refine at_ret rfl ?_
  refine then_r ?_
  refine fpure ?_
  refine ⟨?_, rfl⟩
  first | (rw [meanS, if_pos (by assumption)]; done) | (rw [meanS, if_neg (fun hh => hh hck), hn, show u = d.length by omega]; done)
 ·
  try simp only [decide_eq_true_eq, decide_eq_false_iff_not, Bool.not_eq_true', Bool.not_eq_false', beq_iff_eq, beq_eq_false_iff_ne, ne_eq] at h1
  refine at_skip rfl ?_
  refine then_n ?_
  refine at_seq rfl ?_
  refine rg rfl ?_
  have hck : chkD d = 0 := by assumption
  obtain ⟨hd0, hd16, hdf, hds⟩ := chkD_of hck
  refine Rq ?_
  have tr : ∀ a b c d e f g h i j k m : AV, let l := lc_mean12 a b c d e f g h i j k; trim ((5,m)::l) l = [(0,a),(2,b),(3,c),(4,d),(5,m),(7,f),(11,g),(13,h),(14,i),(15,j),(16,k)] := by intros; rfl
  refine R_nil (tr ..) ?_; clear tr
  refine then_n ?_
  refine at_seq rfl ?_
  refine at_seq rfl ?_
  refine rg rfl ?_
  refine Rq ?_
  refine Rq ?_
  refine Rq ?_
  have tr : ∀ a b c d e f g h i j k m n o : AV, let l := lc_mean12 a b c d e f g h i j k; trim ((15,o)::(14,n)::(13,m)::l) l = [(0,a),(2,b),(3,c),(4,d),(5,e),(7,f),(11,g),(13,m),(14,n),(15,o),(16,k)] := by intros; rfl
  refine R_nil (tr ..) ?_; clear tr
  refine then_n ?_
  refine at_block rfl ?_
  refine loop_n rfl (fun mm kv H' => ∃ u : Nat, ∃ n : Int, ∃ X : Heap, ∃ x7 x16 : AV, (kv = [(5, AV.i n), (7, x7), (15, AV.i u), (16, x16)]) ∧ (mm = d.length - u) ∧ (H' = H ++ X) ∧ (u ≤ d.length) ∧ (n = mS d u) ∧ (0 ≤ n ∧ n ≤ 112 * u)) ⟨0, 0, [], _, _, rfl, rfl, by simp, by omega, by rfl, by simp⟩ (by rfl) ?_
  rintro mm kv H1 ⟨u, n, X, x7, x16, rfl, rfl, hX, hu, hn, hbn⟩
  have tr : ∀ a b c d e f g h i j k m n o p : AV, upd [(0,a),(2,b),(3,c),(4,d),(5,e),(7,f),(11,g),(13,h),(14,i),(15,j),(16,k)] [(5,m),(7,n),(15,o),(16,p)] = [(0,a),(2,b),(3,c),(4,d),(5,m),(7,n),(11,g),(13,h),(14,i),(15,o),(16,p)] := by intros; rfl
  refine W_to (tr ..) ?_; clear tr
  subst hX
  refine at_seq rfl ?_
  refine rg rfl ?_
  refine Rq ?_
  have tr : ∀ a b c d e f g h i j k m : AV, let l := lc_mean12 a b c d e f g h i j k; trim ((16,m)::l) l = [(0,a),(2,b),(3,c),(4,d),(5,e),(7,f),(11,g),(13,h),(14,i),(15,j),(16,m)] := by intros; rfl
  refine R_nil (tr ..) ?_; clear tr
  refine then_n ?_
  refine at_seq rfl ?_
  refine cdd (fun h2 => ?_) (fun h2 => ?_)
  ·
   try simp only [decide_eq_true_eq, decide_eq_false_iff_not, Bool.not_eq_true', Bool.not_eq_false', beq_iff_eq, beq_eq_false_iff_ne, ne_eq] at h2
   refine at_skip rfl ?_
   refine then_n ?_
   refine at_seq rfl ?_
   refine at_block rfl ?_
   refine at_seq rfl ?_
   refine rg rfl ?_
   refine Rq ?_
   refine Rq ?_
   refine R_alloc (by simp (disch := first | omega | (simp only [List.length_map, List.length_append, List.length_set, List.length_cons, List.length_nil]; omega)) only [go_sem, ↓reduceIte, Nat.reduceEqDiff, reduceCtorEq] <;> rfl) rfl (by simp only [List.map_cons, List.map_nil]; rfl) ?_
   refine R_store ty68 (by simp (disch := first | omega | (simp only [List.length_map, List.length_append, List.length_set, List.length_cons, List.length_nil]; omega)) only [go_sem, ↓reduceIte, Nat.reduceEqDiff, reduceCtorEq] <;> rfl) (by simp (disch := first | omega | (simp only [List.length_map, List.length_append, List.length_set, List.length_cons, List.length_nil]; omega)) only [go_sem, ↓reduceIte, Nat.reduceEqDiff, reduceCtorEq] <;> rfl) (by simp (disch := first | omega | (simp only [List.length_map, List.length_append, List.length_set, List.length_cons, List.length_nil]; omega)) only [go_sem, ↓reduceIte, Nat.reduceEqDiff, reduceCtorEq] <;> rfl) (by simp) (by rfl) (by simp (disch := first | omega | (simp only [List.length_map, List.length_append, List.length_set, List.length_cons, List.length_nil]; omega)) only [go_sem, ↓reduceIte, Nat.reduceEqDiff, reduceCtorEq] <;> rfl) ?_
   have tr : ∀ a b c d e f g h i j k m n o : AV, let l := lc_mean12 a b c d e f g h i j k; trim ((7,o)::(18,n)::(17,m)::l) l = [(0,a),(2,b),(3,c),(4,d),(5,e),(7,o),(11,g),(13,h),(14,i),(15,j),(16,k)] := by intros; rfl
   refine R_nil (tr ..) ?_; clear tr
   refine then_n ?_
   refine rg rfl ?_
   have hst := (stE_ok (ferr_all hdf u (by omega))).1
   have hm1 := Int.mul_le_mul hst.2.1 hst.2.2.2 (by omega) (by omega)
   have hm0 := Int.mul_nonneg hst.1 (show 0 ≤ (gt d u).w by omega)
   refine Rq ?_
   refine Rq ?_
   refine Rq ?_
   refine Rq ?_
   refine Rq ?_
   refine Rq ?_
   refine Rq ?_
   refine Rq ?_
   have tr : ∀ a b c d e f g h i j k m n o p q r s t : AV, let l := lc_mean12 a b c d e f g h i j k; trim ((5,t)::(25,s)::(24,r)::(23,q)::(22,p)::(21,o)::(20,n)::(19,m)::l) l = [(0,a),(2,b),(3,c),(4,d),(5,t),(7,f),(11,g),(13,h),(14,i),(15,j),(16,k)] := by intros; rfl
   refine R_nil (tr ..) ?_; clear tr
   refine blk_n ?_
   refine then_n ?_
   refine rg rfl ?_
   refine Rq ?_
   refine Rq ?_
   have tr : ∀ a b c d e f g h i j k m n : AV, let l := lc_mean12 a b c d e f g h i j k; trim ((15,n)::(26,m)::l) l = [(0,a),(2,b),(3,c),(4,d),(5,e),(7,f),(11,g),(13,h),(14,i),(15,n),(16,k)] := by intros; rfl
   refine R_nil (tr ..) ?_; clear tr
   refine then_n ?_
   exact ⟨_, _, ⟨u + 1, n + (gt d u).r * (gt d u).w, X ++ [some (ocC (gt d u))], _, _, rfl, rfl, by simp; rfl, by omega, by rw [hn]; rfl, by omega⟩, by rfl, by omega⟩
  ·
   try simp only [decide_eq_true_eq, decide_eq_false_iff_not, Bool.not_eq_true', Bool.not_eq_false', beq_iff_eq, beq_eq_false_iff_ne, ne_eq] at h2
   refine at_exit rfl ?_
   refine then_x ?_
   refine then_x ?_
   refine blk_x ?_
   refine then_n ?_
   refine at_seq rfl ?_
   refine rg rfl ?_
   refine Rq ?_
   refine Rq ?_
   refine Rq ?_
   have tr : ∀ a b c d e f g h i j k m n o : AV, let l := lc_mean12 a b c d e f g h i j k; trim ((3,o)::(2,n)::(27,m)::l) l = [(0,a),(2,n),(3,o),(4,d),(5,e),(7,f),(11,g),(13,h),(14,i),(15,j),(16,k)] := by intros; rfl
   refine R_nil (tr ..) ?_; clear tr
   refine then_n ?_
   refine at_ret rfl ?_
   refine fpure ?_
   refine ⟨?_, rfl⟩
   first | (rw [meanS, if_pos (by assumption)]; done) | (rw [meanS, if_neg (fun hh => hh hck), hn, show u = d.length by omega]; done)

abbrev lc_mean15 (a b c d e f g h i j k : AV) : Env := [(0,a),(2,b),(3,c),(4,d),(5,e),(7,f),(11,g),(13,h),(14,i),(15,j),(16,k)]
theorem mean15 (lim : Nat) (H : Heap) (d : List Oc) : ACall sig lim 15 [ocsAV d] H fun r H' => r = .tup [AV.i (meanS d).1, AV.i (meanS d).2] ∧ H' = H := by
 refine ACall_pure (fa := fa15) rfl rfl rfl rfl ?_
 have tr : ∀ a0 : AV, env0 fa15.keep [a0] = [(0,a0),(2,.any),(3,.any),(4,.any),(5,.any),(7,.any),(11,.any),(13,.any),(14,.any),(15,.any),(16,.any)] := fun a0 => rfl
 refine W_to (tr _) ?_; clear tr
 refine at_seq rfl ?_
 refine rg rfl ?_
 refine Rq ?_
 refine Rq ?_
 have tr : ∀ a b c d e f g h i j k m n : AV, let l := lc_mean15 a b c d e f g h i j k; trim ((3,n)::(2,m)::l) l = [(0,a),(2,m),(3,n),(4,d),(5,e),(7,f),(11,g),(13,h),(14,i),(15,j),(16,k)] := by intros; rfl
 refine R_nil (tr ..) ?_; clear tr
 refine then_n ?_
 refine at_seq rfl ?_
 refine at_seq rfl ?_
 refine rg rfl ?_
 refine Rq ?_
 refine Rcall ?_
 refine ACall_eq (chk30 _ _ d) ?_
 refine Rq ?_
 have tr : ∀ a b c d e f g h i j k m n o : AV, let l := lc_mean15 a b c d e f g h i j k; trim ((4,o)::(9,n)::(8,m)::l) l = [(0,a),(2,b),(3,c),(4,o),(5,e),(7,f),(11,g),(13,h),(14,i),(15,j),(16,k)] := by intros; rfl
 refine R_nil (tr ..) ?_; clear tr
 refine then_n ?_
 refine at_seq rfl ?_
 refine rg rfl ?_
 refine Rq ?_
 refine Rq ?_
 have tr : ∀ a b c d e f g h i j k m n : AV, let l := lc_mean15 a b c d e f g h i j k; trim ((11,n)::(10,m)::l) l = [(0,a),(2,b),(3,c),(4,d),(5,e),(7,f),(11,n),(13,h),(14,i),(15,j),(16,k)] := by intros; rfl
 refine R_nil (tr ..) ?_; clear tr
 refine then_n ?_
 refine cdd (fun h1 => ?_) (fun h1 => ?_)
 ·
  try simp only [decide_eq_true_eq, decide_eq_false_iff_not, Bool.not_eq_true', Bool.not_eq_false', beq_iff_eq, beq_eq_false_iff_ne, ne_eq] at h1
  refine at_seq rfl ?_
  refine rg rfl ?_
  refine Rq ?_
  refine Rq ?_
  refine Rq ?_
  have tr : ∀ a b c d e f g h i j k m n o : AV, let l := lc_mean15 a b c d e f g h i j k; trim ((3,o)::(2,n)::(12,m)::l) l = [(0,a),(2,n),(3,o),(4,d),(5,e),(7,f),(11,g),(13,h),(14,i),(15,j),(16,k)] := by intros; rfl
  refine R_nil (tr ..) ?_; clear tr
  refine then_n ?_
  refine at_ret rfl ?_
  refine then_r ?_
  refine fpure ?_
  refine ⟨?_, rfl⟩
  first | (rw [meanS, if_pos (by assumption)]; done) | (rw [meanS, if_neg (fun hh => hh hck), hn, show u = d.length by omega]; done)
 ·
  try simp only [decide_eq_true_eq, decide_eq_false_iff_not, Bool.not_eq_true', Bool.not_eq_false', beq_iff_eq, beq_eq_false_iff_ne, ne_eq] at h1
  refine at_skip rfl ?_
  refine then_n ?_
  refine at_seq rfl ?_
  refine rg rfl ?_
  have hck : chkD d = 0 := by assumption
  obtain ⟨hd0, hd16, hdf, hds⟩ := chkD_of hck
  refine Rq ?_
  have tr : ∀ a b c d e f g h i j k m : AV, let l := lc_mean15 a b c d e f g h i j k; trim ((5,m)::l) l = [(0,a),(2,b),(3,c),(4,d),(5,m),(7,f),(11,g),(13,h),(14,i),(15,j),(16,k)] := by intros; rfl
  refine R_nil (tr ..) ?_; clear tr
  refine then_n ?_
  refine at_seq rfl ?_
  refine at_seq rfl ?_
  refine rg rfl ?_
  refine Rq ?_
  refine Rq ?_
  refine Rq ?_
  have tr : ∀ a b c d e f g h i j k m n o : AV, let l := lc_mean15 a b c d e f g h i j k; trim ((15,o)::(14,n)::(13,m)::l) l = [(0,a),(2,b),(3,c),(4,d),(5,e),(7,f),(11,g),(13,m),(14,n),(15,o),(16,k)] := by intros; rfl
  refine R_nil (tr ..) ?_; clear tr
  refine then_n ?_
  refine at_block rfl ?_
  refine loop_n rfl (fun mm kv H' => ∃ u : Nat, ∃ n : Int, ∃ X : Heap, ∃ x7 x16 : AV, (kv = [(5, AV.i n), (7, x7), (15, AV.i u), (16, x16)]) ∧ (mm = d.length - u) ∧ (H' = H ++ X) ∧ (u ≤ d.length) ∧ (n = mS d u) ∧ (0 ≤ n ∧ n ≤ 112 * u)) ⟨0, 0, [], _, _, rfl, rfl, by simp, by omega, by rfl, by simp⟩ (by rfl) ?_
  rintro mm kv H1 ⟨u, n, X, x7, x16, rfl, rfl, hX, hu, hn, hbn⟩
  have tr : ∀ a b c d e f g h i j k m n o p : AV, upd [(0,a),(2,b),(3,c),(4,d),(5,e),(7,f),(11,g),(13,h),(14,i),(15,j),(16,k)] [(5,m),(7,n),(15,o),(16,p)] = [(0,a),(2,b),(3,c),(4,d),(5,m),(7,n),(11,g),(13,h),(14,i),(15,o),(16,p)] := by intros; rfl
  refine W_to (tr ..) ?_; clear tr
  subst hX
  refine at_seq rfl ?_
  refine rg rfl ?_
  refine Rq ?_
  have tr : ∀ a b c d e f g h i j k m : AV, let l := lc_mean15 a b c d e f g h i j k; trim ((16,m)::l) l = [(0,a),(2,b),(3,c),(4,d),(5,e),(7,f),(11,g),(13,h),(14,i),(15,j),(16,m)] := by intros; rfl
  refine R_nil (tr ..) ?_; clear tr
  refine then_n ?_
  refine at_seq rfl ?_
  refine cdd (fun h2 => ?_) (fun h2 => ?_)
  ·
   try simp only [decide_eq_true_eq, decide_eq_false_iff_not, Bool.not_eq_true', Bool.not_eq_false', beq_iff_eq, beq_eq_false_iff_ne, ne_eq] at h2
   refine at_skip rfl ?_
   refine then_n ?_
   refine at_seq rfl ?_
   refine at_block rfl ?_
   refine at_seq rfl ?_
   refine rg rfl ?_
   refine Rq ?_
   refine Rq ?_
   refine R_alloc (by simp (disch := first | omega | (simp only [List.length_map, List.length_append, List.length_set, List.length_cons, List.length_nil]; omega)) only [go_sem, ↓reduceIte, Nat.reduceEqDiff, reduceCtorEq] <;> rfl) rfl (by simp only [List.map_cons, List.map_nil]; rfl) ?_
   refine R_store ty68 (by simp (disch := first | omega | (simp only [List.length_map, List.length_append, List.length_set, List.length_cons, List.length_nil]; omega)) only [go_sem, ↓reduceIte, Nat.reduceEqDiff, reduceCtorEq] <;> rfl) (by simp (disch := first | omega | (simp only [List.length_map, List.length_append, List.length_set, List.length_cons, List.length_nil]; omega)) only [go_sem, ↓reduceIte, Nat.reduceEqDiff, reduceCtorEq] <;> rfl) (by simp (disch := first | omega | (simp only [List.length_map, List.length_append, List.length_set, List.length_cons, List.length_nil]; omega)) only [go_sem, ↓reduceIte, Nat.reduceEqDiff, reduceCtorEq] <;> rfl) (by simp) (by rfl) (by simp (disch := first | omega | (simp only [List.length_map, List.length_append, List.length_set, List.length_cons, List.length_nil]; omega)) only [go_sem, ↓reduceIte, Nat.reduceEqDiff, reduceCtorEq] <;> rfl) ?_
   have tr : ∀ a b c d e f g h i j k m n o : AV, let l := lc_mean15 a b c d e f g h i j k; trim ((7,o)::(18,n)::(17,m)::l) l = [(0,a),(2,b),(3,c),(4,d),(5,e),(7,o),(11,g),(13,h),(14,i),(15,j),(16,k)] := by intros; rfl
   refine R_nil (tr ..) ?_; clear tr
   refine then_n ?_
   refine rg rfl ?_
   have hst := (stE_ok (ferr_all hdf u (by omega))).1
   have hm1 := Int.mul_le_mul hst.2.1 hst.2.2.2 (by omega) (by omega)
   have hm0 := Int.mul_nonneg hst.1 (show 0 ≤ (gt d u).w by omega)
   refine Rq ?_
   refine Rq ?_
   refine Rq ?_
   refine Rq ?_
   refine Rq ?_
   refine Rq ?_
   refine Rq ?_
   refine Rq ?_
   have tr : ∀ a b c d e f g h i j k m n o p q r s t : AV, let l := lc_mean15 a b c d e f g h i j k; trim ((5,t)::(25,s)::(24,r)::(23,q)::(22,p)::(21,o)::(20,n)::(19,m)::l) l = [(0,a),(2,b),(3,c),(4,d),(5,t),(7,f),(11,g),(13,h),(14,i),(15,j),(16,k)] := by intros; rfl
   refine R_nil (tr ..) ?_; clear tr
   refine blk_n ?_
   refine then_n ?_
   refine rg rfl ?_
   refine Rq ?_
   refine Rq ?_
   have tr : ∀ a b c d e f g h i j k m n : AV, let l := lc_mean15 a b c d e f g h i j k; trim ((15,n)::(26,m)::l) l = [(0,a),(2,b),(3,c),(4,d),(5,e),(7,f),(11,g),(13,h),(14,i),(15,n),(16,k)] := by intros; rfl
   refine R_nil (tr ..) ?_; clear tr
   refine then_n ?_
   exact ⟨_, _, ⟨u + 1, n + (gt d u).r * (gt d u).w, X ++ [some (ocC (gt d u))], _, _, rfl, rfl, by simp; rfl, by omega, by rw [hn]; rfl, by omega⟩, by rfl, by omega⟩
  ·
   try simp only [decide_eq_true_eq, decide_eq_false_iff_not, Bool.not_eq_true', Bool.not_eq_false', beq_iff_eq, beq_eq_false_iff_ne, ne_eq] at h2
   refine at_exit rfl ?_
   refine then_x ?_
   refine then_x ?_
   refine blk_x ?_
   refine then_n ?_
   refine at_seq rfl ?_
   refine rg rfl ?_
   refine Rq ?_
   refine Rq ?_
   refine Rq ?_
   have tr : ∀ a b c d e f g h i j k m n o : AV, let l := lc_mean15 a b c d e f g h i j k; trim ((3,o)::(2,n)::(27,m)::l) l = [(0,a),(2,n),(3,o),(4,d),(5,e),(7,f),(11,g),(13,h),(14,i),(15,j),(16,k)] := by intros; rfl
   refine R_nil (tr ..) ?_; clear tr
   refine then_n ?_
   refine at_ret rfl ?_
   refine fpure ?_
   refine ⟨?_, rfl⟩
   first | (rw [meanS, if_pos (by assumption)]; done) | (rw [meanS, if_neg (fun hh => hh hck), hn, show u = d.length by omega]; done)

end Go.Proofs.Ytplockpopmaejaa
end
