/-
  Walks of chapter 2. The steps are written by program (walk.py).
-/
import Derived.Test.YtokhmkkifmhfmaaDoorRE
import Derived.Test.YtokhmkkifmhfmaaDoorRD
import Derived.Test.YtokhmkkifmhfmaaDoorRB
import Derived.Test.YtokhmkkifmhfmaaDoorA3
import Derived.Test.YtokhmkkifmhfmaaDoorA5
import Derived.Test.YtokhmkkifmhfmaaDoorAw
set_option linter.unusedSimpArgs false
set_option linter.unusedVariables false
set_option maxHeartbeats 1000000
set_option maxRecDepth 20000
namespace Go.Proofs.YtokhmkkifmhfmaaDoor
open Go Go.Am
abbrev lc_wring_ok (a b c d e f g h i j k m n o p q r s : AV) : Env := [(0,a),(1,b),(2,c),(3,d),(4,e),(5,f),(6,g),(7,h),(8,i),(9,j),(10,k),(11,m),(12,n),(13,o),(14,p),(16,q),(23,r),(36,s)]
theorem wring_ok (lim : Nat) (H : Heap) (x : Int) (hx : Fw x) (y : Int) (hy : Fw y) (a : Int) (ha : -9223372036854775808 ≤ a ∧ a ≤ 9223372036854775807) (b : Int) (hb : -9223372036854775808 ≤ b ∧ b ≤ 9223372036854775807) : ACall sig lim 8 [wv x, wv y, .agg [AV.i a, AV.i b]] H fun r _ => r = .v (.bool true) := by
 refine ACall_pure (fa := fa8) rfl rfl rfl rfl ?_
 have tr : ∀ a0 a1 a2 : AV, env0 fa8.keep [a0, a1, a2] = [(0,a0),(1,a1),(2,a2),(3,.any),(4,.any),(5,.any),(6,.any),(7,.any),(8,.any),(9,.any),(10,.any),(11,.any),(12,.any),(13,.any),(14,.any),(16,.any),(23,.any),(36,.any)] := fun a0 a1 a2 => rfl
 refine W_to (tr _ _ _) ?_; clear tr
 refine at_seq rfl ?_
 refine rg rfl ?_
 refine R_box rfl (by simp (disch := first | omega | (simp only [List.length_map, List.length_append, List.length_set, List.length_cons, List.length_nil]; omega)) only [go_sem, ↓reduceIte, Nat.reduceEqDiff, reduceCtorEq]; rfl) rfl rfl ?_
 refine R_box rfl (by simp (disch := first | omega | (simp only [List.length_map, List.length_append, List.length_set, List.length_cons, List.length_nil]; omega)) only [go_sem, ↓reduceIte, Nat.reduceEqDiff, reduceCtorEq]; rfl) rfl rfl ?_
 refine R_box rfl (by simp (disch := first | omega | (simp only [List.length_map, List.length_append, List.length_set, List.length_cons, List.length_nil]; omega)) only [go_sem, ↓reduceIte, Nat.reduceEqDiff, reduceCtorEq]; rfl) rfl rfl ?_
 refine Rq ?_
 have tr : ∀ a b c d e f g h i j k m n o p q r s t u v w : AV, let l := lc_wring_ok a b c d e f g h i j k m n o p q r s; trim ((6,w)::(5,v)::(4,u)::(3,t)::l) l = [(0,a),(1,b),(2,c),(3,t),(4,u),(5,v),(6,w),(7,h),(8,i),(9,j),(10,k),(11,m),(12,n),(13,o),(14,p),(16,q),(23,r),(36,s)] := by intros; rfl
 refine R_nil (tr ..) ?_; clear tr
 refine then_n ?_
 refine at_seq rfl ?_
 refine at_seq rfl ?_
 refine rg rfl ?_
 refine Rcall ?_
 refine ACall_eval 400 (awake02 _ _) ?_
 refine Rq ?_
 have tr : ∀ a b c d e f g h i j k m n o p q r s t u : AV, let l := lc_wring_ok a b c d e f g h i j k m n o p q r s; trim ((16,u)::(15,t)::l) l = [(0,a),(1,b),(2,c),(3,d),(4,e),(5,f),(6,g),(7,h),(8,i),(9,j),(10,k),(11,m),(12,n),(13,o),(14,p),(16,u),(23,r),(36,s)] := by intros; rfl
 refine R_nil (tr ..) ?_; clear tr
 refine then_n ?_
 refine cdf ?_
 refine at_skip rfl ?_
 refine then_n ?_
 refine at_seq rfl ?_
 refine at_seq rfl ?_
 refine rg rfl ?_
 refine Rq ?_
 refine Rq ?_
 refine Rcall ?_
 refine ACall_eq (add_ok _ _ _ (by first | assumption | exact fS_F _ | (unfold Fw; omega)) _ (by first | assumption | exact fS_F _ | (unfold Fw; omega))) ?_
 refine Rq ?_
 refine Rq ?_
 refine Rq ?_
 refine R_alloc (by simp (disch := first | omega | (simp only [List.length_map, List.length_append, List.length_set, List.length_cons, List.length_nil]; omega)) only [go_sem, ↓reduceIte, Nat.reduceEqDiff, reduceCtorEq]; rfl) rfl (by simp only [List.map_cons, List.map_nil]; rfl) ?_
 refine R_store ty24 (by simp (disch := first | omega | (simp only [List.length_map, List.length_append, List.length_set, List.length_cons, List.length_nil]; omega)) only [go_sem, ↓reduceIte, Nat.reduceEqDiff, reduceCtorEq]; rfl) (by simp (disch := first | omega | (simp only [List.length_map, List.length_append, List.length_set, List.length_cons, List.length_nil]; omega)) only [go_sem, ↓reduceIte, Nat.reduceEqDiff, reduceCtorEq]; rfl) (by simp (disch := first | omega | (simp only [List.length_map, List.length_append, List.length_set, List.length_cons, List.length_nil]; omega)) only [go_sem, ↓reduceIte, Nat.reduceEqDiff, reduceCtorEq]; rfl) (by simp) (by rfl) (by simp (disch := first | omega | (simp only [List.length_map, List.length_append, List.length_set, List.length_cons, List.length_nil]; omega)) only [go_sem, ↓reduceIte, Nat.reduceEqDiff, reduceCtorEq]; rfl) ?_
 refine Rq ?_
 have tr : ∀ a b c d e f g h i j k m n o p q r s t u v w x y z A : AV, let l := lc_wring_ok a b c d e f g h i j k m n o p q r s; trim ((8,A)::(7,z)::(22,y)::(21,x)::(17,w)::(20,v)::(19,u)::(18,t)::l) l = [(0,a),(1,b),(2,c),(3,d),(4,e),(5,f),(6,g),(7,z),(8,A),(9,j),(10,k),(11,m),(12,n),(13,o),(14,p),(16,q),(23,r),(36,s)] := by intros; rfl
 refine R_nil (tr ..) ?_; clear tr
 refine then_n ?_
 refine at_seq rfl ?_
 refine rg rfl ?_
 refine Rq ?_
 have tr : ∀ a b c d e f g h i j k m n o p q r s t : AV, let l := lc_wring_ok a b c d e f g h i j k m n o p q r s; trim ((23,t)::l) l = [(0,a),(1,b),(2,c),(3,d),(4,e),(5,f),(6,g),(7,h),(8,i),(9,j),(10,k),(11,m),(12,n),(13,o),(14,p),(16,q),(23,t),(36,s)] := by intros; rfl
 refine R_nil (tr ..) ?_; clear tr
 refine then_n ?_
 refine cdd (fun h1 => ?_) (fun h1 => ?_)
 ·
  try simp only [decide_eq_true_eq, decide_eq_false_iff_not, decide_eq_decide, Bool.not_eq_true', Bool.not_eq_false', beq_iff_eq, beq_eq_false_iff_ne, ne_eq, Bool.and_eq_true, Bool.and_eq_false_iff, decide_not] at h1
  refine at_seq rfl ?_
  refine rg rfl ?_
  have hF := fS_2t (n := x + y) (by assumption)
  rw [fS_y hF]
  refine Rq ?_
  refine Rq ?_
  refine Rcall ?_
  refine ACall_eq (sub_ok _ _ (x + y) hF y hy) ?_
  rw [show x + y - y = x by omega, fS_y hx]
  refine Rq ?_
  refine Rq ?_
  refine Rq ?_
  refine R_alloc (by simp (disch := first | omega | (simp only [List.length_map, List.length_append, List.length_set, List.length_cons, List.length_nil]; omega)) only [go_sem, ↓reduceIte, Nat.reduceEqDiff, reduceCtorEq]; rfl) rfl (by simp only [List.map_cons, List.map_nil]; rfl) ?_
  refine R_store ty24 (by simp (disch := first | omega | (simp only [List.length_map, List.length_append, List.length_set, List.length_cons, List.length_nil]; omega)) only [go_sem, ↓reduceIte, Nat.reduceEqDiff, reduceCtorEq]; rfl) (by simp (disch := first | omega | (simp only [List.length_map, List.length_append, List.length_set, List.length_cons, List.length_nil]; omega)) only [go_sem, ↓reduceIte, Nat.reduceEqDiff, reduceCtorEq]; rfl) (by simp (disch := first | omega | (simp only [List.length_map, List.length_append, List.length_set, List.length_cons, List.length_nil]; omega)) only [go_sem, ↓reduceIte, Nat.reduceEqDiff, reduceCtorEq]; rfl) (by simp) (by rfl) (by simp (disch := first | omega | (simp only [List.length_map, List.length_append, List.length_set, List.length_cons, List.length_nil]; omega)) only [go_sem, ↓reduceIte, Nat.reduceEqDiff, reduceCtorEq]; rfl) ?_
  refine Rq ?_
  have tr : ∀ a b c d e f g h i j k m n o p q r s t u v w x y z A : AV, let l := lc_wring_ok a b c d e f g h i j k m n o p q r s; trim ((10,A)::(9,z)::(29,y)::(28,x)::(24,w)::(27,v)::(26,u)::(25,t)::l) l = [(0,a),(1,b),(2,c),(3,d),(4,e),(5,f),(6,g),(7,h),(8,i),(9,z),(10,A),(11,m),(12,n),(13,o),(14,p),(16,q),(23,r),(36,s)] := by intros; rfl
  refine R_nil (tr ..) ?_; clear tr
  refine then_n ?_
  refine at_seq rfl ?_
  refine rg rfl ?_
  refine Rq ?_
  refine Rq ?_
  refine Rq ?_
  refine Rp_split (fun h2 => ?_) (fun h2 => ?_)
  ·
   try simp only [decide_eq_true_eq, decide_eq_false_iff_not, decide_eq_decide, Bool.not_eq_true', Bool.not_eq_false', beq_iff_eq, beq_eq_false_iff_ne, ne_eq, Bool.and_eq_true, Bool.and_eq_false_iff, decide_not] at h2
   first | omega | contradiction | exact absurd rfl (by assumption) | exact absurd trivial (by assumption)
  ·
   try simp only [decide_eq_true_eq, decide_eq_false_iff_not, decide_eq_decide, Bool.not_eq_true', Bool.not_eq_false', beq_iff_eq, beq_eq_false_iff_ne, ne_eq, Bool.and_eq_true, Bool.and_eq_false_iff, decide_not] at h2
   refine Ry ?_
   refine Rq ?_
   refine Ry ?_
   refine Rq ?_
   refine Ry ?_
   refine Rq ?_
   refine Rq ?_
   have tr : ∀ a b c d e f g h i j k m n o p q r s t u v w x y z : AV, let l := lc_wring_ok a b c d e f g h i j k m n o p q r s; trim ((36,z)::(35,y)::(34,x)::(33,w)::(32,v)::(31,u)::(30,t)::l) l = [(0,a),(1,b),(2,c),(3,d),(4,e),(5,f),(6,g),(7,h),(8,i),(9,j),(10,k),(11,m),(12,n),(13,o),(14,p),(16,q),(23,r),(36,z)] := by intros; rfl
   refine R_nil (tr ..) ?_; clear tr
   refine then_n ?_
   refine cdd (fun h3 => ?_) (fun h3 => ?_)
   ·
    try simp only [decide_eq_true_eq, decide_eq_false_iff_not, decide_eq_decide, Bool.not_eq_true', Bool.not_eq_false', beq_iff_eq, beq_eq_false_iff_ne, ne_eq, Bool.and_eq_true, Bool.and_eq_false_iff, decide_not] at h3
    refine at_seq rfl ?_
    refine rg rfl ?_
    exfalso; first | omega | contradiction | simp_all | (simp at *; omega)
   ·
    try simp only [decide_eq_true_eq, decide_eq_false_iff_not, decide_eq_decide, Bool.not_eq_true', Bool.not_eq_false', beq_iff_eq, beq_eq_false_iff_ne, ne_eq, Bool.and_eq_true, Bool.and_eq_false_iff, decide_not] at h3
    refine at_skip rfl ?_
    refine then_n ?_
    refine at_seq rfl ?_
    refine rg rfl ?_
    refine Rq ?_
    refine Rq ?_
    refine Rq ?_
    refine Rq ?_
    refine Rcall ?_
    refine ACall_eq (mul_ok _ _ a ha b hb) ?_
    refine Rcall ?_
    refine ACall_eq (scale_ok _ _ (a * b) (ab_fit ha hb) 1 (by omega)) ?_
    rw [Int.mul_one, fS_y (ab_fit ha hb)]
    refine Rq ?_
    refine Rq ?_
    refine Rq ?_
    refine R_alloc (by simp (disch := first | omega | (simp only [List.length_map, List.length_append, List.length_set, List.length_cons, List.length_nil]; omega)) only [go_sem, ↓reduceIte, Nat.reduceEqDiff, reduceCtorEq]; rfl) rfl (by simp only [List.map_cons, List.map_nil]; rfl) ?_
    refine R_store ty24 (by simp (disch := first | omega | (simp only [List.length_map, List.length_append, List.length_set, List.length_cons, List.length_nil]; omega)) only [go_sem, ↓reduceIte, Nat.reduceEqDiff, reduceCtorEq]; rfl) (by simp (disch := first | omega | (simp only [List.length_map, List.length_append, List.length_set, List.length_cons, List.length_nil]; omega)) only [go_sem, ↓reduceIte, Nat.reduceEqDiff, reduceCtorEq]; rfl) (by simp (disch := first | omega | (simp only [List.length_map, List.length_append, List.length_set, List.length_cons, List.length_nil]; omega)) only [go_sem, ↓reduceIte, Nat.reduceEqDiff, reduceCtorEq]; rfl) (by simp) (by rfl) (by simp (disch := first | omega | (simp only [List.length_map, List.length_append, List.length_set, List.length_cons, List.length_nil]; omega)) only [go_sem, ↓reduceIte, Nat.reduceEqDiff, reduceCtorEq]; rfl) ?_
    refine Rq ?_
    have tr : ∀ a b c d e f g h i j k m n o p q r s t u v w x y z A B C D : AV, let l := lc_wring_ok a b c d e f g h i j k m n o p q r s; trim ((12,D)::(11,C)::(45,B)::(44,A)::(37,z)::(43,y)::(42,x)::(41,w)::(40,v)::(39,u)::(38,t)::l) l = [(0,a),(1,b),(2,c),(3,d),(4,e),(5,f),(6,g),(7,h),(8,i),(9,j),(10,k),(11,C),(12,D),(13,o),(14,p),(16,q),(23,r),(36,s)] := by intros; rfl
    refine R_nil (tr ..) ?_; clear tr
    refine then_n ?_
    refine at_seq rfl ?_
    refine rls2 rfl rfl ?_
    refine Lq ?_
    refine Lq ?_
    refine Lq ?_
    refine Lq ?_
    refine L_nil ?_
    refine Rcall ?_
    refine ACall_eq (of_ok _ _ b hb) ?_
    refine Rcall ?_
    refine ACall_eq (scale_ok _ _ b (by unfold Fw; omega) a ha) ?_
    rw [Int.mul_comm b a, fS_y (ab_fit ha hb)]
    refine Rq ?_
    refine Rq ?_
    refine Rq ?_
    refine R_alloc (by simp (disch := first | omega | (simp only [List.length_map, List.length_append, List.length_set, List.length_cons, List.length_nil]; omega)) only [go_sem, ↓reduceIte, Nat.reduceEqDiff, reduceCtorEq]; rfl) rfl (by simp only [List.map_cons, List.map_nil]; rfl) ?_
    refine R_store ty24 (by simp (disch := first | omega | (simp only [List.length_map, List.length_append, List.length_set, List.length_cons, List.length_nil]; omega)) only [go_sem, ↓reduceIte, Nat.reduceEqDiff, reduceCtorEq]; rfl) (by simp (disch := first | omega | (simp only [List.length_map, List.length_append, List.length_set, List.length_cons, List.length_nil]; omega)) only [go_sem, ↓reduceIte, Nat.reduceEqDiff, reduceCtorEq]; rfl) (by simp (disch := first | omega | (simp only [List.length_map, List.length_append, List.length_set, List.length_cons, List.length_nil]; omega)) only [go_sem, ↓reduceIte, Nat.reduceEqDiff, reduceCtorEq]; rfl) (by simp) (by rfl) (by simp (disch := first | omega | (simp only [List.length_map, List.length_append, List.length_set, List.length_cons, List.length_nil]; omega)) only [go_sem, ↓reduceIte, Nat.reduceEqDiff, reduceCtorEq]; rfl) ?_
    refine R_end ⟨?_, ?_⟩
    ·
     refine ⟨?_, ?_⟩
     ·
      refine Rcall ?_
      refine ACall_eq (of_ok _ _ b hb) ?_
      refine Rcall ?_
      refine ACall_eq (scale_ok _ _ b (by unfold Fw; omega) a ha) ?_
      rw [Int.mul_comm b a, fS_y (ab_fit ha hb)]
      refine Rq ?_
      refine Rq ?_
      refine R_alloc (by simp (disch := first | omega | (simp only [List.length_map, List.length_append, List.length_set, List.length_cons, List.length_nil]; omega)) only [go_sem, ↓reduceIte, Nat.reduceEqDiff, reduceCtorEq]; rfl) rfl (by simp only [List.map_cons, List.map_nil]; rfl) ?_
      refine Rq ?_
      refine R_store ty24 (by simp (disch := first | omega | (simp only [List.length_map, List.length_append, List.length_set, List.length_cons, List.length_nil]; omega)) only [go_sem, ↓reduceIte, Nat.reduceEqDiff, reduceCtorEq]; rfl) (by simp (disch := first | omega | (simp only [List.length_map, List.length_append, List.length_set, List.length_cons, List.length_nil]; omega)) only [go_sem, ↓reduceIte, Nat.reduceEqDiff, reduceCtorEq]; rfl) (by simp (disch := first | omega | (simp only [List.length_map, List.length_append, List.length_set, List.length_cons, List.length_nil]; omega)) only [go_sem, ↓reduceIte, Nat.reduceEqDiff, reduceCtorEq]; rfl) (by simp) (by rfl) (by simp (disch := first | omega | (simp only [List.length_map, List.length_append, List.length_set, List.length_cons, List.length_nil]; omega)) only [go_sem, ↓reduceIte, Nat.reduceEqDiff, reduceCtorEq]; rfl) ?_
      refine R_end ?_
      refine one_same (fun f => rfl) ?_
      intro t ht
      simp only [List.mem_cons, List.not_mem_nil, or_false] at ht
      rcases ht with rfl | rfl
      · (simp only [get_cons, put_some, put_none, ↓reduceIte, Nat.reduceEqDiff, ren] <;> rfl)
      · simp only [get_cons, put_some, put_none, ↓reduceIte, Nat.reduceEqDiff, ren]
        (simp [rnB] <;> rfl)
     refine ⟨?_, ?_⟩
     ·
      refine Rcall ?_
      refine ACall_eq (of_ok _ _ b hb) ?_
      refine Rcall ?_
      refine ACall_eq (scale_ok _ _ b (by unfold Fw; omega) a ha) ?_
      rw [Int.mul_comm b a, fS_y (ab_fit ha hb)]
      refine Rq ?_
      refine Rq ?_
      refine R_alloc (by simp (disch := first | omega | (simp only [List.length_map, List.length_append, List.length_set, List.length_cons, List.length_nil]; omega)) only [go_sem, ↓reduceIte, Nat.reduceEqDiff, reduceCtorEq]; rfl) rfl (by simp only [List.map_cons, List.map_nil]; rfl) ?_
      refine R_store ty24 (by simp (disch := first | omega | (simp only [List.length_map, List.length_append, List.length_set, List.length_cons, List.length_nil]; omega)) only [go_sem, ↓reduceIte, Nat.reduceEqDiff, reduceCtorEq]; rfl) (by simp (disch := first | omega | (simp only [List.length_map, List.length_append, List.length_set, List.length_cons, List.length_nil]; omega)) only [go_sem, ↓reduceIte, Nat.reduceEqDiff, reduceCtorEq]; rfl) (by simp (disch := first | omega | (simp only [List.length_map, List.length_append, List.length_set, List.length_cons, List.length_nil]; omega)) only [go_sem, ↓reduceIte, Nat.reduceEqDiff, reduceCtorEq]; rfl) (by simp) (by rfl) (by simp (disch := first | omega | (simp only [List.length_map, List.length_append, List.length_set, List.length_cons, List.length_nil]; omega)) only [go_sem, ↓reduceIte, Nat.reduceEqDiff, reduceCtorEq]; rfl) ?_
      refine Rq ?_
      refine R_end ?_
      refine one_same (fun f => rfl) ?_
      intro t ht
      simp only [List.mem_cons, List.not_mem_nil, or_false] at ht
      rcases ht with rfl | rfl
      · (simp only [get_cons, put_some, put_none, ↓reduceIte, Nat.reduceEqDiff, ren] <;> rfl)
      · simp only [get_cons, put_some, put_none, ↓reduceIte, Nat.reduceEqDiff, ren]
        (simp [rnB] <;> rfl)
     refine ⟨?_, ?_⟩
     ·
      refine Rcall ?_
      refine ACall_eq (of_ok _ _ b hb) ?_
      refine Rcall ?_
      refine ACall_eq (scale_ok _ _ b (by unfold Fw; omega) a ha) ?_
      rw [Int.mul_comm b a, fS_y (ab_fit ha hb)]
      refine Rq ?_
      refine Rq ?_
      refine Rq ?_
      refine R_alloc (by simp (disch := first | omega | (simp only [List.length_map, List.length_append, List.length_set, List.length_cons, List.length_nil]; omega)) only [go_sem, ↓reduceIte, Nat.reduceEqDiff, reduceCtorEq]; rfl) rfl (by simp only [List.map_cons, List.map_nil]; rfl) ?_
      refine R_store ty24 (by simp (disch := first | omega | (simp only [List.length_map, List.length_append, List.length_set, List.length_cons, List.length_nil]; omega)) only [go_sem, ↓reduceIte, Nat.reduceEqDiff, reduceCtorEq]; rfl) (by simp (disch := first | omega | (simp only [List.length_map, List.length_append, List.length_set, List.length_cons, List.length_nil]; omega)) only [go_sem, ↓reduceIte, Nat.reduceEqDiff, reduceCtorEq]; rfl) (by simp (disch := first | omega | (simp only [List.length_map, List.length_append, List.length_set, List.length_cons, List.length_nil]; omega)) only [go_sem, ↓reduceIte, Nat.reduceEqDiff, reduceCtorEq]; rfl) (by simp) (by rfl) (by simp (disch := first | omega | (simp only [List.length_map, List.length_append, List.length_set, List.length_cons, List.length_nil]; omega)) only [go_sem, ↓reduceIte, Nat.reduceEqDiff, reduceCtorEq]; rfl) ?_
      refine R_end ?_
      refine one_same (fun f => rfl) ?_
      intro t ht
      simp only [List.mem_cons, List.not_mem_nil, or_false] at ht
      rcases ht with rfl | rfl
      · (simp only [get_cons, put_some, put_none, ↓reduceIte, Nat.reduceEqDiff, ren] <;> rfl)
      · simp only [get_cons, put_some, put_none, ↓reduceIte, Nat.reduceEqDiff, ren]
        (simp [rnB] <;> rfl)
     refine ⟨?_, ?_⟩
     ·
      refine Rcall ?_
      refine ACall_eq (of_ok _ _ b hb) ?_
      refine Rcall ?_
      refine ACall_eq (scale_ok _ _ b (by unfold Fw; omega) a ha) ?_
      rw [Int.mul_comm b a, fS_y (ab_fit ha hb)]
      refine Rq ?_
      refine Rq ?_
      refine R_alloc (by simp (disch := first | omega | (simp only [List.length_map, List.length_append, List.length_set, List.length_cons, List.length_nil]; omega)) only [go_sem, ↓reduceIte, Nat.reduceEqDiff, reduceCtorEq]; rfl) rfl (by simp only [List.map_cons, List.map_nil]; rfl) ?_
      refine Rq ?_
      refine R_store ty24 (by simp (disch := first | omega | (simp only [List.length_map, List.length_append, List.length_set, List.length_cons, List.length_nil]; omega)) only [go_sem, ↓reduceIte, Nat.reduceEqDiff, reduceCtorEq]; rfl) (by simp (disch := first | omega | (simp only [List.length_map, List.length_append, List.length_set, List.length_cons, List.length_nil]; omega)) only [go_sem, ↓reduceIte, Nat.reduceEqDiff, reduceCtorEq]; rfl) (by simp (disch := first | omega | (simp only [List.length_map, List.length_append, List.length_set, List.length_cons, List.length_nil]; omega)) only [go_sem, ↓reduceIte, Nat.reduceEqDiff, reduceCtorEq]; rfl) (by simp) (by rfl) (by simp (disch := first | omega | (simp only [List.length_map, List.length_append, List.length_set, List.length_cons, List.length_nil]; omega)) only [go_sem, ↓reduceIte, Nat.reduceEqDiff, reduceCtorEq]; rfl) ?_
      refine R_end ?_
      refine one_same (fun f => rfl) ?_
      intro t ht
      simp only [List.mem_cons, List.not_mem_nil, or_false] at ht
      rcases ht with rfl | rfl
      · (simp only [get_cons, put_some, put_none, ↓reduceIte, Nat.reduceEqDiff, ren] <;> rfl)
      · simp only [get_cons, put_some, put_none, ↓reduceIte, Nat.reduceEqDiff, ren]
        (simp [rnB] <;> rfl)
     refine ⟨?_, ?_⟩
     ·
      refine Rcall ?_
      refine ACall_eq (of_ok _ _ b hb) ?_
      refine Rcall ?_
      refine ACall_eq (scale_ok _ _ b (by unfold Fw; omega) a ha) ?_
      rw [Int.mul_comm b a, fS_y (ab_fit ha hb)]
      refine Rq ?_
      refine R_alloc (by simp (disch := first | omega | (simp only [List.length_map, List.length_append, List.length_set, List.length_cons, List.length_nil]; omega)) only [go_sem, ↓reduceIte, Nat.reduceEqDiff, reduceCtorEq]; rfl) rfl (by simp only [List.map_cons, List.map_nil]; rfl) ?_
      refine Rq ?_
      refine Rq ?_
      refine R_store ty24 (by simp (disch := first | omega | (simp only [List.length_map, List.length_append, List.length_set, List.length_cons, List.length_nil]; omega)) only [go_sem, ↓reduceIte, Nat.reduceEqDiff, reduceCtorEq]; rfl) (by simp (disch := first | omega | (simp only [List.length_map, List.length_append, List.length_set, List.length_cons, List.length_nil]; omega)) only [go_sem, ↓reduceIte, Nat.reduceEqDiff, reduceCtorEq]; rfl) (by simp (disch := first | omega | (simp only [List.length_map, List.length_append, List.length_set, List.length_cons, List.length_nil]; omega)) only [go_sem, ↓reduceIte, Nat.reduceEqDiff, reduceCtorEq]; rfl) (by simp) (by rfl) (by simp (disch := first | omega | (simp only [List.length_map, List.length_append, List.length_set, List.length_cons, List.length_nil]; omega)) only [go_sem, ↓reduceIte, Nat.reduceEqDiff, reduceCtorEq]; rfl) ?_
      refine R_end ?_
      refine one_same (fun f => rfl) ?_
      intro t ht
      simp only [List.mem_cons, List.not_mem_nil, or_false] at ht
      rcases ht with rfl | rfl
      · (simp only [get_cons, put_some, put_none, ↓reduceIte, Nat.reduceEqDiff, ren] <;> rfl)
      · simp only [get_cons, put_some, put_none, ↓reduceIte, Nat.reduceEqDiff, ren]
        (simp [rnB] <;> rfl)
     refine ⟨?_, ?_⟩
     ·
      refine Rcall ?_
      refine ACall_eq (of_ok _ _ b hb) ?_
      refine Rcall ?_
      refine ACall_eq (scale_ok _ _ b (by unfold Fw; omega) a ha) ?_
      rw [Int.mul_comm b a, fS_y (ab_fit ha hb)]
      refine Rq ?_
      refine R_alloc (by simp (disch := first | omega | (simp only [List.length_map, List.length_append, List.length_set, List.length_cons, List.length_nil]; omega)) only [go_sem, ↓reduceIte, Nat.reduceEqDiff, reduceCtorEq]; rfl) rfl (by simp only [List.map_cons, List.map_nil]; rfl) ?_
      refine Rq ?_
      refine R_store ty24 (by simp (disch := first | omega | (simp only [List.length_map, List.length_append, List.length_set, List.length_cons, List.length_nil]; omega)) only [go_sem, ↓reduceIte, Nat.reduceEqDiff, reduceCtorEq]; rfl) (by simp (disch := first | omega | (simp only [List.length_map, List.length_append, List.length_set, List.length_cons, List.length_nil]; omega)) only [go_sem, ↓reduceIte, Nat.reduceEqDiff, reduceCtorEq]; rfl) (by simp (disch := first | omega | (simp only [List.length_map, List.length_append, List.length_set, List.length_cons, List.length_nil]; omega)) only [go_sem, ↓reduceIte, Nat.reduceEqDiff, reduceCtorEq]; rfl) (by simp) (by rfl) (by simp (disch := first | omega | (simp only [List.length_map, List.length_append, List.length_set, List.length_cons, List.length_nil]; omega)) only [go_sem, ↓reduceIte, Nat.reduceEqDiff, reduceCtorEq]; rfl) ?_
      refine Rq ?_
      refine R_end ?_
      refine one_same (fun f => rfl) ?_
      intro t ht
      simp only [List.mem_cons, List.not_mem_nil, or_false] at ht
      rcases ht with rfl | rfl
      · (simp only [get_cons, put_some, put_none, ↓reduceIte, Nat.reduceEqDiff, ren] <;> rfl)
      · simp only [get_cons, put_some, put_none, ↓reduceIte, Nat.reduceEqDiff, ren]
        (simp [rnB] <;> rfl)
     refine ⟨?_, ?_⟩
     ·
      refine Rcall ?_
      refine ACall_eq (of_ok _ _ b hb) ?_
      refine Rcall ?_
      refine ACall_eq (scale_ok _ _ b (by unfold Fw; omega) a ha) ?_
      rw [Int.mul_comm b a, fS_y (ab_fit ha hb)]
      refine Rq ?_
      refine R_alloc (by simp (disch := first | omega | (simp only [List.length_map, List.length_append, List.length_set, List.length_cons, List.length_nil]; omega)) only [go_sem, ↓reduceIte, Nat.reduceEqDiff, reduceCtorEq]; rfl) rfl (by simp only [List.map_cons, List.map_nil]; rfl) ?_
      refine Rq ?_
      refine Rq ?_
      refine R_store ty24 (by simp (disch := first | omega | (simp only [List.length_map, List.length_append, List.length_set, List.length_cons, List.length_nil]; omega)) only [go_sem, ↓reduceIte, Nat.reduceEqDiff, reduceCtorEq]; rfl) (by simp (disch := first | omega | (simp only [List.length_map, List.length_append, List.length_set, List.length_cons, List.length_nil]; omega)) only [go_sem, ↓reduceIte, Nat.reduceEqDiff, reduceCtorEq]; rfl) (by simp (disch := first | omega | (simp only [List.length_map, List.length_append, List.length_set, List.length_cons, List.length_nil]; omega)) only [go_sem, ↓reduceIte, Nat.reduceEqDiff, reduceCtorEq]; rfl) (by simp) (by rfl) (by simp (disch := first | omega | (simp only [List.length_map, List.length_append, List.length_set, List.length_cons, List.length_nil]; omega)) only [go_sem, ↓reduceIte, Nat.reduceEqDiff, reduceCtorEq]; rfl) ?_
      refine R_end ?_
      refine one_same (fun f => rfl) ?_
      intro t ht
      simp only [List.mem_cons, List.not_mem_nil, or_false] at ht
      rcases ht with rfl | rfl
      · (simp only [get_cons, put_some, put_none, ↓reduceIte, Nat.reduceEqDiff, ren] <;> rfl)
      · simp only [get_cons, put_some, put_none, ↓reduceIte, Nat.reduceEqDiff, ren]
        (simp [rnB] <;> rfl)
     refine ⟨?_, ?_⟩
     ·
      refine Rcall ?_
      refine ACall_eq (of_ok _ _ b hb) ?_
      refine Rcall ?_
      refine ACall_eq (scale_ok _ _ b (by unfold Fw; omega) a ha) ?_
      rw [Int.mul_comm b a, fS_y (ab_fit ha hb)]
      refine R_alloc (by simp (disch := first | omega | (simp only [List.length_map, List.length_append, List.length_set, List.length_cons, List.length_nil]; omega)) only [go_sem, ↓reduceIte, Nat.reduceEqDiff, reduceCtorEq]; rfl) rfl (by simp only [List.map_cons, List.map_nil]; rfl) ?_
      refine Rq ?_
      refine Rq ?_
      refine Rq ?_
      refine R_store ty24 (by simp (disch := first | omega | (simp only [List.length_map, List.length_append, List.length_set, List.length_cons, List.length_nil]; omega)) only [go_sem, ↓reduceIte, Nat.reduceEqDiff, reduceCtorEq]; rfl) (by simp (disch := first | omega | (simp only [List.length_map, List.length_append, List.length_set, List.length_cons, List.length_nil]; omega)) only [go_sem, ↓reduceIte, Nat.reduceEqDiff, reduceCtorEq]; rfl) (by simp (disch := first | omega | (simp only [List.length_map, List.length_append, List.length_set, List.length_cons, List.length_nil]; omega)) only [go_sem, ↓reduceIte, Nat.reduceEqDiff, reduceCtorEq]; rfl) (by simp) (by rfl) (by simp (disch := first | omega | (simp only [List.length_map, List.length_append, List.length_set, List.length_cons, List.length_nil]; omega)) only [go_sem, ↓reduceIte, Nat.reduceEqDiff, reduceCtorEq]; rfl) ?_
      refine R_end ?_
      refine one_same (fun f => rfl) ?_
      intro t ht
      simp only [List.mem_cons, List.not_mem_nil, or_false] at ht
      rcases ht with rfl | rfl
      · (simp only [get_cons, put_some, put_none, ↓reduceIte, Nat.reduceEqDiff, ren] <;> rfl)
      · simp only [get_cons, put_some, put_none, ↓reduceIte, Nat.reduceEqDiff, ren]
        (simp [rnB] <;> rfl)
     refine ⟨?_, ?_⟩
     ·
      refine Rcall ?_
      refine ACall_eq (of_ok _ _ b hb) ?_
      refine Rcall ?_
      refine ACall_eq (scale_ok _ _ b (by unfold Fw; omega) a ha) ?_
      rw [Int.mul_comm b a, fS_y (ab_fit ha hb)]
      refine R_alloc (by simp (disch := first | omega | (simp only [List.length_map, List.length_append, List.length_set, List.length_cons, List.length_nil]; omega)) only [go_sem, ↓reduceIte, Nat.reduceEqDiff, reduceCtorEq]; rfl) rfl (by simp only [List.map_cons, List.map_nil]; rfl) ?_
      refine Rq ?_
      refine Rq ?_
      refine R_store ty24 (by simp (disch := first | omega | (simp only [List.length_map, List.length_append, List.length_set, List.length_cons, List.length_nil]; omega)) only [go_sem, ↓reduceIte, Nat.reduceEqDiff, reduceCtorEq]; rfl) (by simp (disch := first | omega | (simp only [List.length_map, List.length_append, List.length_set, List.length_cons, List.length_nil]; omega)) only [go_sem, ↓reduceIte, Nat.reduceEqDiff, reduceCtorEq]; rfl) (by simp (disch := first | omega | (simp only [List.length_map, List.length_append, List.length_set, List.length_cons, List.length_nil]; omega)) only [go_sem, ↓reduceIte, Nat.reduceEqDiff, reduceCtorEq]; rfl) (by simp) (by rfl) (by simp (disch := first | omega | (simp only [List.length_map, List.length_append, List.length_set, List.length_cons, List.length_nil]; omega)) only [go_sem, ↓reduceIte, Nat.reduceEqDiff, reduceCtorEq]; rfl) ?_
      refine Rq ?_
      refine R_end ?_
      refine one_same (fun f => rfl) ?_
      intro t ht
      simp only [List.mem_cons, List.not_mem_nil, or_false] at ht
      rcases ht with rfl | rfl
      · (simp only [get_cons, put_some, put_none, ↓reduceIte, Nat.reduceEqDiff, ren] <;> rfl)
      · simp only [get_cons, put_some, put_none, ↓reduceIte, Nat.reduceEqDiff, ren]
        (simp [rnB] <;> rfl)
     refine ⟨?_, ?_⟩
     ·
      refine Rcall ?_
      refine ACall_eq (of_ok _ _ b hb) ?_
      refine Rcall ?_
      refine ACall_eq (scale_ok _ _ b (by unfold Fw; omega) a ha) ?_
      rw [Int.mul_comm b a, fS_y (ab_fit ha hb)]
      refine R_alloc (by simp (disch := first | omega | (simp only [List.length_map, List.length_append, List.length_set, List.length_cons, List.length_nil]; omega)) only [go_sem, ↓reduceIte, Nat.reduceEqDiff, reduceCtorEq]; rfl) rfl (by simp only [List.map_cons, List.map_nil]; rfl) ?_
      refine Rq ?_
      refine Rq ?_
      refine Rq ?_
      refine R_store ty24 (by simp (disch := first | omega | (simp only [List.length_map, List.length_append, List.length_set, List.length_cons, List.length_nil]; omega)) only [go_sem, ↓reduceIte, Nat.reduceEqDiff, reduceCtorEq]; rfl) (by simp (disch := first | omega | (simp only [List.length_map, List.length_append, List.length_set, List.length_cons, List.length_nil]; omega)) only [go_sem, ↓reduceIte, Nat.reduceEqDiff, reduceCtorEq]; rfl) (by simp (disch := first | omega | (simp only [List.length_map, List.length_append, List.length_set, List.length_cons, List.length_nil]; omega)) only [go_sem, ↓reduceIte, Nat.reduceEqDiff, reduceCtorEq]; rfl) (by simp) (by rfl) (by simp (disch := first | omega | (simp only [List.length_map, List.length_append, List.length_set, List.length_cons, List.length_nil]; omega)) only [go_sem, ↓reduceIte, Nat.reduceEqDiff, reduceCtorEq]; rfl) ?_
      refine R_end ?_
      refine one_same (fun f => rfl) ?_
      intro t ht
      simp only [List.mem_cons, List.not_mem_nil, or_false] at ht
      rcases ht with rfl | rfl
      · (simp only [get_cons, put_some, put_none, ↓reduceIte, Nat.reduceEqDiff, ren] <;> rfl)
      · simp only [get_cons, put_some, put_none, ↓reduceIte, Nat.reduceEqDiff, ren]
        (simp [rnB] <;> rfl)
     refine ⟨?_, ?_⟩
     ·
      refine Rcall ?_
      refine ACall_eq (of_ok _ _ b hb) ?_
      refine R_alloc (by simp (disch := first | omega | (simp only [List.length_map, List.length_append, List.length_set, List.length_cons, List.length_nil]; omega)) only [go_sem, ↓reduceIte, Nat.reduceEqDiff, reduceCtorEq]; rfl) rfl (by simp only [List.map_cons, List.map_nil]; rfl) ?_
      refine Rcall ?_
      refine ACall_eq (scale_ok _ _ b (by unfold Fw; omega) a ha) ?_
      rw [Int.mul_comm b a, fS_y (ab_fit ha hb)]
      refine Rq ?_
      refine Rq ?_
      refine Rq ?_
      refine R_store ty24 (by simp (disch := first | omega | (simp only [List.length_map, List.length_append, List.length_set, List.length_cons, List.length_nil]; omega)) only [go_sem, ↓reduceIte, Nat.reduceEqDiff, reduceCtorEq]; rfl) (by simp (disch := first | omega | (simp only [List.length_map, List.length_append, List.length_set, List.length_cons, List.length_nil]; omega)) only [go_sem, ↓reduceIte, Nat.reduceEqDiff, reduceCtorEq]; rfl) (by simp (disch := first | omega | (simp only [List.length_map, List.length_append, List.length_set, List.length_cons, List.length_nil]; omega)) only [go_sem, ↓reduceIte, Nat.reduceEqDiff, reduceCtorEq]; rfl) (by simp) (by rfl) (by simp (disch := first | omega | (simp only [List.length_map, List.length_append, List.length_set, List.length_cons, List.length_nil]; omega)) only [go_sem, ↓reduceIte, Nat.reduceEqDiff, reduceCtorEq]; rfl) ?_
      refine R_end ?_
      refine one_same (fun f => rfl) ?_
      intro t ht
      simp only [List.mem_cons, List.not_mem_nil, or_false] at ht
      rcases ht with rfl | rfl
      · (simp only [get_cons, put_some, put_none, ↓reduceIte, Nat.reduceEqDiff, ren] <;> rfl)
      · simp only [get_cons, put_some, put_none, ↓reduceIte, Nat.reduceEqDiff, ren]
        (simp [rnB] <;> rfl)
     refine ⟨?_, ?_⟩
     ·
      refine Rcall ?_
      refine ACall_eq (of_ok _ _ b hb) ?_
      refine R_alloc (by simp (disch := first | omega | (simp only [List.length_map, List.length_append, List.length_set, List.length_cons, List.length_nil]; omega)) only [go_sem, ↓reduceIte, Nat.reduceEqDiff, reduceCtorEq]; rfl) rfl (by simp only [List.map_cons, List.map_nil]; rfl) ?_
      refine Rcall ?_
      refine ACall_eq (scale_ok _ _ b (by unfold Fw; omega) a ha) ?_
      rw [Int.mul_comm b a, fS_y (ab_fit ha hb)]
      refine Rq ?_
      refine Rq ?_
      refine R_store ty24 (by simp (disch := first | omega | (simp only [List.length_map, List.length_append, List.length_set, List.length_cons, List.length_nil]; omega)) only [go_sem, ↓reduceIte, Nat.reduceEqDiff, reduceCtorEq]; rfl) (by simp (disch := first | omega | (simp only [List.length_map, List.length_append, List.length_set, List.length_cons, List.length_nil]; omega)) only [go_sem, ↓reduceIte, Nat.reduceEqDiff, reduceCtorEq]; rfl) (by simp (disch := first | omega | (simp only [List.length_map, List.length_append, List.length_set, List.length_cons, List.length_nil]; omega)) only [go_sem, ↓reduceIte, Nat.reduceEqDiff, reduceCtorEq]; rfl) (by simp) (by rfl) (by simp (disch := first | omega | (simp only [List.length_map, List.length_append, List.length_set, List.length_cons, List.length_nil]; omega)) only [go_sem, ↓reduceIte, Nat.reduceEqDiff, reduceCtorEq]; rfl) ?_
      refine Rq ?_
      refine R_end ?_
      refine one_same (fun f => rfl) ?_
      intro t ht
      simp only [List.mem_cons, List.not_mem_nil, or_false] at ht
      rcases ht with rfl | rfl
      · (simp only [get_cons, put_some, put_none, ↓reduceIte, Nat.reduceEqDiff, ren] <;> rfl)
      · simp only [get_cons, put_some, put_none, ↓reduceIte, Nat.reduceEqDiff, ren]
        (simp [rnB] <;> rfl)
     refine ⟨?_, ?_⟩
     ·
      refine Rcall ?_
      refine ACall_eq (of_ok _ _ b hb) ?_
      refine R_alloc (by simp (disch := first | omega | (simp only [List.length_map, List.length_append, List.length_set, List.length_cons, List.length_nil]; omega)) only [go_sem, ↓reduceIte, Nat.reduceEqDiff, reduceCtorEq]; rfl) rfl (by simp only [List.map_cons, List.map_nil]; rfl) ?_
      refine Rcall ?_
      refine ACall_eq (scale_ok _ _ b (by unfold Fw; omega) a ha) ?_
      rw [Int.mul_comm b a, fS_y (ab_fit ha hb)]
      refine Rq ?_
      refine Rq ?_
      refine Rq ?_
      refine R_store ty24 (by simp (disch := first | omega | (simp only [List.length_map, List.length_append, List.length_set, List.length_cons, List.length_nil]; omega)) only [go_sem, ↓reduceIte, Nat.reduceEqDiff, reduceCtorEq]; rfl) (by simp (disch := first | omega | (simp only [List.length_map, List.length_append, List.length_set, List.length_cons, List.length_nil]; omega)) only [go_sem, ↓reduceIte, Nat.reduceEqDiff, reduceCtorEq]; rfl) (by simp (disch := first | omega | (simp only [List.length_map, List.length_append, List.length_set, List.length_cons, List.length_nil]; omega)) only [go_sem, ↓reduceIte, Nat.reduceEqDiff, reduceCtorEq]; rfl) (by simp) (by rfl) (by simp (disch := first | omega | (simp only [List.length_map, List.length_append, List.length_set, List.length_cons, List.length_nil]; omega)) only [go_sem, ↓reduceIte, Nat.reduceEqDiff, reduceCtorEq]; rfl) ?_
      refine R_end ?_
      refine one_same (fun f => rfl) ?_
      intro t ht
      simp only [List.mem_cons, List.not_mem_nil, or_false] at ht
      rcases ht with rfl | rfl
      · (simp only [get_cons, put_some, put_none, ↓reduceIte, Nat.reduceEqDiff, ren] <;> rfl)
      · simp only [get_cons, put_some, put_none, ↓reduceIte, Nat.reduceEqDiff, ren]
        (simp [rnB] <;> rfl)
     refine ⟨?_, ?_⟩
     ·
      refine R_alloc (by simp (disch := first | omega | (simp only [List.length_map, List.length_append, List.length_set, List.length_cons, List.length_nil]; omega)) only [go_sem, ↓reduceIte, Nat.reduceEqDiff, reduceCtorEq]; rfl) rfl (by simp only [List.map_cons, List.map_nil]; rfl) ?_
      refine Rcall ?_
      refine ACall_eq (of_ok _ _ b hb) ?_
      refine Rcall ?_
      refine ACall_eq (scale_ok _ _ b (by unfold Fw; omega) a ha) ?_
      rw [Int.mul_comm b a, fS_y (ab_fit ha hb)]
      refine Rq ?_
      refine Rq ?_
      refine Rq ?_
      refine R_store ty24 (by simp (disch := first | omega | (simp only [List.length_map, List.length_append, List.length_set, List.length_cons, List.length_nil]; omega)) only [go_sem, ↓reduceIte, Nat.reduceEqDiff, reduceCtorEq]; rfl) (by simp (disch := first | omega | (simp only [List.length_map, List.length_append, List.length_set, List.length_cons, List.length_nil]; omega)) only [go_sem, ↓reduceIte, Nat.reduceEqDiff, reduceCtorEq]; rfl) (by simp (disch := first | omega | (simp only [List.length_map, List.length_append, List.length_set, List.length_cons, List.length_nil]; omega)) only [go_sem, ↓reduceIte, Nat.reduceEqDiff, reduceCtorEq]; rfl) (by simp) (by rfl) (by simp (disch := first | omega | (simp only [List.length_map, List.length_append, List.length_set, List.length_cons, List.length_nil]; omega)) only [go_sem, ↓reduceIte, Nat.reduceEqDiff, reduceCtorEq]; rfl) ?_
      refine R_end ?_
      refine one_same (fun f => rfl) ?_
      intro t ht
      simp only [List.mem_cons, List.not_mem_nil, or_false] at ht
      rcases ht with rfl | rfl
      · (simp only [get_cons, put_some, put_none, ↓reduceIte, Nat.reduceEqDiff, ren] <;> rfl)
      · simp only [get_cons, put_some, put_none, ↓reduceIte, Nat.reduceEqDiff, ren]
        (simp [rnB] <;> rfl)
     refine ⟨?_, ?_⟩
     ·
      refine R_alloc (by simp (disch := first | omega | (simp only [List.length_map, List.length_append, List.length_set, List.length_cons, List.length_nil]; omega)) only [go_sem, ↓reduceIte, Nat.reduceEqDiff, reduceCtorEq]; rfl) rfl (by simp only [List.map_cons, List.map_nil]; rfl) ?_
      refine Rcall ?_
      refine ACall_eq (of_ok _ _ b hb) ?_
      refine Rcall ?_
      refine ACall_eq (scale_ok _ _ b (by unfold Fw; omega) a ha) ?_
      rw [Int.mul_comm b a, fS_y (ab_fit ha hb)]
      refine Rq ?_
      refine Rq ?_
      refine R_store ty24 (by simp (disch := first | omega | (simp only [List.length_map, List.length_append, List.length_set, List.length_cons, List.length_nil]; omega)) only [go_sem, ↓reduceIte, Nat.reduceEqDiff, reduceCtorEq]; rfl) (by simp (disch := first | omega | (simp only [List.length_map, List.length_append, List.length_set, List.length_cons, List.length_nil]; omega)) only [go_sem, ↓reduceIte, Nat.reduceEqDiff, reduceCtorEq]; rfl) (by simp (disch := first | omega | (simp only [List.length_map, List.length_append, List.length_set, List.length_cons, List.length_nil]; omega)) only [go_sem, ↓reduceIte, Nat.reduceEqDiff, reduceCtorEq]; rfl) (by simp) (by rfl) (by simp (disch := first | omega | (simp only [List.length_map, List.length_append, List.length_set, List.length_cons, List.length_nil]; omega)) only [go_sem, ↓reduceIte, Nat.reduceEqDiff, reduceCtorEq]; rfl) ?_
      refine Rq ?_
      refine R_end ?_
      refine one_same (fun f => rfl) ?_
      intro t ht
      simp only [List.mem_cons, List.not_mem_nil, or_false] at ht
      rcases ht with rfl | rfl
      · (simp only [get_cons, put_some, put_none, ↓reduceIte, Nat.reduceEqDiff, ren] <;> rfl)
      · simp only [get_cons, put_some, put_none, ↓reduceIte, Nat.reduceEqDiff, ren]
        (simp [rnB] <;> rfl)
     refine ⟨?_, ?_⟩
     ·
      refine R_alloc (by simp (disch := first | omega | (simp only [List.length_map, List.length_append, List.length_set, List.length_cons, List.length_nil]; omega)) only [go_sem, ↓reduceIte, Nat.reduceEqDiff, reduceCtorEq]; rfl) rfl (by simp only [List.map_cons, List.map_nil]; rfl) ?_
      refine Rcall ?_
      refine ACall_eq (of_ok _ _ b hb) ?_
      refine Rcall ?_
      refine ACall_eq (scale_ok _ _ b (by unfold Fw; omega) a ha) ?_
      rw [Int.mul_comm b a, fS_y (ab_fit ha hb)]
      refine Rq ?_
      refine Rq ?_
      refine Rq ?_
      refine R_store ty24 (by simp (disch := first | omega | (simp only [List.length_map, List.length_append, List.length_set, List.length_cons, List.length_nil]; omega)) only [go_sem, ↓reduceIte, Nat.reduceEqDiff, reduceCtorEq]; rfl) (by simp (disch := first | omega | (simp only [List.length_map, List.length_append, List.length_set, List.length_cons, List.length_nil]; omega)) only [go_sem, ↓reduceIte, Nat.reduceEqDiff, reduceCtorEq]; rfl) (by simp (disch := first | omega | (simp only [List.length_map, List.length_append, List.length_set, List.length_cons, List.length_nil]; omega)) only [go_sem, ↓reduceIte, Nat.reduceEqDiff, reduceCtorEq]; rfl) (by simp) (by rfl) (by simp (disch := first | omega | (simp only [List.length_map, List.length_append, List.length_set, List.length_cons, List.length_nil]; omega)) only [go_sem, ↓reduceIte, Nat.reduceEqDiff, reduceCtorEq]; rfl) ?_
      refine R_end ?_
      refine one_same (fun f => rfl) ?_
      intro t ht
      simp only [List.mem_cons, List.not_mem_nil, or_false] at ht
      rcases ht with rfl | rfl
      · (simp only [get_cons, put_some, put_none, ↓reduceIte, Nat.reduceEqDiff, ren] <;> rfl)
      · simp only [get_cons, put_some, put_none, ↓reduceIte, Nat.reduceEqDiff, ren]
        (simp [rnB] <;> rfl)
     exact trivial
    rewrite [keep_one]
    refine Rp_env (e' := [(54, _), (13, _), (47, .any), (48, .any), (49, .any), (50, .any), (51, .any), (52, .any), (46, .any), (53, .any), (54, .any), (13, .any), (14, .any), (0, _), (1, _), (2, _), (3, _), (4, _), (5, _), (6, _), (7, _), (8, _), (9, _), (10, _), (11, _), (12, _), (13, _), (14, _), (16, _), (23, _), (36, _)]) rfl ?_
    simp only [put_some, get_cons, ↓reduceIte, Nat.reduceEqDiff]
    refine Rq ?_
    have tr : ∀ a b c d e f g h i j k m n o p q r s t u v w x y z A B C D E F G : AV, let l := lc_wring_ok a b c d e f g h i j k m n o p q r s; trim ((14,G)::(54,F)::(13,E)::(47,D)::(48,C)::(49,B)::(50,A)::(51,z)::(52,y)::(46,x)::(53,w)::(54,v)::(13,u)::(14,t)::l) l = [(0,a),(1,b),(2,c),(3,d),(4,e),(5,f),(6,g),(7,h),(8,i),(9,j),(10,k),(11,m),(12,n),(13,E),(14,G),(16,q),(23,r),(36,s)] := by intros; rfl
    refine R_nil (tr ..) ?_; clear tr
    refine then_n ?_
    refine at_seq rfl ?_
    refine rl rfl rfl ?_
    refine Lq ?_
    refine Lq ?_
    refine Lp_split (fun h4 => ?_) (fun h4 => ?_)
    ·
     try simp only [decide_eq_true_eq, decide_eq_false_iff_not, decide_eq_decide, Bool.not_eq_true', Bool.not_eq_false', beq_iff_eq, beq_eq_false_iff_ne, ne_eq, Bool.and_eq_true, Bool.and_eq_false_iff, decide_not] at h4
     refine Ly ?_
     refine Lq ?_
     refine Lq ?_
     refine Lq ?_
     refine Lp_split (fun h5 => ?_) (fun h5 => ?_)
     ·
      try simp only [decide_eq_true_eq, decide_eq_false_iff_not, decide_eq_decide, Bool.not_eq_true', Bool.not_eq_false', beq_iff_eq, beq_eq_false_iff_ne, ne_eq, Bool.and_eq_true, Bool.and_eq_false_iff, decide_not] at h5
      refine Ly ?_
      refine Lq ?_
      refine Ly ?_
      refine Lq ?_
      refine Ly ?_
      refine Lq ?_
      refine Lq ?_
      refine Lq ?_
      refine Lp_split (fun h6 => ?_) (fun h6 => ?_)
      ·
       try simp only [decide_eq_true_eq, decide_eq_false_iff_not, decide_eq_decide, Bool.not_eq_true', Bool.not_eq_false', beq_iff_eq, beq_eq_false_iff_ne, ne_eq, Bool.and_eq_true, Bool.and_eq_false_iff, decide_not] at h6
       refine Ly ?_
       refine Lq ?_
       refine Ly ?_
       refine Lq ?_
       refine Ly ?_
       refine Lq ?_
       refine Ly ?_
       refine Lq ?_
       refine Ly ?_
       refine Lq ?_
       refine L_nil ?_
       refine Ms ?_
       refine Ry ?_
       refine Rcall ?_
       refine ACall_eq (mul_ok _ _ b hb a ha) ?_
       rw [Int.mul_comm b a]
       refine R_end ?_
       refine M_nil ?_
       refine Ry ?_
       refine Rq ?_
       refine Rq ?_
       refine Rq ?_
       have tr : ∀ a b c d e f g h i j k m n o p q r s t u v w x y z A B C D E F G H I J K L : AV, let l := lc_wring_ok a b c d e f g h i j k m n o p q r s; trim ((6,L)::(72,K)::(71,J)::(70,I)::(69,H)::(68,G)::(67,F)::(66,E)::(65,D)::(64,C)::(63,B)::(62,A)::(61,z)::(60,y)::(59,x)::(58,w)::(57,v)::(56,u)::(55,t)::l) l = [(0,a),(1,b),(2,c),(3,d),(4,e),(5,f),(6,L),(7,h),(8,i),(9,j),(10,k),(11,m),(12,n),(13,o),(14,p),(16,q),(23,r),(36,s)] := by intros; rfl
       refine R_nil (tr ..) ?_; clear tr
       refine then_n ?_
       refine at_ret rfl ?_
       refine fpure ?_
       first | rfl | (simp; done) | (exfalso; omega)
      ·
       try simp only [decide_eq_true_eq, decide_eq_false_iff_not, decide_eq_decide, Bool.not_eq_true', Bool.not_eq_false', beq_iff_eq, beq_eq_false_iff_ne, ne_eq, Bool.and_eq_true, Bool.and_eq_false_iff, decide_not] at h6
       first | omega | contradiction | exact absurd rfl (by assumption) | exact absurd trivial (by assumption)
     ·
      try simp only [decide_eq_true_eq, decide_eq_false_iff_not, decide_eq_decide, Bool.not_eq_true', Bool.not_eq_false', beq_iff_eq, beq_eq_false_iff_ne, ne_eq, Bool.and_eq_true, Bool.and_eq_false_iff, decide_not] at h5
      first | omega | contradiction | exact absurd rfl (by assumption) | exact absurd trivial (by assumption)
    ·
     try simp only [decide_eq_true_eq, decide_eq_false_iff_not, decide_eq_decide, Bool.not_eq_true', Bool.not_eq_false', beq_iff_eq, beq_eq_false_iff_ne, ne_eq, Bool.and_eq_true, Bool.and_eq_false_iff, decide_not] at h4
     first | omega | contradiction | exact absurd rfl (by assumption) | exact absurd trivial (by assumption)
 ·
  try simp only [decide_eq_true_eq, decide_eq_false_iff_not, decide_eq_decide, Bool.not_eq_true', Bool.not_eq_false', beq_iff_eq, beq_eq_false_iff_ne, ne_eq, Bool.and_eq_true, Bool.and_eq_false_iff, decide_not] at h1
  refine at_skip rfl ?_
  refine then_n ?_
  refine at_seq rfl ?_
  refine rg rfl ?_
  refine Rq ?_
  refine Rq ?_
  refine Rq ?_
  refine Rq ?_
  refine Rcall ?_
  refine ACall_eq (mul_ok _ _ a ha b hb) ?_
  refine Rcall ?_
  refine ACall_eq (scale_ok _ _ (a * b) (ab_fit ha hb) 1 (by omega)) ?_
  rw [Int.mul_one, fS_y (ab_fit ha hb)]
  refine Rq ?_
  refine Rq ?_
  refine Rq ?_
  refine R_alloc (by simp (disch := first | omega | (simp only [List.length_map, List.length_append, List.length_set, List.length_cons, List.length_nil]; omega)) only [go_sem, ↓reduceIte, Nat.reduceEqDiff, reduceCtorEq]; rfl) rfl (by simp only [List.map_cons, List.map_nil]; rfl) ?_
  refine R_store ty24 (by simp (disch := first | omega | (simp only [List.length_map, List.length_append, List.length_set, List.length_cons, List.length_nil]; omega)) only [go_sem, ↓reduceIte, Nat.reduceEqDiff, reduceCtorEq]; rfl) (by simp (disch := first | omega | (simp only [List.length_map, List.length_append, List.length_set, List.length_cons, List.length_nil]; omega)) only [go_sem, ↓reduceIte, Nat.reduceEqDiff, reduceCtorEq]; rfl) (by simp (disch := first | omega | (simp only [List.length_map, List.length_append, List.length_set, List.length_cons, List.length_nil]; omega)) only [go_sem, ↓reduceIte, Nat.reduceEqDiff, reduceCtorEq]; rfl) (by simp) (by rfl) (by simp (disch := first | omega | (simp only [List.length_map, List.length_append, List.length_set, List.length_cons, List.length_nil]; omega)) only [go_sem, ↓reduceIte, Nat.reduceEqDiff, reduceCtorEq]; rfl) ?_
  refine Rq ?_
  have tr : ∀ a b c d e f g h i j k m n o p q r s t u v w x y z A B C D : AV, let l := lc_wring_ok a b c d e f g h i j k m n o p q r s; trim ((12,D)::(11,C)::(45,B)::(44,A)::(37,z)::(43,y)::(42,x)::(41,w)::(40,v)::(39,u)::(38,t)::l) l = [(0,a),(1,b),(2,c),(3,d),(4,e),(5,f),(6,g),(7,h),(8,i),(9,j),(10,k),(11,C),(12,D),(13,o),(14,p),(16,q),(23,r),(36,s)] := by intros; rfl
  refine R_nil (tr ..) ?_; clear tr
  refine then_n ?_
  refine at_seq rfl ?_
  refine rls2 rfl rfl ?_
  refine Lq ?_
  refine Lq ?_
  refine Lq ?_
  refine Lq ?_
  refine L_nil ?_
  refine Rcall ?_
  refine ACall_eq (of_ok _ _ b hb) ?_
  refine Rcall ?_
  refine ACall_eq (scale_ok _ _ b (by unfold Fw; omega) a ha) ?_
  rw [Int.mul_comm b a, fS_y (ab_fit ha hb)]
  refine Rq ?_
  refine Rq ?_
  refine Rq ?_
  refine R_alloc (by simp (disch := first | omega | (simp only [List.length_map, List.length_append, List.length_set, List.length_cons, List.length_nil]; omega)) only [go_sem, ↓reduceIte, Nat.reduceEqDiff, reduceCtorEq]; rfl) rfl (by simp only [List.map_cons, List.map_nil]; rfl) ?_
  refine R_store ty24 (by simp (disch := first | omega | (simp only [List.length_map, List.length_append, List.length_set, List.length_cons, List.length_nil]; omega)) only [go_sem, ↓reduceIte, Nat.reduceEqDiff, reduceCtorEq]; rfl) (by simp (disch := first | omega | (simp only [List.length_map, List.length_append, List.length_set, List.length_cons, List.length_nil]; omega)) only [go_sem, ↓reduceIte, Nat.reduceEqDiff, reduceCtorEq]; rfl) (by simp (disch := first | omega | (simp only [List.length_map, List.length_append, List.length_set, List.length_cons, List.length_nil]; omega)) only [go_sem, ↓reduceIte, Nat.reduceEqDiff, reduceCtorEq]; rfl) (by simp) (by rfl) (by simp (disch := first | omega | (simp only [List.length_map, List.length_append, List.length_set, List.length_cons, List.length_nil]; omega)) only [go_sem, ↓reduceIte, Nat.reduceEqDiff, reduceCtorEq]; rfl) ?_
  refine R_end ⟨?_, ?_⟩
  ·
   refine ⟨?_, ?_⟩
   ·
    refine Rcall ?_
    refine ACall_eq (of_ok _ _ b hb) ?_
    refine Rcall ?_
    refine ACall_eq (scale_ok _ _ b (by unfold Fw; omega) a ha) ?_
    rw [Int.mul_comm b a, fS_y (ab_fit ha hb)]
    refine Rq ?_
    refine Rq ?_
    refine R_alloc (by simp (disch := first | omega | (simp only [List.length_map, List.length_append, List.length_set, List.length_cons, List.length_nil]; omega)) only [go_sem, ↓reduceIte, Nat.reduceEqDiff, reduceCtorEq]; rfl) rfl (by simp only [List.map_cons, List.map_nil]; rfl) ?_
    refine Rq ?_
    refine R_store ty24 (by simp (disch := first | omega | (simp only [List.length_map, List.length_append, List.length_set, List.length_cons, List.length_nil]; omega)) only [go_sem, ↓reduceIte, Nat.reduceEqDiff, reduceCtorEq]; rfl) (by simp (disch := first | omega | (simp only [List.length_map, List.length_append, List.length_set, List.length_cons, List.length_nil]; omega)) only [go_sem, ↓reduceIte, Nat.reduceEqDiff, reduceCtorEq]; rfl) (by simp (disch := first | omega | (simp only [List.length_map, List.length_append, List.length_set, List.length_cons, List.length_nil]; omega)) only [go_sem, ↓reduceIte, Nat.reduceEqDiff, reduceCtorEq]; rfl) (by simp) (by rfl) (by simp (disch := first | omega | (simp only [List.length_map, List.length_append, List.length_set, List.length_cons, List.length_nil]; omega)) only [go_sem, ↓reduceIte, Nat.reduceEqDiff, reduceCtorEq]; rfl) ?_
    refine R_end ?_
    refine one_same (fun f => rfl) ?_
    intro t ht
    simp only [List.mem_cons, List.not_mem_nil, or_false] at ht
    rcases ht with rfl | rfl
    · (simp only [get_cons, put_some, put_none, ↓reduceIte, Nat.reduceEqDiff, ren] <;> rfl)
    · simp only [get_cons, put_some, put_none, ↓reduceIte, Nat.reduceEqDiff, ren]
      (simp [rnB] <;> rfl)
   refine ⟨?_, ?_⟩
   ·
    refine Rcall ?_
    refine ACall_eq (of_ok _ _ b hb) ?_
    refine Rcall ?_
    refine ACall_eq (scale_ok _ _ b (by unfold Fw; omega) a ha) ?_
    rw [Int.mul_comm b a, fS_y (ab_fit ha hb)]
    refine Rq ?_
    refine Rq ?_
    refine R_alloc (by simp (disch := first | omega | (simp only [List.length_map, List.length_append, List.length_set, List.length_cons, List.length_nil]; omega)) only [go_sem, ↓reduceIte, Nat.reduceEqDiff, reduceCtorEq]; rfl) rfl (by simp only [List.map_cons, List.map_nil]; rfl) ?_
    refine R_store ty24 (by simp (disch := first | omega | (simp only [List.length_map, List.length_append, List.length_set, List.length_cons, List.length_nil]; omega)) only [go_sem, ↓reduceIte, Nat.reduceEqDiff, reduceCtorEq]; rfl) (by simp (disch := first | omega | (simp only [List.length_map, List.length_append, List.length_set, List.length_cons, List.length_nil]; omega)) only [go_sem, ↓reduceIte, Nat.reduceEqDiff, reduceCtorEq]; rfl) (by simp (disch := first | omega | (simp only [List.length_map, List.length_append, List.length_set, List.length_cons, List.length_nil]; omega)) only [go_sem, ↓reduceIte, Nat.reduceEqDiff, reduceCtorEq]; rfl) (by simp) (by rfl) (by simp (disch := first | omega | (simp only [List.length_map, List.length_append, List.length_set, List.length_cons, List.length_nil]; omega)) only [go_sem, ↓reduceIte, Nat.reduceEqDiff, reduceCtorEq]; rfl) ?_
    refine Rq ?_
    refine R_end ?_
    refine one_same (fun f => rfl) ?_
    intro t ht
    simp only [List.mem_cons, List.not_mem_nil, or_false] at ht
    rcases ht with rfl | rfl
    · (simp only [get_cons, put_some, put_none, ↓reduceIte, Nat.reduceEqDiff, ren] <;> rfl)
    · simp only [get_cons, put_some, put_none, ↓reduceIte, Nat.reduceEqDiff, ren]
      (simp [rnB] <;> rfl)
   refine ⟨?_, ?_⟩
   ·
    refine Rcall ?_
    refine ACall_eq (of_ok _ _ b hb) ?_
    refine Rcall ?_
    refine ACall_eq (scale_ok _ _ b (by unfold Fw; omega) a ha) ?_
    rw [Int.mul_comm b a, fS_y (ab_fit ha hb)]
    refine Rq ?_
    refine Rq ?_
    refine Rq ?_
    refine R_alloc (by simp (disch := first | omega | (simp only [List.length_map, List.length_append, List.length_set, List.length_cons, List.length_nil]; omega)) only [go_sem, ↓reduceIte, Nat.reduceEqDiff, reduceCtorEq]; rfl) rfl (by simp only [List.map_cons, List.map_nil]; rfl) ?_
    refine R_store ty24 (by simp (disch := first | omega | (simp only [List.length_map, List.length_append, List.length_set, List.length_cons, List.length_nil]; omega)) only [go_sem, ↓reduceIte, Nat.reduceEqDiff, reduceCtorEq]; rfl) (by simp (disch := first | omega | (simp only [List.length_map, List.length_append, List.length_set, List.length_cons, List.length_nil]; omega)) only [go_sem, ↓reduceIte, Nat.reduceEqDiff, reduceCtorEq]; rfl) (by simp (disch := first | omega | (simp only [List.length_map, List.length_append, List.length_set, List.length_cons, List.length_nil]; omega)) only [go_sem, ↓reduceIte, Nat.reduceEqDiff, reduceCtorEq]; rfl) (by simp) (by rfl) (by simp (disch := first | omega | (simp only [List.length_map, List.length_append, List.length_set, List.length_cons, List.length_nil]; omega)) only [go_sem, ↓reduceIte, Nat.reduceEqDiff, reduceCtorEq]; rfl) ?_
    refine R_end ?_
    refine one_same (fun f => rfl) ?_
    intro t ht
    simp only [List.mem_cons, List.not_mem_nil, or_false] at ht
    rcases ht with rfl | rfl
    · (simp only [get_cons, put_some, put_none, ↓reduceIte, Nat.reduceEqDiff, ren] <;> rfl)
    · simp only [get_cons, put_some, put_none, ↓reduceIte, Nat.reduceEqDiff, ren]
      (simp [rnB] <;> rfl)
   refine ⟨?_, ?_⟩
   ·
    refine Rcall ?_
    refine ACall_eq (of_ok _ _ b hb) ?_
    refine Rcall ?_
    refine ACall_eq (scale_ok _ _ b (by unfold Fw; omega) a ha) ?_
    rw [Int.mul_comm b a, fS_y (ab_fit ha hb)]
    refine Rq ?_
    refine Rq ?_
    refine R_alloc (by simp (disch := first | omega | (simp only [List.length_map, List.length_append, List.length_set, List.length_cons, List.length_nil]; omega)) only [go_sem, ↓reduceIte, Nat.reduceEqDiff, reduceCtorEq]; rfl) rfl (by simp only [List.map_cons, List.map_nil]; rfl) ?_
    refine Rq ?_
    refine R_store ty24 (by simp (disch := first | omega | (simp only [List.length_map, List.length_append, List.length_set, List.length_cons, List.length_nil]; omega)) only [go_sem, ↓reduceIte, Nat.reduceEqDiff, reduceCtorEq]; rfl) (by simp (disch := first | omega | (simp only [List.length_map, List.length_append, List.length_set, List.length_cons, List.length_nil]; omega)) only [go_sem, ↓reduceIte, Nat.reduceEqDiff, reduceCtorEq]; rfl) (by simp (disch := first | omega | (simp only [List.length_map, List.length_append, List.length_set, List.length_cons, List.length_nil]; omega)) only [go_sem, ↓reduceIte, Nat.reduceEqDiff, reduceCtorEq]; rfl) (by simp) (by rfl) (by simp (disch := first | omega | (simp only [List.length_map, List.length_append, List.length_set, List.length_cons, List.length_nil]; omega)) only [go_sem, ↓reduceIte, Nat.reduceEqDiff, reduceCtorEq]; rfl) ?_
    refine R_end ?_
    refine one_same (fun f => rfl) ?_
    intro t ht
    simp only [List.mem_cons, List.not_mem_nil, or_false] at ht
    rcases ht with rfl | rfl
    · (simp only [get_cons, put_some, put_none, ↓reduceIte, Nat.reduceEqDiff, ren] <;> rfl)
    · simp only [get_cons, put_some, put_none, ↓reduceIte, Nat.reduceEqDiff, ren]
      (simp [rnB] <;> rfl)
   refine ⟨?_, ?_⟩
   ·
    refine Rcall ?_
    refine ACall_eq (of_ok _ _ b hb) ?_
    refine Rcall ?_
    refine ACall_eq (scale_ok _ _ b (by unfold Fw; omega) a ha) ?_
    rw [Int.mul_comm b a, fS_y (ab_fit ha hb)]
    refine Rq ?_
    refine R_alloc (by simp (disch := first | omega | (simp only [List.length_map, List.length_append, List.length_set, List.length_cons, List.length_nil]; omega)) only [go_sem, ↓reduceIte, Nat.reduceEqDiff, reduceCtorEq]; rfl) rfl (by simp only [List.map_cons, List.map_nil]; rfl) ?_
    refine Rq ?_
    refine Rq ?_
    refine R_store ty24 (by simp (disch := first | omega | (simp only [List.length_map, List.length_append, List.length_set, List.length_cons, List.length_nil]; omega)) only [go_sem, ↓reduceIte, Nat.reduceEqDiff, reduceCtorEq]; rfl) (by simp (disch := first | omega | (simp only [List.length_map, List.length_append, List.length_set, List.length_cons, List.length_nil]; omega)) only [go_sem, ↓reduceIte, Nat.reduceEqDiff, reduceCtorEq]; rfl) (by simp (disch := first | omega | (simp only [List.length_map, List.length_append, List.length_set, List.length_cons, List.length_nil]; omega)) only [go_sem, ↓reduceIte, Nat.reduceEqDiff, reduceCtorEq]; rfl) (by simp) (by rfl) (by simp (disch := first | omega | (simp only [List.length_map, List.length_append, List.length_set, List.length_cons, List.length_nil]; omega)) only [go_sem, ↓reduceIte, Nat.reduceEqDiff, reduceCtorEq]; rfl) ?_
    refine R_end ?_
    refine one_same (fun f => rfl) ?_
    intro t ht
    simp only [List.mem_cons, List.not_mem_nil, or_false] at ht
    rcases ht with rfl | rfl
    · (simp only [get_cons, put_some, put_none, ↓reduceIte, Nat.reduceEqDiff, ren] <;> rfl)
    · simp only [get_cons, put_some, put_none, ↓reduceIte, Nat.reduceEqDiff, ren]
      (simp [rnB] <;> rfl)
   refine ⟨?_, ?_⟩
   ·
    refine Rcall ?_
    refine ACall_eq (of_ok _ _ b hb) ?_
    refine Rcall ?_
    refine ACall_eq (scale_ok _ _ b (by unfold Fw; omega) a ha) ?_
    rw [Int.mul_comm b a, fS_y (ab_fit ha hb)]
    refine Rq ?_
    refine R_alloc (by simp (disch := first | omega | (simp only [List.length_map, List.length_append, List.length_set, List.length_cons, List.length_nil]; omega)) only [go_sem, ↓reduceIte, Nat.reduceEqDiff, reduceCtorEq]; rfl) rfl (by simp only [List.map_cons, List.map_nil]; rfl) ?_
    refine Rq ?_
    refine R_store ty24 (by simp (disch := first | omega | (simp only [List.length_map, List.length_append, List.length_set, List.length_cons, List.length_nil]; omega)) only [go_sem, ↓reduceIte, Nat.reduceEqDiff, reduceCtorEq]; rfl) (by simp (disch := first | omega | (simp only [List.length_map, List.length_append, List.length_set, List.length_cons, List.length_nil]; omega)) only [go_sem, ↓reduceIte, Nat.reduceEqDiff, reduceCtorEq]; rfl) (by simp (disch := first | omega | (simp only [List.length_map, List.length_append, List.length_set, List.length_cons, List.length_nil]; omega)) only [go_sem, ↓reduceIte, Nat.reduceEqDiff, reduceCtorEq]; rfl) (by simp) (by rfl) (by simp (disch := first | omega | (simp only [List.length_map, List.length_append, List.length_set, List.length_cons, List.length_nil]; omega)) only [go_sem, ↓reduceIte, Nat.reduceEqDiff, reduceCtorEq]; rfl) ?_
    refine Rq ?_
    refine R_end ?_
    refine one_same (fun f => rfl) ?_
    intro t ht
    simp only [List.mem_cons, List.not_mem_nil, or_false] at ht
    rcases ht with rfl | rfl
    · (simp only [get_cons, put_some, put_none, ↓reduceIte, Nat.reduceEqDiff, ren] <;> rfl)
    · simp only [get_cons, put_some, put_none, ↓reduceIte, Nat.reduceEqDiff, ren]
      (simp [rnB] <;> rfl)
   refine ⟨?_, ?_⟩
   ·
    refine Rcall ?_
    refine ACall_eq (of_ok _ _ b hb) ?_
    refine Rcall ?_
    refine ACall_eq (scale_ok _ _ b (by unfold Fw; omega) a ha) ?_
    rw [Int.mul_comm b a, fS_y (ab_fit ha hb)]
    refine Rq ?_
    refine R_alloc (by simp (disch := first | omega | (simp only [List.length_map, List.length_append, List.length_set, List.length_cons, List.length_nil]; omega)) only [go_sem, ↓reduceIte, Nat.reduceEqDiff, reduceCtorEq]; rfl) rfl (by simp only [List.map_cons, List.map_nil]; rfl) ?_
    refine Rq ?_
    refine Rq ?_
    refine R_store ty24 (by simp (disch := first | omega | (simp only [List.length_map, List.length_append, List.length_set, List.length_cons, List.length_nil]; omega)) only [go_sem, ↓reduceIte, Nat.reduceEqDiff, reduceCtorEq]; rfl) (by simp (disch := first | omega | (simp only [List.length_map, List.length_append, List.length_set, List.length_cons, List.length_nil]; omega)) only [go_sem, ↓reduceIte, Nat.reduceEqDiff, reduceCtorEq]; rfl) (by simp (disch := first | omega | (simp only [List.length_map, List.length_append, List.length_set, List.length_cons, List.length_nil]; omega)) only [go_sem, ↓reduceIte, Nat.reduceEqDiff, reduceCtorEq]; rfl) (by simp) (by rfl) (by simp (disch := first | omega | (simp only [List.length_map, List.length_append, List.length_set, List.length_cons, List.length_nil]; omega)) only [go_sem, ↓reduceIte, Nat.reduceEqDiff, reduceCtorEq]; rfl) ?_
    refine R_end ?_
    refine one_same (fun f => rfl) ?_
    intro t ht
    simp only [List.mem_cons, List.not_mem_nil, or_false] at ht
    rcases ht with rfl | rfl
    · (simp only [get_cons, put_some, put_none, ↓reduceIte, Nat.reduceEqDiff, ren] <;> rfl)
    · simp only [get_cons, put_some, put_none, ↓reduceIte, Nat.reduceEqDiff, ren]
      (simp [rnB] <;> rfl)
   refine ⟨?_, ?_⟩
   ·
    refine Rcall ?_
    refine ACall_eq (of_ok _ _ b hb) ?_
    refine Rcall ?_
    refine ACall_eq (scale_ok _ _ b (by unfold Fw; omega) a ha) ?_
    rw [Int.mul_comm b a, fS_y (ab_fit ha hb)]
    refine R_alloc (by simp (disch := first | omega | (simp only [List.length_map, List.length_append, List.length_set, List.length_cons, List.length_nil]; omega)) only [go_sem, ↓reduceIte, Nat.reduceEqDiff, reduceCtorEq]; rfl) rfl (by simp only [List.map_cons, List.map_nil]; rfl) ?_
    refine Rq ?_
    refine Rq ?_
    refine Rq ?_
    refine R_store ty24 (by simp (disch := first | omega | (simp only [List.length_map, List.length_append, List.length_set, List.length_cons, List.length_nil]; omega)) only [go_sem, ↓reduceIte, Nat.reduceEqDiff, reduceCtorEq]; rfl) (by simp (disch := first | omega | (simp only [List.length_map, List.length_append, List.length_set, List.length_cons, List.length_nil]; omega)) only [go_sem, ↓reduceIte, Nat.reduceEqDiff, reduceCtorEq]; rfl) (by simp (disch := first | omega | (simp only [List.length_map, List.length_append, List.length_set, List.length_cons, List.length_nil]; omega)) only [go_sem, ↓reduceIte, Nat.reduceEqDiff, reduceCtorEq]; rfl) (by simp) (by rfl) (by simp (disch := first | omega | (simp only [List.length_map, List.length_append, List.length_set, List.length_cons, List.length_nil]; omega)) only [go_sem, ↓reduceIte, Nat.reduceEqDiff, reduceCtorEq]; rfl) ?_
    refine R_end ?_
    refine one_same (fun f => rfl) ?_
    intro t ht
    simp only [List.mem_cons, List.not_mem_nil, or_false] at ht
    rcases ht with rfl | rfl
    · (simp only [get_cons, put_some, put_none, ↓reduceIte, Nat.reduceEqDiff, ren] <;> rfl)
    · simp only [get_cons, put_some, put_none, ↓reduceIte, Nat.reduceEqDiff, ren]
      (simp [rnB] <;> rfl)
   refine ⟨?_, ?_⟩
   ·
    refine Rcall ?_
    refine ACall_eq (of_ok _ _ b hb) ?_
    refine Rcall ?_
    refine ACall_eq (scale_ok _ _ b (by unfold Fw; omega) a ha) ?_
    rw [Int.mul_comm b a, fS_y (ab_fit ha hb)]
    refine R_alloc (by simp (disch := first | omega | (simp only [List.length_map, List.length_append, List.length_set, List.length_cons, List.length_nil]; omega)) only [go_sem, ↓reduceIte, Nat.reduceEqDiff, reduceCtorEq]; rfl) rfl (by simp only [List.map_cons, List.map_nil]; rfl) ?_
    refine Rq ?_
    refine Rq ?_
    refine R_store ty24 (by simp (disch := first | omega | (simp only [List.length_map, List.length_append, List.length_set, List.length_cons, List.length_nil]; omega)) only [go_sem, ↓reduceIte, Nat.reduceEqDiff, reduceCtorEq]; rfl) (by simp (disch := first | omega | (simp only [List.length_map, List.length_append, List.length_set, List.length_cons, List.length_nil]; omega)) only [go_sem, ↓reduceIte, Nat.reduceEqDiff, reduceCtorEq]; rfl) (by simp (disch := first | omega | (simp only [List.length_map, List.length_append, List.length_set, List.length_cons, List.length_nil]; omega)) only [go_sem, ↓reduceIte, Nat.reduceEqDiff, reduceCtorEq]; rfl) (by simp) (by rfl) (by simp (disch := first | omega | (simp only [List.length_map, List.length_append, List.length_set, List.length_cons, List.length_nil]; omega)) only [go_sem, ↓reduceIte, Nat.reduceEqDiff, reduceCtorEq]; rfl) ?_
    refine Rq ?_
    refine R_end ?_
    refine one_same (fun f => rfl) ?_
    intro t ht
    simp only [List.mem_cons, List.not_mem_nil, or_false] at ht
    rcases ht with rfl | rfl
    · (simp only [get_cons, put_some, put_none, ↓reduceIte, Nat.reduceEqDiff, ren] <;> rfl)
    · simp only [get_cons, put_some, put_none, ↓reduceIte, Nat.reduceEqDiff, ren]
      (simp [rnB] <;> rfl)
   refine ⟨?_, ?_⟩
   ·
    refine Rcall ?_
    refine ACall_eq (of_ok _ _ b hb) ?_
    refine Rcall ?_
    refine ACall_eq (scale_ok _ _ b (by unfold Fw; omega) a ha) ?_
    rw [Int.mul_comm b a, fS_y (ab_fit ha hb)]
    refine R_alloc (by simp (disch := first | omega | (simp only [List.length_map, List.length_append, List.length_set, List.length_cons, List.length_nil]; omega)) only [go_sem, ↓reduceIte, Nat.reduceEqDiff, reduceCtorEq]; rfl) rfl (by simp only [List.map_cons, List.map_nil]; rfl) ?_
    refine Rq ?_
    refine Rq ?_
    refine Rq ?_
    refine R_store ty24 (by simp (disch := first | omega | (simp only [List.length_map, List.length_append, List.length_set, List.length_cons, List.length_nil]; omega)) only [go_sem, ↓reduceIte, Nat.reduceEqDiff, reduceCtorEq]; rfl) (by simp (disch := first | omega | (simp only [List.length_map, List.length_append, List.length_set, List.length_cons, List.length_nil]; omega)) only [go_sem, ↓reduceIte, Nat.reduceEqDiff, reduceCtorEq]; rfl) (by simp (disch := first | omega | (simp only [List.length_map, List.length_append, List.length_set, List.length_cons, List.length_nil]; omega)) only [go_sem, ↓reduceIte, Nat.reduceEqDiff, reduceCtorEq]; rfl) (by simp) (by rfl) (by simp (disch := first | omega | (simp only [List.length_map, List.length_append, List.length_set, List.length_cons, List.length_nil]; omega)) only [go_sem, ↓reduceIte, Nat.reduceEqDiff, reduceCtorEq]; rfl) ?_
    refine R_end ?_
    refine one_same (fun f => rfl) ?_
    intro t ht
    simp only [List.mem_cons, List.not_mem_nil, or_false] at ht
    rcases ht with rfl | rfl
    · (simp only [get_cons, put_some, put_none, ↓reduceIte, Nat.reduceEqDiff, ren] <;> rfl)
    · simp only [get_cons, put_some, put_none, ↓reduceIte, Nat.reduceEqDiff, ren]
      (simp [rnB] <;> rfl)
   refine ⟨?_, ?_⟩
   ·
    refine Rcall ?_
    refine ACall_eq (of_ok _ _ b hb) ?_
    refine R_alloc (by simp (disch := first | omega | (simp only [List.length_map, List.length_append, List.length_set, List.length_cons, List.length_nil]; omega)) only [go_sem, ↓reduceIte, Nat.reduceEqDiff, reduceCtorEq]; rfl) rfl (by simp only [List.map_cons, List.map_nil]; rfl) ?_
    refine Rcall ?_
    refine ACall_eq (scale_ok _ _ b (by unfold Fw; omega) a ha) ?_
    rw [Int.mul_comm b a, fS_y (ab_fit ha hb)]
    refine Rq ?_
    refine Rq ?_
    refine Rq ?_
    refine R_store ty24 (by simp (disch := first | omega | (simp only [List.length_map, List.length_append, List.length_set, List.length_cons, List.length_nil]; omega)) only [go_sem, ↓reduceIte, Nat.reduceEqDiff, reduceCtorEq]; rfl) (by simp (disch := first | omega | (simp only [List.length_map, List.length_append, List.length_set, List.length_cons, List.length_nil]; omega)) only [go_sem, ↓reduceIte, Nat.reduceEqDiff, reduceCtorEq]; rfl) (by simp (disch := first | omega | (simp only [List.length_map, List.length_append, List.length_set, List.length_cons, List.length_nil]; omega)) only [go_sem, ↓reduceIte, Nat.reduceEqDiff, reduceCtorEq]; rfl) (by simp) (by rfl) (by simp (disch := first | omega | (simp only [List.length_map, List.length_append, List.length_set, List.length_cons, List.length_nil]; omega)) only [go_sem, ↓reduceIte, Nat.reduceEqDiff, reduceCtorEq]; rfl) ?_
    refine R_end ?_
    refine one_same (fun f => rfl) ?_
    intro t ht
    simp only [List.mem_cons, List.not_mem_nil, or_false] at ht
    rcases ht with rfl | rfl
    · (simp only [get_cons, put_some, put_none, ↓reduceIte, Nat.reduceEqDiff, ren] <;> rfl)
    · simp only [get_cons, put_some, put_none, ↓reduceIte, Nat.reduceEqDiff, ren]
      (simp [rnB] <;> rfl)
   refine ⟨?_, ?_⟩
   ·
    refine Rcall ?_
    refine ACall_eq (of_ok _ _ b hb) ?_
    refine R_alloc (by simp (disch := first | omega | (simp only [List.length_map, List.length_append, List.length_set, List.length_cons, List.length_nil]; omega)) only [go_sem, ↓reduceIte, Nat.reduceEqDiff, reduceCtorEq]; rfl) rfl (by simp only [List.map_cons, List.map_nil]; rfl) ?_
    refine Rcall ?_
    refine ACall_eq (scale_ok _ _ b (by unfold Fw; omega) a ha) ?_
    rw [Int.mul_comm b a, fS_y (ab_fit ha hb)]
    refine Rq ?_
    refine Rq ?_
    refine R_store ty24 (by simp (disch := first | omega | (simp only [List.length_map, List.length_append, List.length_set, List.length_cons, List.length_nil]; omega)) only [go_sem, ↓reduceIte, Nat.reduceEqDiff, reduceCtorEq]; rfl) (by simp (disch := first | omega | (simp only [List.length_map, List.length_append, List.length_set, List.length_cons, List.length_nil]; omega)) only [go_sem, ↓reduceIte, Nat.reduceEqDiff, reduceCtorEq]; rfl) (by simp (disch := first | omega | (simp only [List.length_map, List.length_append, List.length_set, List.length_cons, List.length_nil]; omega)) only [go_sem, ↓reduceIte, Nat.reduceEqDiff, reduceCtorEq]; rfl) (by simp) (by rfl) (by simp (disch := first | omega | (simp only [List.length_map, List.length_append, List.length_set, List.length_cons, List.length_nil]; omega)) only [go_sem, ↓reduceIte, Nat.reduceEqDiff, reduceCtorEq]; rfl) ?_
    refine Rq ?_
    refine R_end ?_
    refine one_same (fun f => rfl) ?_
    intro t ht
    simp only [List.mem_cons, List.not_mem_nil, or_false] at ht
    rcases ht with rfl | rfl
    · (simp only [get_cons, put_some, put_none, ↓reduceIte, Nat.reduceEqDiff, ren] <;> rfl)
    · simp only [get_cons, put_some, put_none, ↓reduceIte, Nat.reduceEqDiff, ren]
      (simp [rnB] <;> rfl)
   refine ⟨?_, ?_⟩
   ·
    refine Rcall ?_
    refine ACall_eq (of_ok _ _ b hb) ?_
    refine R_alloc (by simp (disch := first | omega | (simp only [List.length_map, List.length_append, List.length_set, List.length_cons, List.length_nil]; omega)) only [go_sem, ↓reduceIte, Nat.reduceEqDiff, reduceCtorEq]; rfl) rfl (by simp only [List.map_cons, List.map_nil]; rfl) ?_
    refine Rcall ?_
    refine ACall_eq (scale_ok _ _ b (by unfold Fw; omega) a ha) ?_
    rw [Int.mul_comm b a, fS_y (ab_fit ha hb)]
    refine Rq ?_
    refine Rq ?_
    refine Rq ?_
    refine R_store ty24 (by simp (disch := first | omega | (simp only [List.length_map, List.length_append, List.length_set, List.length_cons, List.length_nil]; omega)) only [go_sem, ↓reduceIte, Nat.reduceEqDiff, reduceCtorEq]; rfl) (by simp (disch := first | omega | (simp only [List.length_map, List.length_append, List.length_set, List.length_cons, List.length_nil]; omega)) only [go_sem, ↓reduceIte, Nat.reduceEqDiff, reduceCtorEq]; rfl) (by simp (disch := first | omega | (simp only [List.length_map, List.length_append, List.length_set, List.length_cons, List.length_nil]; omega)) only [go_sem, ↓reduceIte, Nat.reduceEqDiff, reduceCtorEq]; rfl) (by simp) (by rfl) (by simp (disch := first | omega | (simp only [List.length_map, List.length_append, List.length_set, List.length_cons, List.length_nil]; omega)) only [go_sem, ↓reduceIte, Nat.reduceEqDiff, reduceCtorEq]; rfl) ?_
    refine R_end ?_
    refine one_same (fun f => rfl) ?_
    intro t ht
    simp only [List.mem_cons, List.not_mem_nil, or_false] at ht
    rcases ht with rfl | rfl
    · (simp only [get_cons, put_some, put_none, ↓reduceIte, Nat.reduceEqDiff, ren] <;> rfl)
    · simp only [get_cons, put_some, put_none, ↓reduceIte, Nat.reduceEqDiff, ren]
      (simp [rnB] <;> rfl)
   refine ⟨?_, ?_⟩
   ·
    refine R_alloc (by simp (disch := first | omega | (simp only [List.length_map, List.length_append, List.length_set, List.length_cons, List.length_nil]; omega)) only [go_sem, ↓reduceIte, Nat.reduceEqDiff, reduceCtorEq]; rfl) rfl (by simp only [List.map_cons, List.map_nil]; rfl) ?_
    refine Rcall ?_
    refine ACall_eq (of_ok _ _ b hb) ?_
    refine Rcall ?_
    refine ACall_eq (scale_ok _ _ b (by unfold Fw; omega) a ha) ?_
    rw [Int.mul_comm b a, fS_y (ab_fit ha hb)]
    refine Rq ?_
    refine Rq ?_
    refine Rq ?_
    refine R_store ty24 (by simp (disch := first | omega | (simp only [List.length_map, List.length_append, List.length_set, List.length_cons, List.length_nil]; omega)) only [go_sem, ↓reduceIte, Nat.reduceEqDiff, reduceCtorEq]; rfl) (by simp (disch := first | omega | (simp only [List.length_map, List.length_append, List.length_set, List.length_cons, List.length_nil]; omega)) only [go_sem, ↓reduceIte, Nat.reduceEqDiff, reduceCtorEq]; rfl) (by simp (disch := first | omega | (simp only [List.length_map, List.length_append, List.length_set, List.length_cons, List.length_nil]; omega)) only [go_sem, ↓reduceIte, Nat.reduceEqDiff, reduceCtorEq]; rfl) (by simp) (by rfl) (by simp (disch := first | omega | (simp only [List.length_map, List.length_append, List.length_set, List.length_cons, List.length_nil]; omega)) only [go_sem, ↓reduceIte, Nat.reduceEqDiff, reduceCtorEq]; rfl) ?_
    refine R_end ?_
    refine one_same (fun f => rfl) ?_
    intro t ht
    simp only [List.mem_cons, List.not_mem_nil, or_false] at ht
    rcases ht with rfl | rfl
    · (simp only [get_cons, put_some, put_none, ↓reduceIte, Nat.reduceEqDiff, ren] <;> rfl)
    · simp only [get_cons, put_some, put_none, ↓reduceIte, Nat.reduceEqDiff, ren]
      (simp [rnB] <;> rfl)
   refine ⟨?_, ?_⟩
   ·
    refine R_alloc (by simp (disch := first | omega | (simp only [List.length_map, List.length_append, List.length_set, List.length_cons, List.length_nil]; omega)) only [go_sem, ↓reduceIte, Nat.reduceEqDiff, reduceCtorEq]; rfl) rfl (by simp only [List.map_cons, List.map_nil]; rfl) ?_
    refine Rcall ?_
    refine ACall_eq (of_ok _ _ b hb) ?_
    refine Rcall ?_
    refine ACall_eq (scale_ok _ _ b (by unfold Fw; omega) a ha) ?_
    rw [Int.mul_comm b a, fS_y (ab_fit ha hb)]
    refine Rq ?_
    refine Rq ?_
    refine R_store ty24 (by simp (disch := first | omega | (simp only [List.length_map, List.length_append, List.length_set, List.length_cons, List.length_nil]; omega)) only [go_sem, ↓reduceIte, Nat.reduceEqDiff, reduceCtorEq]; rfl) (by simp (disch := first | omega | (simp only [List.length_map, List.length_append, List.length_set, List.length_cons, List.length_nil]; omega)) only [go_sem, ↓reduceIte, Nat.reduceEqDiff, reduceCtorEq]; rfl) (by simp (disch := first | omega | (simp only [List.length_map, List.length_append, List.length_set, List.length_cons, List.length_nil]; omega)) only [go_sem, ↓reduceIte, Nat.reduceEqDiff, reduceCtorEq]; rfl) (by simp) (by rfl) (by simp (disch := first | omega | (simp only [List.length_map, List.length_append, List.length_set, List.length_cons, List.length_nil]; omega)) only [go_sem, ↓reduceIte, Nat.reduceEqDiff, reduceCtorEq]; rfl) ?_
    refine Rq ?_
    refine R_end ?_
    refine one_same (fun f => rfl) ?_
    intro t ht
    simp only [List.mem_cons, List.not_mem_nil, or_false] at ht
    rcases ht with rfl | rfl
    · (simp only [get_cons, put_some, put_none, ↓reduceIte, Nat.reduceEqDiff, ren] <;> rfl)
    · simp only [get_cons, put_some, put_none, ↓reduceIte, Nat.reduceEqDiff, ren]
      (simp [rnB] <;> rfl)
   refine ⟨?_, ?_⟩
   ·
    refine R_alloc (by simp (disch := first | omega | (simp only [List.length_map, List.length_append, List.length_set, List.length_cons, List.length_nil]; omega)) only [go_sem, ↓reduceIte, Nat.reduceEqDiff, reduceCtorEq]; rfl) rfl (by simp only [List.map_cons, List.map_nil]; rfl) ?_
    refine Rcall ?_
    refine ACall_eq (of_ok _ _ b hb) ?_
    refine Rcall ?_
    refine ACall_eq (scale_ok _ _ b (by unfold Fw; omega) a ha) ?_
    rw [Int.mul_comm b a, fS_y (ab_fit ha hb)]
    refine Rq ?_
    refine Rq ?_
    refine Rq ?_
    refine R_store ty24 (by simp (disch := first | omega | (simp only [List.length_map, List.length_append, List.length_set, List.length_cons, List.length_nil]; omega)) only [go_sem, ↓reduceIte, Nat.reduceEqDiff, reduceCtorEq]; rfl) (by simp (disch := first | omega | (simp only [List.length_map, List.length_append, List.length_set, List.length_cons, List.length_nil]; omega)) only [go_sem, ↓reduceIte, Nat.reduceEqDiff, reduceCtorEq]; rfl) (by simp (disch := first | omega | (simp only [List.length_map, List.length_append, List.length_set, List.length_cons, List.length_nil]; omega)) only [go_sem, ↓reduceIte, Nat.reduceEqDiff, reduceCtorEq]; rfl) (by simp) (by rfl) (by simp (disch := first | omega | (simp only [List.length_map, List.length_append, List.length_set, List.length_cons, List.length_nil]; omega)) only [go_sem, ↓reduceIte, Nat.reduceEqDiff, reduceCtorEq]; rfl) ?_
    refine R_end ?_
    refine one_same (fun f => rfl) ?_
    intro t ht
    simp only [List.mem_cons, List.not_mem_nil, or_false] at ht
    rcases ht with rfl | rfl
    · (simp only [get_cons, put_some, put_none, ↓reduceIte, Nat.reduceEqDiff, ren] <;> rfl)
    · simp only [get_cons, put_some, put_none, ↓reduceIte, Nat.reduceEqDiff, ren]
      (simp [rnB] <;> rfl)
   exact trivial
  rewrite [keep_one]
  refine Rp_env (e' := [(54, _), (13, _), (47, .any), (48, .any), (49, .any), (50, .any), (51, .any), (52, .any), (46, .any), (53, .any), (54, .any), (13, .any), (14, .any), (0, _), (1, _), (2, _), (3, _), (4, _), (5, _), (6, _), (7, _), (8, _), (9, _), (10, _), (11, _), (12, _), (13, _), (14, _), (16, _), (23, _), (36, _)]) rfl ?_
  simp only [put_some, get_cons, ↓reduceIte, Nat.reduceEqDiff]
  refine Rq ?_
  have tr : ∀ a b c d e f g h i j k m n o p q r s t u v w x y z A B C D E F G : AV, let l := lc_wring_ok a b c d e f g h i j k m n o p q r s; trim ((14,G)::(54,F)::(13,E)::(47,D)::(48,C)::(49,B)::(50,A)::(51,z)::(52,y)::(46,x)::(53,w)::(54,v)::(13,u)::(14,t)::l) l = [(0,a),(1,b),(2,c),(3,d),(4,e),(5,f),(6,g),(7,h),(8,i),(9,j),(10,k),(11,m),(12,n),(13,E),(14,G),(16,q),(23,r),(36,s)] := by intros; rfl
  refine R_nil (tr ..) ?_; clear tr
  refine then_n ?_
  refine at_seq rfl ?_
  refine rl rfl rfl ?_
  refine Lq ?_
  refine Lq ?_
  refine Lp_split (fun h7 => ?_) (fun h7 => ?_)
  ·
   try simp only [decide_eq_true_eq, decide_eq_false_iff_not, decide_eq_decide, Bool.not_eq_true', Bool.not_eq_false', beq_iff_eq, beq_eq_false_iff_ne, ne_eq, Bool.and_eq_true, Bool.and_eq_false_iff, decide_not] at h7
   refine Ly ?_
   refine Lq ?_
   refine Lq ?_
   refine Lq ?_
   refine Lp_split (fun h8 => ?_) (fun h8 => ?_)
   ·
    try simp only [decide_eq_true_eq, decide_eq_false_iff_not, decide_eq_decide, Bool.not_eq_true', Bool.not_eq_false', beq_iff_eq, beq_eq_false_iff_ne, ne_eq, Bool.and_eq_true, Bool.and_eq_false_iff, decide_not] at h8
    refine Ly ?_
    refine Lq ?_
    refine Ly ?_
    refine Lq ?_
    refine Ly ?_
    refine Lq ?_
    refine Lq ?_
    refine Lq ?_
    refine Lp_split (fun h9 => ?_) (fun h9 => ?_)
    ·
     try simp only [decide_eq_true_eq, decide_eq_false_iff_not, decide_eq_decide, Bool.not_eq_true', Bool.not_eq_false', beq_iff_eq, beq_eq_false_iff_ne, ne_eq, Bool.and_eq_true, Bool.and_eq_false_iff, decide_not] at h9
     refine Ly ?_
     refine Lq ?_
     refine Ly ?_
     refine Lq ?_
     refine Ly ?_
     refine Lq ?_
     refine Ly ?_
     refine Lq ?_
     refine Ly ?_
     refine Lq ?_
     refine L_nil ?_
     refine Ms ?_
     refine Ry ?_
     refine Rcall ?_
     refine ACall_eq (mul_ok _ _ b hb a ha) ?_
     rw [Int.mul_comm b a]
     refine R_end ?_
     refine M_nil ?_
     refine Ry ?_
     refine Rq ?_
     refine Rq ?_
     refine Rq ?_
     have tr : ∀ a b c d e f g h i j k m n o p q r s t u v w x y z A B C D E F G H I J K L : AV, let l := lc_wring_ok a b c d e f g h i j k m n o p q r s; trim ((6,L)::(72,K)::(71,J)::(70,I)::(69,H)::(68,G)::(67,F)::(66,E)::(65,D)::(64,C)::(63,B)::(62,A)::(61,z)::(60,y)::(59,x)::(58,w)::(57,v)::(56,u)::(55,t)::l) l = [(0,a),(1,b),(2,c),(3,d),(4,e),(5,f),(6,L),(7,h),(8,i),(9,j),(10,k),(11,m),(12,n),(13,o),(14,p),(16,q),(23,r),(36,s)] := by intros; rfl
     refine R_nil (tr ..) ?_; clear tr
     refine then_n ?_
     refine at_ret rfl ?_
     refine fpure ?_
     first | rfl | (simp; done) | (exfalso; omega)
    ·
     try simp only [decide_eq_true_eq, decide_eq_false_iff_not, decide_eq_decide, Bool.not_eq_true', Bool.not_eq_false', beq_iff_eq, beq_eq_false_iff_ne, ne_eq, Bool.and_eq_true, Bool.and_eq_false_iff, decide_not] at h9
     first | omega | contradiction | exact absurd rfl (by assumption) | exact absurd trivial (by assumption)
   ·
    try simp only [decide_eq_true_eq, decide_eq_false_iff_not, decide_eq_decide, Bool.not_eq_true', Bool.not_eq_false', beq_iff_eq, beq_eq_false_iff_ne, ne_eq, Bool.and_eq_true, Bool.and_eq_false_iff, decide_not] at h8
    first | omega | contradiction | exact absurd rfl (by assumption) | exact absurd trivial (by assumption)
  ·
   try simp only [decide_eq_true_eq, decide_eq_false_iff_not, decide_eq_decide, Bool.not_eq_true', Bool.not_eq_false', beq_iff_eq, beq_eq_false_iff_ne, ne_eq, Bool.and_eq_true, Bool.and_eq_false_iff, decide_not] at h7
   first | omega | contradiction | exact absurd rfl (by assumption) | exact absurd trivial (by assumption)

end Go.Proofs.YtokhmkkifmhfmaaDoor
