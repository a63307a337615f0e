/-
  Walks of chapters 37, 39 and 40. The steps are written by program (walk.py).
-/
import Derived.Test.YtaoondlakhocnaaRA
set_option linter.unusedSimpArgs false
set_option linter.unusedVariables false
set_option maxHeartbeats 40000000
set_option maxRecDepth 4000
namespace Go.Proofs.Ytaoondlakhocnaa
open Go Go.Am

abbrev lc_rshape_ok (a b c d e f g h i j k m n o p q r s t u v w : AV) : Env := [(0,a),(1,b),(2,c),(4,d),(6,e),(8,f),(20,g),(32,h),(34,i),(35,j),(36,k),(37,m),(47,n),(50,o),(51,p),(52,q),(53,r),(56,s),(57,t),(58,u),(59,v),(67,w)]
theorem rshape_ok (lim : Nat) (H : Heap) (rows : List (List Int)) :
    ACall sig lim 70 [.agg [rowsAV rows]] H fun r H' => r = AV.i (shapeS rows) ∧ H' = H := by
 refine ACall_pure (fa := fa70) rfl rfl rfl rfl ?_
 have tr : ∀ a0 : AV, env0 fa70.keep [a0] = [(0,a0),(1,.any),(2,.any),(4,.any),(6,.any),(8,.any),(20,.any),(32,.any),(34,.any),(35,.any),(36,.any),(37,.any),(47,.any),(50,.any),(51,.any),(52,.any),(53,.any),(56,.any),(57,.any),(58,.any),(59,.any),(67,.any)] := fun a0 => rfl
 refine W_to (tr _) ?_; clear tr
 refine at_seq rfl ?_
 refine rg rfl ?_
 refine R_box rfl (by simp (disch := first | omega | (simp only [List.length_map, List.length_append, List.length_set, List.length_cons, List.length_nil]; omega)) only [go_sem, ↓reduceIte, Nat.reduceEqDiff, reduceCtorEq]; rfl) rfl rfl ?_
 refine Rq ?_
 have tr : ∀ a b c d e f g h i j k m n o p q r s t u v w x y : AV, let l := lc_rshape_ok a b c d e f g h i j k m n o p q r s t u v w; trim ((2,y)::(1,x)::l) l = [(0,a),(1,x),(2,y),(4,d),(6,e),(8,f),(20,g),(32,h),(34,i),(35,j),(36,k),(37,m),(47,n),(50,o),(51,p),(52,q),(53,r),(56,s),(57,t),(58,u),(59,v),(67,w)] := by intros; rfl
 refine R_nil (tr ..) ?_; clear tr
 refine then_n ?_
 refine at_seq rfl ?_
 refine at_seq rfl ?_
 refine rg rfl ?_
 refine Rq ?_
 refine Rq ?_
 refine Rq ?_
 refine Rq ?_
 refine Rq ?_
 refine Rp_split (fun h1 => ?_) (fun h1 => ?_)
 ·
  try simp only [decide_eq_true_eq, decide_eq_false_iff_not, Bool.not_eq_true', Bool.not_eq_false', beq_iff_eq, beq_eq_false_iff_ne, ne_eq] at h1
  refine Rn ?_
  refine Rn ?_
  refine Rn ?_
  refine Rn ?_
  refine Rn ?_
  refine Rn ?_
  refine Rq ?_
  have tr : ∀ a b c d e f g h i j k m n o p q r s t u v w x y z A B C D E F G H I : AV, let l := lc_rshape_ok a b c d e f g h i j k m n o p q r s t u v w; trim ((20,I)::(19,H)::(18,G)::(17,F)::(16,E)::(15,D)::(14,C)::(13,B)::(12,A)::(11,z)::(10,y)::(9,x)::l) l = [(0,a),(1,b),(2,c),(4,d),(6,e),(8,f),(20,I),(32,h),(34,i),(35,j),(36,k),(37,m),(47,n),(50,o),(51,p),(52,q),(53,r),(56,s),(57,t),(58,u),(59,v),(67,w)] := by intros; rfl
  refine R_nil (tr ..) ?_; clear tr
  refine then_n ?_
  refine cdt ?_
  refine at_seq rfl ?_
  refine rg rfl ?_
  refine Rq ?_
  have tr : ∀ a b c d e f g h i j k m n o p q r s t u v w x : AV, let l := lc_rshape_ok a b c d e f g h i j k m n o p q r s t u v w; trim ((2,x)::l) l = [(0,a),(1,b),(2,x),(4,d),(6,e),(8,f),(20,g),(32,h),(34,i),(35,j),(36,k),(37,m),(47,n),(50,o),(51,p),(52,q),(53,r),(56,s),(57,t),(58,u),(59,v),(67,w)] := by intros; rfl
  refine R_nil (tr ..) ?_; clear tr
  refine then_n ?_
  refine at_ret rfl ?_
  refine then_r ?_
  refine fpure ?_
  refine ⟨?_, rfl⟩
  rw [shapeS, if_pos (by omega)]
 ·
  try simp only [decide_eq_true_eq, decide_eq_false_iff_not, Bool.not_eq_true', Bool.not_eq_false', beq_iff_eq, beq_eq_false_iff_ne, ne_eq] at h1
  refine Ry ?_
  refine Rq ?_
  refine Ry ?_
  refine Rq ?_
  refine Ry ?_
  refine Rq ?_
  refine Ry ?_
  refine Rq ?_
  refine Ry ?_
  refine Rq ?_
  refine Ry ?_
  refine Rq ?_
  refine Rq ?_
  have tr : ∀ a b c d e f g h i j k m n o p q r s t u v w x y z A B C D E F G H I : AV, let l := lc_rshape_ok a b c d e f g h i j k m n o p q r s t u v w; trim ((20,I)::(19,H)::(18,G)::(17,F)::(16,E)::(15,D)::(14,C)::(13,B)::(12,A)::(11,z)::(10,y)::(9,x)::l) l = [(0,a),(1,b),(2,c),(4,d),(6,e),(8,f),(20,I),(32,h),(34,i),(35,j),(36,k),(37,m),(47,n),(50,o),(51,p),(52,q),(53,r),(56,s),(57,t),(58,u),(59,v),(67,w)] := by intros; rfl
  refine R_nil (tr ..) ?_; clear tr
  refine then_n ?_
  refine cdd (fun h2 => ?_) (fun h2 => ?_)
  ·
   try simp only [decide_eq_true_eq, decide_eq_false_iff_not, Bool.not_eq_true', Bool.not_eq_false', beq_iff_eq, beq_eq_false_iff_ne, ne_eq] at h2
   refine at_seq rfl ?_
   refine rg rfl ?_
   refine Rq ?_
   have tr : ∀ a b c d e f g h i j k m n o p q r s t u v w x : AV, let l := lc_rshape_ok a b c d e f g h i j k m n o p q r s t u v w; trim ((2,x)::l) l = [(0,a),(1,b),(2,x),(4,d),(6,e),(8,f),(20,g),(32,h),(34,i),(35,j),(36,k),(37,m),(47,n),(50,o),(51,p),(52,q),(53,r),(56,s),(57,t),(58,u),(59,v),(67,w)] := by intros; rfl
   refine R_nil (tr ..) ?_; clear tr
   refine then_n ?_
   refine at_ret rfl ?_
   refine then_r ?_
   refine fpure ?_
   refine ⟨?_, rfl⟩
   rw [shapeS, if_pos (by omega)]
  ·
   try simp only [decide_eq_true_eq, decide_eq_false_iff_not, Bool.not_eq_true', Bool.not_eq_false', beq_iff_eq, beq_eq_false_iff_ne, ne_eq] at h2
   refine at_skip rfl ?_
   refine then_n ?_
   refine at_seq rfl ?_
   refine at_seq rfl ?_
   refine rg rfl ?_
   refine Rq ?_
   refine Rq ?_
   refine Rq ?_
   refine Rq ?_
   refine Rq ?_
   refine Rp_split (fun h3 => ?_) (fun h3 => ?_)
   ·
    try simp only [decide_eq_true_eq, decide_eq_false_iff_not, Bool.not_eq_true', Bool.not_eq_false', beq_iff_eq, beq_eq_false_iff_ne, ne_eq] at h3
    refine Rn ?_
    refine Rn ?_
    refine Rn ?_
    refine Rn ?_
    refine Rn ?_
    refine Rn ?_
    refine Rq ?_
    have tr : ∀ a b c d e f g h i j k m n o p q r s t u v w x y z A B C D E F G H I : AV, let l := lc_rshape_ok a b c d e f g h i j k m n o p q r s t u v w; trim ((32,I)::(31,H)::(30,G)::(29,F)::(28,E)::(27,D)::(26,C)::(25,B)::(24,A)::(23,z)::(22,y)::(21,x)::l) l = [(0,a),(1,b),(2,c),(4,d),(6,e),(8,f),(20,g),(32,I),(34,i),(35,j),(36,k),(37,m),(47,n),(50,o),(51,p),(52,q),(53,r),(56,s),(57,t),(58,u),(59,v),(67,w)] := by intros; rfl
    refine R_nil (tr ..) ?_; clear tr
    refine then_n ?_
    refine cdt ?_
    refine at_seq rfl ?_
    refine rg rfl ?_
    refine Rq ?_
    have tr : ∀ a b c d e f g h i j k m n o p q r s t u v w x : AV, let l := lc_rshape_ok a b c d e f g h i j k m n o p q r s t u v w; trim ((2,x)::l) l = [(0,a),(1,b),(2,x),(4,d),(6,e),(8,f),(20,g),(32,h),(34,i),(35,j),(36,k),(37,m),(47,n),(50,o),(51,p),(52,q),(53,r),(56,s),(57,t),(58,u),(59,v),(67,w)] := by intros; rfl
    refine R_nil (tr ..) ?_; clear tr
    refine then_n ?_
    refine at_ret rfl ?_
    refine then_r ?_
    refine fpure ?_
    refine ⟨?_, rfl⟩
    rw [shapeS, if_neg (by omega), if_pos (by omega)]
   ·
    try simp only [decide_eq_true_eq, decide_eq_false_iff_not, Bool.not_eq_true', Bool.not_eq_false', beq_iff_eq, beq_eq_false_iff_ne, ne_eq] at h3
    refine Ry ?_
    refine Rq ?_
    refine Ry ?_
    refine Rq ?_
    refine Ry ?_
    refine Rq ?_
    refine Ry ?_
    refine Rq ?_
    refine Ry ?_
    refine Rq ?_
    refine Ry ?_
    refine Rq ?_
    refine Rq ?_
    have tr : ∀ a b c d e f g h i j k m n o p q r s t u v w x y z A B C D E F G H I : AV, let l := lc_rshape_ok a b c d e f g h i j k m n o p q r s t u v w; trim ((32,I)::(31,H)::(30,G)::(29,F)::(28,E)::(27,D)::(26,C)::(25,B)::(24,A)::(23,z)::(22,y)::(21,x)::l) l = [(0,a),(1,b),(2,c),(4,d),(6,e),(8,f),(20,g),(32,I),(34,i),(35,j),(36,k),(37,m),(47,n),(50,o),(51,p),(52,q),(53,r),(56,s),(57,t),(58,u),(59,v),(67,w)] := by intros; rfl
    refine R_nil (tr ..) ?_; clear tr
    refine then_n ?_
    refine cdd (fun h4 => ?_) (fun h4 => ?_)
    ·
     try simp only [decide_eq_true_eq, decide_eq_false_iff_not, Bool.not_eq_true', Bool.not_eq_false', beq_iff_eq, beq_eq_false_iff_ne, ne_eq] at h4
     refine at_seq rfl ?_
     refine rg rfl ?_
     refine Rq ?_
     have tr : ∀ a b c d e f g h i j k m n o p q r s t u v w x : AV, let l := lc_rshape_ok a b c d e f g h i j k m n o p q r s t u v w; trim ((2,x)::l) l = [(0,a),(1,b),(2,x),(4,d),(6,e),(8,f),(20,g),(32,h),(34,i),(35,j),(36,k),(37,m),(47,n),(50,o),(51,p),(52,q),(53,r),(56,s),(57,t),(58,u),(59,v),(67,w)] := by intros; rfl
     refine R_nil (tr ..) ?_; clear tr
     refine then_n ?_
     refine at_ret rfl ?_
     refine then_r ?_
     refine fpure ?_
     refine ⟨?_, rfl⟩
     rw [shapeS, if_neg (by omega), if_pos (by omega)]
    ·
     try simp only [decide_eq_true_eq, decide_eq_false_iff_not, Bool.not_eq_true', Bool.not_eq_false', beq_iff_eq, beq_eq_false_iff_ne, ne_eq] at h4
     refine at_skip rfl ?_
     refine then_n ?_
     refine at_seq rfl ?_
     refine at_seq rfl ?_
     refine rg rfl ?_
     refine Rq ?_
     refine Rq ?_
     refine Rq ?_
     refine Rq ?_
     have tr : ∀ a b c d e f g h i j k m n o p q r s t u v w x y z A : AV, let l := lc_rshape_ok a b c d e f g h i j k m n o p q r s t u v w; trim ((36,A)::(35,z)::(34,y)::(33,x)::l) l = [(0,a),(1,b),(2,c),(4,d),(6,e),(8,f),(20,g),(32,h),(34,y),(35,z),(36,A),(37,m),(47,n),(50,o),(51,p),(52,q),(53,r),(56,s),(57,t),(58,u),(59,v),(67,w)] := by intros; rfl
     refine R_nil (tr ..) ?_; clear tr
     refine then_n ?_
     refine at_block rfl ?_
     refine loop_n rfl (fun mm kv H' => ∃ u : Nat, ∃ x2 x4 x37 x47 : AV, (kv = [(2, x2), (4, x4), (36, AV.i u), (37, x37), (47, x47)]) ∧ (mm = rows.length - u) ∧ (H' = H ++ [some [rowsAV rows]]) ∧ (u ≤ rows.length) ∧ (∀ i, i < u → (gt rows i).length = (gt rows 0).length)) ⟨0, _, _, _, _, rfl, rfl, rfl, by omega, by intro i hi; omega⟩ (by rfl) ?_
     rintro mm kv H' ⟨u, x2, x4, x37, x47, rfl, rfl, rfl, hu, hq⟩
     have tr : ∀ a b c d e f g h i j k m n o p q r s t u v w x y z A B : AV, upd [(0,a),(1,b),(2,c),(4,d),(6,e),(8,f),(20,g),(32,h),(34,i),(35,j),(36,k),(37,m),(47,n),(50,o),(51,p),(52,q),(53,r),(56,s),(57,t),(58,u),(59,v),(67,w)] [(2,x),(4,y),(36,z),(37,A),(47,B)] = [(0,a),(1,b),(2,x),(4,y),(6,e),(8,f),(20,g),(32,h),(34,i),(35,j),(36,z),(37,A),(47,B),(50,o),(51,p),(52,q),(53,r),(56,s),(57,t),(58,u),(59,v),(67,w)] := by intros; rfl
     refine W_to (tr ..) ?_; clear tr
     refine at_seq rfl ?_
     refine rg rfl ?_
     refine Rq ?_
     have tr : ∀ a b c d e f g h i j k m n o p q r s t u v w x : AV, let l := lc_rshape_ok a b c d e f g h i j k m n o p q r s t u v w; trim ((37,x)::l) l = [(0,a),(1,b),(2,c),(4,d),(6,e),(8,f),(20,g),(32,h),(34,i),(35,j),(36,k),(37,x),(47,n),(50,o),(51,p),(52,q),(53,r),(56,s),(57,t),(58,u),(59,v),(67,w)] := by intros; rfl
     refine R_nil (tr ..) ?_; clear tr
     refine then_n ?_
     refine at_seq rfl ?_
     refine cdd (fun h5 => ?_) (fun h5 => ?_)
     ·
      try simp only [decide_eq_true_eq, decide_eq_false_iff_not, Bool.not_eq_true', Bool.not_eq_false', beq_iff_eq, beq_eq_false_iff_ne, ne_eq] at h5
      refine at_skip rfl ?_
      refine then_n ?_
      refine at_seq rfl ?_
      refine at_block rfl ?_
      refine at_seq rfl ?_
      refine rg rfl ?_
      refine Rq ?_
      refine Rq ?_
      refine Rq ?_
      have tr : ∀ a b c d e f g h i j k m n o p q r s t u v w x y z : AV, let l := lc_rshape_ok a b c d e f g h i j k m n o p q r s t u v w; trim ((4,z)::(39,y)::(38,x)::l) l = [(0,a),(1,b),(2,c),(4,z),(6,e),(8,f),(20,g),(32,h),(34,i),(35,j),(36,k),(37,m),(47,n),(50,o),(51,p),(52,q),(53,r),(56,s),(57,t),(58,u),(59,v),(67,w)] := by intros; rfl
      refine R_nil (tr ..) ?_; clear tr
      refine then_n ?_
      refine at_seq rfl ?_
      refine rg rfl ?_
      refine Rq ?_
      refine Rq ?_
      refine Rq ?_
      refine Rq ?_
      refine Rq ?_
      refine Rq ?_
      refine Rq ?_
      refine Rq ?_
      have tr : ∀ a b c d e f g h i j k m n o p q r s t u v w x y z A B C D E : AV, let l := lc_rshape_ok a b c d e f g h i j k m n o p q r s t u v w; trim ((47,E)::(46,D)::(45,C)::(44,B)::(43,A)::(42,z)::(41,y)::(40,x)::l) l = [(0,a),(1,b),(2,c),(4,d),(6,e),(8,f),(20,g),(32,h),(34,i),(35,j),(36,k),(37,m),(47,E),(50,o),(51,p),(52,q),(53,r),(56,s),(57,t),(58,u),(59,v),(67,w)] := by intros; rfl
      refine R_nil (tr ..) ?_; clear tr
      refine then_n ?_
      refine cdd (fun h6 => ?_) (fun h6 => ?_)
      ·
       try simp only [decide_eq_true_eq, decide_eq_false_iff_not, Bool.not_eq_true', Bool.not_eq_false', beq_iff_eq, beq_eq_false_iff_ne, ne_eq] at h6
       refine at_seq rfl ?_
       refine rg rfl ?_
       refine Rq ?_
       have tr : ∀ a b c d e f g h i j k m n o p q r s t u v w x : AV, let l := lc_rshape_ok a b c d e f g h i j k m n o p q r s t u v w; trim ((2,x)::l) l = [(0,a),(1,b),(2,x),(4,d),(6,e),(8,f),(20,g),(32,h),(34,i),(35,j),(36,k),(37,m),(47,n),(50,o),(51,p),(52,q),(53,r),(56,s),(57,t),(58,u),(59,v),(67,w)] := by intros; rfl
       refine R_nil (tr ..) ?_; clear tr
       refine then_n ?_
       refine at_ret rfl ?_
       refine blk_r ?_
       refine then_r ?_
       refine then_r ?_
       refine blk_r ?_
       refine then_r ?_
       refine fpure ?_
       refine ⟨?_, rfl⟩
       rw [shapeS, if_neg (by omega), if_neg (by omega), if_pos (fun hh => absurd (hh u (by omega)) (by omega))]
      ·
       try simp only [decide_eq_true_eq, decide_eq_false_iff_not, Bool.not_eq_true', Bool.not_eq_false', beq_iff_eq, beq_eq_false_iff_ne, ne_eq] at h6
       refine at_skip rfl ?_
       refine blk_n ?_
       refine then_n ?_
       refine rg rfl ?_
       refine Rq ?_
       refine Rq ?_
       have tr : ∀ a b c d e f g h i j k m n o p q r s t u v w x y : AV, let l := lc_rshape_ok a b c d e f g h i j k m n o p q r s t u v w; trim ((36,y)::(48,x)::l) l = [(0,a),(1,b),(2,c),(4,d),(6,e),(8,f),(20,g),(32,h),(34,i),(35,j),(36,y),(37,m),(47,n),(50,o),(51,p),(52,q),(53,r),(56,s),(57,t),(58,u),(59,v),(67,w)] := by intros; rfl
       refine R_nil (tr ..) ?_; clear tr
       refine then_n ?_
       exact ⟨_, _, ⟨u + 1, _, _, _, _, rfl, rfl, rfl, by omega, by exact all_step hq (by omega)⟩, by rfl, by omega⟩
     ·
      try simp only [decide_eq_true_eq, decide_eq_false_iff_not, Bool.not_eq_true', Bool.not_eq_false', beq_iff_eq, beq_eq_false_iff_ne, ne_eq] at h5
      refine at_exit rfl ?_
      refine then_x ?_
      refine then_x ?_
      refine blk_x ?_
      refine then_n ?_
      refine at_seq rfl ?_
      refine at_seq rfl ?_
      refine rg rfl ?_
      have hq3 : SameLen rows := fun i hi => hq i (by omega)
      refine Rq ?_
      refine Rq ?_
      refine Rq ?_
      refine Rq ?_
      have tr : ∀ a b c d e f g h i j k m n o p q r s t u v w x y z A : AV, let l := lc_rshape_ok a b c d e f g h i j k m n o p q r s t u v w; trim ((52,A)::(51,z)::(50,y)::(49,x)::l) l = [(0,a),(1,b),(2,c),(4,d),(6,e),(8,f),(20,g),(32,h),(34,i),(35,j),(36,k),(37,m),(47,n),(50,y),(51,z),(52,A),(53,r),(56,s),(57,t),(58,u),(59,v),(67,w)] := by intros; rfl
      refine R_nil (tr ..) ?_; clear tr
      refine then_n ?_
      refine at_block rfl ?_
      refine loop_n rfl (fun mm kv H' => ∃ v : Nat, ∃ x2 x6 x8 x53 x56 x57 x58 x59 x67 : AV, (kv = [(2, x2), (6, x6), (8, x8), (52, AV.i v), (53, x53), (56, x56), (57, x57), (58, x58), (59, x59), (67, x67)]) ∧ (mm = rows.length - v) ∧ (H' = H ++ [some [rowsAV rows]]) ∧ (v ≤ rows.length) ∧ (∀ i, i < v → ∀ w, w < (gt rows i).length → okN (gt (gt rows i) w))) ⟨0, _, _, _, _, _, _, _, _, _, rfl, rfl, rfl, by omega, by intro i hi; omega⟩ (by rfl) ?_
      rintro mm kv H' ⟨v, x2, x6, x8, x53, x56, x57, x58, x59, x67, rfl, rfl, rfl, hv, hr⟩
      have tr : ∀ a b c d e f g h i j k m n o p q r s t u v w x y z A B C D E F G : AV, upd [(0,a),(1,b),(2,c),(4,d),(6,e),(8,f),(20,g),(32,h),(34,i),(35,j),(36,k),(37,m),(47,n),(50,o),(51,p),(52,q),(53,r),(56,s),(57,t),(58,u),(59,v),(67,w)] [(2,x),(6,y),(8,z),(52,A),(53,B),(56,C),(57,D),(58,E),(59,F),(67,G)] = [(0,a),(1,b),(2,x),(4,d),(6,y),(8,z),(20,g),(32,h),(34,i),(35,j),(36,k),(37,m),(47,n),(50,o),(51,p),(52,A),(53,B),(56,C),(57,D),(58,E),(59,F),(67,G)] := by intros; rfl
      refine W_to (tr ..) ?_; clear tr
      refine at_seq rfl ?_
      refine rg rfl ?_
      refine Rq ?_
      have tr : ∀ a b c d e f g h i j k m n o p q r s t u v w x : AV, let l := lc_rshape_ok a b c d e f g h i j k m n o p q r s t u v w; trim ((53,x)::l) l = [(0,a),(1,b),(2,c),(4,d),(6,e),(8,f),(20,g),(32,h),(34,i),(35,j),(36,k),(37,m),(47,n),(50,o),(51,p),(52,q),(53,x),(56,s),(57,t),(58,u),(59,v),(67,w)] := by intros; rfl
      refine R_nil (tr ..) ?_; clear tr
      refine then_n ?_
      refine at_seq rfl ?_
      refine cdd (fun h7 => ?_) (fun h7 => ?_)
      ·
       try simp only [decide_eq_true_eq, decide_eq_false_iff_not, Bool.not_eq_true', Bool.not_eq_false', beq_iff_eq, beq_eq_false_iff_ne, ne_eq] at h7
       refine at_skip rfl ?_
       refine then_n ?_
       refine at_seq rfl ?_
       refine at_block rfl ?_
       refine at_seq rfl ?_
       refine rg rfl ?_
       refine Rq ?_
       refine Rq ?_
       refine Rq ?_
       have tr : ∀ a b c d e f g h i j k m n o p q r s t u v w x y z : AV, let l := lc_rshape_ok a b c d e f g h i j k m n o p q r s t u v w; trim ((6,z)::(55,y)::(54,x)::l) l = [(0,a),(1,b),(2,c),(4,d),(6,z),(8,f),(20,g),(32,h),(34,i),(35,j),(36,k),(37,m),(47,n),(50,o),(51,p),(52,q),(53,r),(56,s),(57,t),(58,u),(59,v),(67,w)] := by intros; rfl
       refine R_nil (tr ..) ?_; clear tr
       refine then_n ?_
       refine at_seq rfl ?_
       refine rg rfl ?_
       have hlv := hq3 v (by omega)
       refine Rq ?_
       refine Rq ?_
       refine Rq ?_
       have tr : ∀ a b c d e f g h i j k m n o p q r s t u v w x y z : AV, let l := lc_rshape_ok a b c d e f g h i j k m n o p q r s t u v w; trim ((58,z)::(57,y)::(56,x)::l) l = [(0,a),(1,b),(2,c),(4,d),(6,e),(8,f),(20,g),(32,h),(34,i),(35,j),(36,k),(37,m),(47,n),(50,o),(51,p),(52,q),(53,r),(56,x),(57,y),(58,z),(59,v),(67,w)] := by intros; rfl
       refine R_nil (tr ..) ?_; clear tr
       refine then_n ?_
       refine at_block rfl ?_
       refine loop_n rfl (fun mm kv H' => ∃ w : Nat, ∃ x2 x8 x59 x67 : AV, (kv = [(2, x2), (8, x8), (58, AV.i w), (59, x59), (67, x67)]) ∧ (mm = (gt rows v).length - w) ∧ (H' = H ++ [some [rowsAV rows]]) ∧ (w ≤ (gt rows v).length) ∧ (∀ j, j < w → okN (gt (gt rows v) j))) ⟨0, _, _, _, _, rfl, rfl, rfl, by omega, by intro j hj; omega⟩ (by rfl) ?_
       rintro mm kv H' ⟨w, x2, x8, x59, x67, rfl, rfl, rfl, hw, hs⟩
       have tr : ∀ a b c d e f g h i j k m n o p q r s t u v w x y z A B : AV, upd [(0,a),(1,b),(2,c),(4,d),(6,e),(8,f),(20,g),(32,h),(34,i),(35,j),(36,k),(37,m),(47,n),(50,o),(51,p),(52,q),(53,r),(56,s),(57,t),(58,u),(59,v),(67,w)] [(2,x),(8,y),(58,z),(59,A),(67,B)] = [(0,a),(1,b),(2,x),(4,d),(6,e),(8,y),(20,g),(32,h),(34,i),(35,j),(36,k),(37,m),(47,n),(50,o),(51,p),(52,q),(53,r),(56,s),(57,t),(58,z),(59,A),(67,B)] := by intros; rfl
       refine W_to (tr ..) ?_; clear tr
       have hlv := hq3 v (by omega)
       refine at_seq rfl ?_
       refine rg rfl ?_
       refine Rq ?_
       have tr : ∀ a b c d e f g h i j k m n o p q r s t u v w x : AV, let l := lc_rshape_ok a b c d e f g h i j k m n o p q r s t u v w; trim ((59,x)::l) l = [(0,a),(1,b),(2,c),(4,d),(6,e),(8,f),(20,g),(32,h),(34,i),(35,j),(36,k),(37,m),(47,n),(50,o),(51,p),(52,q),(53,r),(56,s),(57,t),(58,u),(59,x),(67,w)] := by intros; rfl
       refine R_nil (tr ..) ?_; clear tr
       refine then_n ?_
       refine at_seq rfl ?_
       refine cdd (fun h8 => ?_) (fun h8 => ?_)
       ·
        try simp only [decide_eq_true_eq, decide_eq_false_iff_not, Bool.not_eq_true', Bool.not_eq_false', beq_iff_eq, beq_eq_false_iff_ne, ne_eq] at h8
        refine at_skip rfl ?_
        refine then_n ?_
        refine at_seq rfl ?_
        refine at_block rfl ?_
        refine at_seq rfl ?_
        refine rg rfl ?_
        refine Rq ?_
        refine Rq ?_
        refine Rq ?_
        have tr : ∀ a b c d e f g h i j k m n o p q r s t u v w x y z : AV, let l := lc_rshape_ok a b c d e f g h i j k m n o p q r s t u v w; trim ((8,z)::(61,y)::(60,x)::l) l = [(0,a),(1,b),(2,c),(4,d),(6,e),(8,z),(20,g),(32,h),(34,i),(35,j),(36,k),(37,m),(47,n),(50,o),(51,p),(52,q),(53,r),(56,s),(57,t),(58,u),(59,v),(67,w)] := by intros; rfl
        refine R_nil (tr ..) ?_; clear tr
        refine then_n ?_
        refine at_seq rfl ?_
        refine rg rfl ?_
        refine Rq ?_
        refine Rq ?_
        refine Rq ?_
        refine Rp_split (fun h9 => ?_) (fun h9 => ?_)
        ·
         try simp only [decide_eq_true_eq, decide_eq_false_iff_not, Bool.not_eq_true', Bool.not_eq_false', beq_iff_eq, beq_eq_false_iff_ne, ne_eq] at h9
         refine Rn ?_
         refine Rn ?_
         refine Rq ?_
         have tr : ∀ a b c d e f g h i j k m n o p q r s t u v w x y z A B C : AV, let l := lc_rshape_ok a b c d e f g h i j k m n o p q r s t u v w; trim ((67,C)::(66,B)::(65,A)::(64,z)::(63,y)::(62,x)::l) l = [(0,a),(1,b),(2,c),(4,d),(6,e),(8,f),(20,g),(32,h),(34,i),(35,j),(36,k),(37,m),(47,n),(50,o),(51,p),(52,q),(53,r),(56,s),(57,t),(58,u),(59,v),(67,C)] := by intros; rfl
         refine R_nil (tr ..) ?_; clear tr
         refine then_n ?_
         refine cdt ?_
         refine at_seq rfl ?_
         refine rg rfl ?_
         refine Rq ?_
         have tr : ∀ a b c d e f g h i j k m n o p q r s t u v w x : AV, let l := lc_rshape_ok a b c d e f g h i j k m n o p q r s t u v w; trim ((2,x)::l) l = [(0,a),(1,b),(2,x),(4,d),(6,e),(8,f),(20,g),(32,h),(34,i),(35,j),(36,k),(37,m),(47,n),(50,o),(51,p),(52,q),(53,r),(56,s),(57,t),(58,u),(59,v),(67,w)] := by intros; rfl
         refine R_nil (tr ..) ?_; clear tr
         refine then_n ?_
         refine at_ret rfl ?_
         refine blk_r ?_
         refine then_r ?_
         refine then_r ?_
         refine blk_r ?_
         refine blk_r ?_
         refine then_r ?_
         refine then_r ?_
         refine blk_r ?_
         refine then_r ?_
         refine fpure ?_
         refine ⟨?_, rfl⟩
         rw [shapeS, if_neg (by omega), if_neg (by omega), if_neg (fun hh => hh hq3), if_pos (fun hh => absurd (hh v (by omega) w (by omega)) (fun ho => absurd ho.1 (by omega)))]
        ·
         try simp only [decide_eq_true_eq, decide_eq_false_iff_not, Bool.not_eq_true', Bool.not_eq_false', beq_iff_eq, beq_eq_false_iff_ne, ne_eq] at h9
         refine Ry ?_
         refine Rq ?_
         refine Ry ?_
         refine Rq ?_
         refine Rq ?_
         have tr : ∀ a b c d e f g h i j k m n o p q r s t u v w x y z A B C : AV, let l := lc_rshape_ok a b c d e f g h i j k m n o p q r s t u v w; trim ((67,C)::(66,B)::(65,A)::(64,z)::(63,y)::(62,x)::l) l = [(0,a),(1,b),(2,c),(4,d),(6,e),(8,f),(20,g),(32,h),(34,i),(35,j),(36,k),(37,m),(47,n),(50,o),(51,p),(52,q),(53,r),(56,s),(57,t),(58,u),(59,v),(67,C)] := by intros; rfl
         refine R_nil (tr ..) ?_; clear tr
         refine then_n ?_
         refine cdd (fun h10 => ?_) (fun h10 => ?_)
         ·
          try simp only [decide_eq_true_eq, decide_eq_false_iff_not, Bool.not_eq_true', Bool.not_eq_false', beq_iff_eq, beq_eq_false_iff_ne, ne_eq] at h10
          refine at_seq rfl ?_
          refine rg rfl ?_
          refine Rq ?_
          have tr : ∀ a b c d e f g h i j k m n o p q r s t u v w x : AV, let l := lc_rshape_ok a b c d e f g h i j k m n o p q r s t u v w; trim ((2,x)::l) l = [(0,a),(1,b),(2,x),(4,d),(6,e),(8,f),(20,g),(32,h),(34,i),(35,j),(36,k),(37,m),(47,n),(50,o),(51,p),(52,q),(53,r),(56,s),(57,t),(58,u),(59,v),(67,w)] := by intros; rfl
          refine R_nil (tr ..) ?_; clear tr
          refine then_n ?_
          refine at_ret rfl ?_
          refine blk_r ?_
          refine then_r ?_
          refine then_r ?_
          refine blk_r ?_
          refine blk_r ?_
          refine then_r ?_
          refine then_r ?_
          refine blk_r ?_
          refine then_r ?_
          refine fpure ?_
          refine ⟨?_, rfl⟩
          rw [shapeS, if_neg (by omega), if_neg (by omega), if_neg (fun hh => hh hq3), if_pos (fun hh => absurd (hh v (by omega) w (by omega)) (fun ho => absurd ho.2 (by omega)))]
         ·
          try simp only [decide_eq_true_eq, decide_eq_false_iff_not, Bool.not_eq_true', Bool.not_eq_false', beq_iff_eq, beq_eq_false_iff_ne, ne_eq] at h10
          refine at_skip rfl ?_
          refine blk_n ?_
          refine then_n ?_
          refine rg rfl ?_
          refine Rq ?_
          refine Rq ?_
          have tr : ∀ a b c d e f g h i j k m n o p q r s t u v w x y : AV, let l := lc_rshape_ok a b c d e f g h i j k m n o p q r s t u v w; trim ((58,y)::(68,x)::l) l = [(0,a),(1,b),(2,c),(4,d),(6,e),(8,f),(20,g),(32,h),(34,i),(35,j),(36,k),(37,m),(47,n),(50,o),(51,p),(52,q),(53,r),(56,s),(57,t),(58,y),(59,v),(67,w)] := by intros; rfl
          refine R_nil (tr ..) ?_; clear tr
          refine then_n ?_
          exact ⟨_, _, ⟨w + 1, _, _, _, _, rfl, rfl, rfl, by omega, by exact all_step hs ⟨by omega, by omega⟩⟩, by rfl, by omega⟩
       ·
        try simp only [decide_eq_true_eq, decide_eq_false_iff_not, Bool.not_eq_true', Bool.not_eq_false', beq_iff_eq, beq_eq_false_iff_ne, ne_eq] at h8
        refine at_exit rfl ?_
        refine then_x ?_
        refine then_x ?_
        refine blk_x ?_
        refine blk_n ?_
        refine then_n ?_
        refine rg rfl ?_
        refine Rq ?_
        refine Rq ?_
        have tr : ∀ a b c d e f g h i j k m n o p q r s t u v w x y : AV, let l := lc_rshape_ok a b c d e f g h i j k m n o p q r s t u v w; trim ((52,y)::(69,x)::l) l = [(0,a),(1,b),(2,c),(4,d),(6,e),(8,f),(20,g),(32,h),(34,i),(35,j),(36,k),(37,m),(47,n),(50,o),(51,p),(52,y),(53,r),(56,s),(57,t),(58,u),(59,v),(67,w)] := by intros; rfl
        refine R_nil (tr ..) ?_; clear tr
        refine then_n ?_
        exact ⟨_, _, ⟨v + 1, _, _, _, _, _, _, _, _, _, rfl, rfl, rfl, by omega, by exact all_step hr fun w hw => hs w (by omega)⟩, by rfl, by omega⟩
      ·
       try simp only [decide_eq_true_eq, decide_eq_false_iff_not, Bool.not_eq_true', Bool.not_eq_false', beq_iff_eq, beq_eq_false_iff_ne, ne_eq] at h7
       refine at_exit rfl ?_
       refine then_x ?_
       refine then_x ?_
       refine blk_x ?_
       refine then_n ?_
       refine at_seq rfl ?_
       refine rg rfl ?_
       refine Rq ?_
       have tr : ∀ a b c d e f g h i j k m n o p q r s t u v w x : AV, let l := lc_rshape_ok a b c d e f g h i j k m n o p q r s t u v w; trim ((2,x)::l) l = [(0,a),(1,b),(2,x),(4,d),(6,e),(8,f),(20,g),(32,h),(34,i),(35,j),(36,k),(37,m),(47,n),(50,o),(51,p),(52,q),(53,r),(56,s),(57,t),(58,u),(59,v),(67,w)] := by intros; rfl
       refine R_nil (tr ..) ?_; clear tr
       refine then_n ?_
       refine at_ret rfl ?_
       refine fpure ?_
       refine ⟨?_, rfl⟩
       rw [shapeS, if_neg (by omega), if_neg (by omega), if_neg (fun hh => hh hq3), if_neg (fun hh => hh fun i hi => hr i (by omega))]

end Go.Proofs.Ytaoondlakhocnaa
