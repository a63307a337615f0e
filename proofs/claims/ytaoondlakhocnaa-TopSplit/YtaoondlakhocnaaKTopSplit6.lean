/-
  Texts of TopSplit, part 7 of 15. Walks of chapters 37, 39 and 40. The steps are written by program (walk.py).
-/
import Derived.Test.YtaoondlakhocnaaKTopSplit5
section
set_option linter.unusedSimpArgs false
set_option linter.unusedVariables false
set_option maxHeartbeats 40000000
set_option maxRecDepth 4000
namespace Go.Proofs.Ytaoondlakhocnaa
open Go Go.Am

abbrev lc_shape_ok (a b c d e f g h i j k m n o p q r s t u v w : AV) : Env := [(0,a),(1,b),(2,c),(4,d),(6,e),(8,f),(9,g),(22,h),(36,i),(37,j),(38,k),(39,m),(49,n),(52,o),(53,p),(54,q),(55,r),(58,s),(59,t),(60,u),(61,v),(69,w)]
theorem shape_ok (lim : Nat) (H : Heap) (rows : List (List Int)) :
    ACall sig lim 65 [.agg [rowsAV rows]] H fun r H' => r = AV.i (shapeS rows) ∧ H' = H := by
 refine ACall_pure (fa := fa65) rfl rfl rfl rfl ?_
 have tr : ∀ a0 : AV, env0 fa65.keep [a0] = [(0,a0),(1,.any),(2,.any),(4,.any),(6,.any),(8,.any),(9,.any),(22,.any),(36,.any),(37,.any),(38,.any),(39,.any),(49,.any),(52,.any),(53,.any),(54,.any),(55,.any),(58,.any),(59,.any),(60,.any),(61,.any),(69,.any)] := fun a0 => rfl
 refine W_to (tr _) ?_; clear tr
 refine at_seq rfl ?_
 refine rg rfl ?_
 refine R_box rfl (by simp (disch := first | omega | (simp only [List.length_map, List.length_append, List.length_set, List.length_cons, List.length_nil]; omega)) only [go_sem, ↓reduceIte, Nat.reduceEqDiff, reduceCtorEq] <;> rfl) rfl rfl ?_
 refine Rq ?_
 have tr : ∀ a b c d e f g h i j k m n o p q r s t u v w x y : AV, let l := lc_shape_ok a b c d e f g h i j k m n o p q r s t u v w; trim ((2,y)::(1,x)::l) l = [(0,a),(1,x),(2,y),(4,d),(6,e),(8,f),(9,g),(22,h),(36,i),(37,j),(38,k),(39,m),(49,n),(52,o),(53,p),(54,q),(55,r),(58,s),(59,t),(60,u),(61,v),(69,w)] := by intros; rfl
 refine R_nil (tr ..) ?_; clear tr
 refine then_n ?_
 refine at_seq rfl ?_
 refine at_block rfl ?_
 refine at_seq rfl ?_
 refine rg rfl ?_
 refine Rq ?_
 refine Rq ?_
 refine Rq ?_
 refine Rq ?_
 refine Rq ?_
 refine Rp_split (fun h1 => ?_) (fun h1 => ?_)
 ·
  try simp only [decide_eq_true_eq, decide_eq_false_iff_not, Bool.not_eq_true', Bool.not_eq_false', beq_iff_eq, beq_eq_false_iff_ne, ne_eq] at h1
  refine Rn ?_
  refine Rn ?_
  refine Rn ?_
  refine Rn ?_
  refine Rn ?_
  refine Rn ?_
  refine Rq ?_
  refine Rq ?_
  have tr : ∀ a b c d e f g h i j k m n o p q r s t u v w x y z A B C D E F G H I J : AV, let l := lc_shape_ok a b c d e f g h i j k m n o p q r s t u v w; trim ((9,J)::(21,I)::(20,H)::(19,G)::(18,F)::(17,E)::(16,D)::(15,C)::(14,B)::(13,A)::(12,z)::(11,y)::(10,x)::l) l = [(0,a),(1,b),(2,c),(4,d),(6,e),(8,f),(9,J),(22,h),(36,i),(37,j),(38,k),(39,m),(49,n),(52,o),(53,p),(54,q),(55,r),(58,s),(59,t),(60,u),(61,v),(69,w)] := by intros; rfl
  refine R_nil (tr ..) ?_; clear tr
  refine then_n ?_
  refine cdt ?_
  refine at_seq rfl ?_
  refine rg rfl ?_
  refine Rq ?_
  have tr : ∀ a b c d e f g h i j k m n o p q r s t u v w x : AV, let l := lc_shape_ok a b c d e f g h i j k m n o p q r s t u v w; trim ((2,x)::l) l = [(0,a),(1,b),(2,x),(4,d),(6,e),(8,f),(9,g),(22,h),(36,i),(37,j),(38,k),(39,m),(49,n),(52,o),(53,p),(54,q),(55,r),(58,s),(59,t),(60,u),(61,v),(69,w)] := by intros; rfl
  refine R_nil (tr ..) ?_; clear tr
  refine then_n ?_
  refine at_ret rfl ?_
  refine blk_r ?_
  refine then_r ?_
  refine fpure ?_
  refine ⟨?_, rfl⟩
  rw [shapeS, if_pos (by omega)]
 ·
  try simp only [decide_eq_true_eq, decide_eq_false_iff_not, Bool.not_eq_true', Bool.not_eq_false', beq_iff_eq, beq_eq_false_iff_ne, ne_eq] at h1
  refine Ry ?_
  refine Rq ?_
  refine Ry ?_
  refine Rq ?_
  refine Ry ?_
  refine Rq ?_
  refine Ry ?_
  refine Rq ?_
  refine Ry ?_
  refine Rq ?_
  refine Ry ?_
  refine Rq ?_
  refine Rq ?_
  refine Rq ?_
  have tr : ∀ a b c d e f g h i j k m n o p q r s t u v w x y z A B C D E F G H I J : AV, let l := lc_shape_ok a b c d e f g h i j k m n o p q r s t u v w; trim ((9,J)::(21,I)::(20,H)::(19,G)::(18,F)::(17,E)::(16,D)::(15,C)::(14,B)::(13,A)::(12,z)::(11,y)::(10,x)::l) l = [(0,a),(1,b),(2,c),(4,d),(6,e),(8,f),(9,J),(22,h),(36,i),(37,j),(38,k),(39,m),(49,n),(52,o),(53,p),(54,q),(55,r),(58,s),(59,t),(60,u),(61,v),(69,w)] := by intros; rfl
  refine R_nil (tr ..) ?_; clear tr
  refine then_n ?_
  refine cdd (fun h2 => ?_) (fun h2 => ?_)
  ·
   try simp only [decide_eq_true_eq, decide_eq_false_iff_not, Bool.not_eq_true', Bool.not_eq_false', beq_iff_eq, beq_eq_false_iff_ne, ne_eq] at h2
   refine at_seq rfl ?_
   refine rg rfl ?_
   refine Rq ?_
   have tr : ∀ a b c d e f g h i j k m n o p q r s t u v w x : AV, let l := lc_shape_ok a b c d e f g h i j k m n o p q r s t u v w; trim ((2,x)::l) l = [(0,a),(1,b),(2,x),(4,d),(6,e),(8,f),(9,g),(22,h),(36,i),(37,j),(38,k),(39,m),(49,n),(52,o),(53,p),(54,q),(55,r),(58,s),(59,t),(60,u),(61,v),(69,w)] := by intros; rfl
   refine R_nil (tr ..) ?_; clear tr
   refine then_n ?_
   refine at_ret rfl ?_
   refine blk_r ?_
   refine then_r ?_
   refine fpure ?_
   refine ⟨?_, rfl⟩
   rw [shapeS, if_pos (by omega)]
  ·
   try simp only [decide_eq_true_eq, decide_eq_false_iff_not, Bool.not_eq_true', Bool.not_eq_false', beq_iff_eq, beq_eq_false_iff_ne, ne_eq] at h2
   refine at_seq rfl ?_
   refine rg rfl ?_
   refine Rq ?_
   refine Rq ?_
   refine Rq ?_
   refine Rq ?_
   refine Rq ?_
   refine Rp_split (fun h3 => ?_) (fun h3 => ?_)
   ·
    try simp only [decide_eq_true_eq, decide_eq_false_iff_not, Bool.not_eq_true', Bool.not_eq_false', beq_iff_eq, beq_eq_false_iff_ne, ne_eq] at h3
    refine Rn ?_
    refine Rn ?_
    refine Rn ?_
    refine Rn ?_
    refine Rn ?_
    refine Rn ?_
    refine Rq ?_
    refine Rq ?_
    have tr : ∀ a b c d e f g h i j k m n o p q r s t u v w x y z A B C D E F G H I J : AV, let l := lc_shape_ok a b c d e f g h i j k m n o p q r s t u v w; trim ((22,J)::(34,I)::(33,H)::(32,G)::(31,F)::(30,E)::(29,D)::(28,C)::(27,B)::(26,A)::(25,z)::(24,y)::(23,x)::l) l = [(0,a),(1,b),(2,c),(4,d),(6,e),(8,f),(9,g),(22,J),(36,i),(37,j),(38,k),(39,m),(49,n),(52,o),(53,p),(54,q),(55,r),(58,s),(59,t),(60,u),(61,v),(69,w)] := by intros; rfl
    refine R_nil (tr ..) ?_; clear tr
    refine then_n ?_
    refine cdt ?_
    refine at_seq rfl ?_
    refine rg rfl ?_
    refine Rq ?_
    have tr : ∀ a b c d e f g h i j k m n o p q r s t u v w x : AV, let l := lc_shape_ok a b c d e f g h i j k m n o p q r s t u v w; trim ((2,x)::l) l = [(0,a),(1,b),(2,x),(4,d),(6,e),(8,f),(9,g),(22,h),(36,i),(37,j),(38,k),(39,m),(49,n),(52,o),(53,p),(54,q),(55,r),(58,s),(59,t),(60,u),(61,v),(69,w)] := by intros; rfl
    refine R_nil (tr ..) ?_; clear tr
    refine then_n ?_
    refine at_ret rfl ?_
    refine blk_r ?_
    refine then_r ?_
    refine fpure ?_
    refine ⟨?_, rfl⟩
    rw [shapeS, if_neg (by omega), if_pos (by omega)]
   ·
    try simp only [decide_eq_true_eq, decide_eq_false_iff_not, Bool.not_eq_true', Bool.not_eq_false', beq_iff_eq, beq_eq_false_iff_ne, ne_eq] at h3
    refine Ry ?_
    refine Rq ?_
    refine Ry ?_
    refine Rq ?_
    refine Ry ?_
    refine Rq ?_
    refine Ry ?_
    refine Rq ?_
    refine Ry ?_
    refine Rq ?_
    refine Ry ?_
    refine Rq ?_
    refine Rq ?_
    refine Rq ?_
    have tr : ∀ a b c d e f g h i j k m n o p q r s t u v w x y z A B C D E F G H I J : AV, let l := lc_shape_ok a b c d e f g h i j k m n o p q r s t u v w; trim ((22,J)::(34,I)::(33,H)::(32,G)::(31,F)::(30,E)::(29,D)::(28,C)::(27,B)::(26,A)::(25,z)::(24,y)::(23,x)::l) l = [(0,a),(1,b),(2,c),(4,d),(6,e),(8,f),(9,g),(22,J),(36,i),(37,j),(38,k),(39,m),(49,n),(52,o),(53,p),(54,q),(55,r),(58,s),(59,t),(60,u),(61,v),(69,w)] := by intros; rfl
    refine R_nil (tr ..) ?_; clear tr
    refine then_n ?_
    refine cdd (fun h4 => ?_) (fun h4 => ?_)
    ·
     try simp only [decide_eq_true_eq, decide_eq_false_iff_not, Bool.not_eq_true', Bool.not_eq_false', beq_iff_eq, beq_eq_false_iff_ne, ne_eq] at h4
     refine at_seq rfl ?_
     refine rg rfl ?_
     refine Rq ?_
     have tr : ∀ a b c d e f g h i j k m n o p q r s t u v w x : AV, let l := lc_shape_ok a b c d e f g h i j k m n o p q r s t u v w; trim ((2,x)::l) l = [(0,a),(1,b),(2,x),(4,d),(6,e),(8,f),(9,g),(22,h),(36,i),(37,j),(38,k),(39,m),(49,n),(52,o),(53,p),(54,q),(55,r),(58,s),(59,t),(60,u),(61,v),(69,w)] := by intros; rfl
     refine R_nil (tr ..) ?_; clear tr
     refine then_n ?_
     refine at_ret rfl ?_
     refine blk_r ?_
     refine then_r ?_
     refine fpure ?_
     refine ⟨?_, rfl⟩
     rw [shapeS, if_neg (by omega), if_pos (by omega)]
    ·
     try simp only [decide_eq_true_eq, decide_eq_false_iff_not, Bool.not_eq_true', Bool.not_eq_false', beq_iff_eq, beq_eq_false_iff_ne, ne_eq] at h4
     refine at_skip rfl ?_
     refine blk_n ?_
     refine then_n ?_
     refine at_seq rfl ?_
     refine at_seq rfl ?_
     refine rg rfl ?_
     refine Rq ?_
     refine Rq ?_
     refine Rq ?_
     refine Rq ?_
     have tr : ∀ a b c d e f g h i j k m n o p q r s t u v w x y z A : AV, let l := lc_shape_ok a b c d e f g h i j k m n o p q r s t u v w; trim ((38,A)::(37,z)::(36,y)::(35,x)::l) l = [(0,a),(1,b),(2,c),(4,d),(6,e),(8,f),(9,g),(22,h),(36,y),(37,z),(38,A),(39,m),(49,n),(52,o),(53,p),(54,q),(55,r),(58,s),(59,t),(60,u),(61,v),(69,w)] := by intros; rfl
     refine R_nil (tr ..) ?_; clear tr
     refine then_n ?_
     refine at_block rfl ?_
     refine loop_n rfl (fun mm kv H' => ∃ u : Nat, ∃ x2 x4 x39 x49 : AV, (kv = [(2, x2), (4, x4), (38, AV.i u), (39, x39), (49, x49)]) ∧ (mm = rows.length - u) ∧ (H' = H ++ [some [rowsAV rows]]) ∧ (u ≤ rows.length) ∧ (∀ i, i < u → (gt rows i).length = (gt rows 0).length)) ⟨0, _, _, _, _, rfl, rfl, rfl, by omega, by intro i hi; omega⟩ (by rfl) ?_
     rintro mm kv H' ⟨u, x2, x4, x39, x49, rfl, rfl, rfl, hu, hq⟩
     have tr : ∀ a b c d e f g h i j k m n o p q r s t u v w x y z A B : AV, upd [(0,a),(1,b),(2,c),(4,d),(6,e),(8,f),(9,g),(22,h),(36,i),(37,j),(38,k),(39,m),(49,n),(52,o),(53,p),(54,q),(55,r),(58,s),(59,t),(60,u),(61,v),(69,w)] [(2,x),(4,y),(38,z),(39,A),(49,B)] = [(0,a),(1,b),(2,x),(4,y),(6,e),(8,f),(9,g),(22,h),(36,i),(37,j),(38,z),(39,A),(49,B),(52,o),(53,p),(54,q),(55,r),(58,s),(59,t),(60,u),(61,v),(69,w)] := by intros; rfl
     refine W_to (tr ..) ?_; clear tr
     refine at_seq rfl ?_
     refine rg rfl ?_
     refine Rq ?_
     have tr : ∀ a b c d e f g h i j k m n o p q r s t u v w x : AV, let l := lc_shape_ok a b c d e f g h i j k m n o p q r s t u v w; trim ((39,x)::l) l = [(0,a),(1,b),(2,c),(4,d),(6,e),(8,f),(9,g),(22,h),(36,i),(37,j),(38,k),(39,x),(49,n),(52,o),(53,p),(54,q),(55,r),(58,s),(59,t),(60,u),(61,v),(69,w)] := by intros; rfl
     refine R_nil (tr ..) ?_; clear tr
     refine then_n ?_
     refine at_seq rfl ?_
     refine cdd (fun h5 => ?_) (fun h5 => ?_)
     ·
      try simp only [decide_eq_true_eq, decide_eq_false_iff_not, Bool.not_eq_true', Bool.not_eq_false', beq_iff_eq, beq_eq_false_iff_ne, ne_eq] at h5
      refine at_skip rfl ?_
      refine then_n ?_
      refine at_seq rfl ?_
      refine at_block rfl ?_
      refine at_seq rfl ?_
      refine rg rfl ?_
      refine Rq ?_
      refine Rq ?_
      refine Rq ?_
      have tr : ∀ a b c d e f g h i j k m n o p q r s t u v w x y z : AV, let l := lc_shape_ok a b c d e f g h i j k m n o p q r s t u v w; trim ((4,z)::(41,y)::(40,x)::l) l = [(0,a),(1,b),(2,c),(4,z),(6,e),(8,f),(9,g),(22,h),(36,i),(37,j),(38,k),(39,m),(49,n),(52,o),(53,p),(54,q),(55,r),(58,s),(59,t),(60,u),(61,v),(69,w)] := by intros; rfl
      refine R_nil (tr ..) ?_; clear tr
      refine then_n ?_
      refine at_seq rfl ?_
      refine rg rfl ?_
      refine Rq ?_
      refine Rq ?_
      refine Rq ?_
      refine Rq ?_
      refine Rq ?_
      refine Rq ?_
      refine Rq ?_
      refine Rq ?_
      have tr : ∀ a b c d e f g h i j k m n o p q r s t u v w x y z A B C D E : AV, let l := lc_shape_ok a b c d e f g h i j k m n o p q r s t u v w; trim ((49,E)::(48,D)::(47,C)::(46,B)::(45,A)::(44,z)::(43,y)::(42,x)::l) l = [(0,a),(1,b),(2,c),(4,d),(6,e),(8,f),(9,g),(22,h),(36,i),(37,j),(38,k),(39,m),(49,E),(52,o),(53,p),(54,q),(55,r),(58,s),(59,t),(60,u),(61,v),(69,w)] := by intros; rfl
      refine R_nil (tr ..) ?_; clear tr
      refine then_n ?_
      refine cdd (fun h6 => ?_) (fun h6 => ?_)
      ·
       try simp only [decide_eq_true_eq, decide_eq_false_iff_not, Bool.not_eq_true', Bool.not_eq_false', beq_iff_eq, beq_eq_false_iff_ne, ne_eq] at h6
       refine at_seq rfl ?_
       refine rg rfl ?_
       refine Rq ?_
       have tr : ∀ a b c d e f g h i j k m n o p q r s t u v w x : AV, let l := lc_shape_ok a b c d e f g h i j k m n o p q r s t u v w; trim ((2,x)::l) l = [(0,a),(1,b),(2,x),(4,d),(6,e),(8,f),(9,g),(22,h),(36,i),(37,j),(38,k),(39,m),(49,n),(52,o),(53,p),(54,q),(55,r),(58,s),(59,t),(60,u),(61,v),(69,w)] := by intros; rfl
       refine R_nil (tr ..) ?_; clear tr
       refine then_n ?_
       refine at_ret rfl ?_
       refine blk_r ?_
       refine then_r ?_
       refine then_r ?_
       refine blk_r ?_
       refine then_r ?_
       refine fpure ?_
       refine ⟨?_, rfl⟩
       rw [shapeS, if_neg (by omega), if_neg (by omega), if_pos (fun hh => absurd (hh u (by omega)) (by omega))]
      ·
       try simp only [decide_eq_true_eq, decide_eq_false_iff_not, Bool.not_eq_true', Bool.not_eq_false', beq_iff_eq, beq_eq_false_iff_ne, ne_eq] at h6
       refine at_skip rfl ?_
       refine blk_n ?_
       refine then_n ?_
       refine rg rfl ?_
       refine Rq ?_
       refine Rq ?_
       have tr : ∀ a b c d e f g h i j k m n o p q r s t u v w x y : AV, let l := lc_shape_ok a b c d e f g h i j k m n o p q r s t u v w; trim ((38,y)::(50,x)::l) l = [(0,a),(1,b),(2,c),(4,d),(6,e),(8,f),(9,g),(22,h),(36,i),(37,j),(38,y),(39,m),(49,n),(52,o),(53,p),(54,q),(55,r),(58,s),(59,t),(60,u),(61,v),(69,w)] := by intros; rfl
       refine R_nil (tr ..) ?_; clear tr
       refine then_n ?_
       exact ⟨_, _, ⟨u + 1, _, _, _, _, rfl, rfl, rfl, by omega, by exact all_step hq (by omega)⟩, by rfl, by omega⟩
     ·
      try simp only [decide_eq_true_eq, decide_eq_false_iff_not, Bool.not_eq_true', Bool.not_eq_false', beq_iff_eq, beq_eq_false_iff_ne, ne_eq] at h5
      refine at_exit rfl ?_
      refine then_x ?_
      refine then_x ?_
      refine blk_x ?_
      refine then_n ?_
      refine at_seq rfl ?_
      refine at_seq rfl ?_
      refine rg rfl ?_
      have hq3 : SameLen rows := fun i hi => hq i (by omega)
      refine Rq ?_
      refine Rq ?_
      refine Rq ?_
      refine Rq ?_
      have tr : ∀ a b c d e f g h i j k m n o p q r s t u v w x y z A : AV, let l := lc_shape_ok a b c d e f g h i j k m n o p q r s t u v w; trim ((54,A)::(53,z)::(52,y)::(51,x)::l) l = [(0,a),(1,b),(2,c),(4,d),(6,e),(8,f),(9,g),(22,h),(36,i),(37,j),(38,k),(39,m),(49,n),(52,y),(53,z),(54,A),(55,r),(58,s),(59,t),(60,u),(61,v),(69,w)] := by intros; rfl
      refine R_nil (tr ..) ?_; clear tr
      refine then_n ?_
      refine at_block rfl ?_
      refine loop_n rfl (fun mm kv H' => ∃ v : Nat, ∃ x2 x6 x8 x55 x58 x59 x60 x61 x69 : AV, (kv = [(2, x2), (6, x6), (8, x8), (54, AV.i v), (55, x55), (58, x58), (59, x59), (60, x60), (61, x61), (69, x69)]) ∧ (mm = rows.length - v) ∧ (H' = H ++ [some [rowsAV rows]]) ∧ (v ≤ rows.length) ∧ (∀ i, i < v → ∀ w, w < (gt rows i).length → okN (gt (gt rows i) w))) ⟨0, _, _, _, _, _, _, _, _, _, rfl, rfl, rfl, by omega, by intro i hi; omega⟩ (by rfl) ?_
      rintro mm kv H' ⟨v, x2, x6, x8, x55, x58, x59, x60, x61, x69, rfl, rfl, rfl, hv, hr⟩
      have tr : ∀ a b c d e f g h i j k m n o p q r s t u v w x y z A B C D E F G : AV, upd [(0,a),(1,b),(2,c),(4,d),(6,e),(8,f),(9,g),(22,h),(36,i),(37,j),(38,k),(39,m),(49,n),(52,o),(53,p),(54,q),(55,r),(58,s),(59,t),(60,u),(61,v),(69,w)] [(2,x),(6,y),(8,z),(54,A),(55,B),(58,C),(59,D),(60,E),(61,F),(69,G)] = [(0,a),(1,b),(2,x),(4,d),(6,y),(8,z),(9,g),(22,h),(36,i),(37,j),(38,k),(39,m),(49,n),(52,o),(53,p),(54,A),(55,B),(58,C),(59,D),(60,E),(61,F),(69,G)] := by intros; rfl
      refine W_to (tr ..) ?_; clear tr
      refine at_seq rfl ?_
      refine rg rfl ?_
      refine Rq ?_
      have tr : ∀ a b c d e f g h i j k m n o p q r s t u v w x : AV, let l := lc_shape_ok a b c d e f g h i j k m n o p q r s t u v w; trim ((55,x)::l) l = [(0,a),(1,b),(2,c),(4,d),(6,e),(8,f),(9,g),(22,h),(36,i),(37,j),(38,k),(39,m),(49,n),(52,o),(53,p),(54,q),(55,x),(58,s),(59,t),(60,u),(61,v),(69,w)] := by intros; rfl
      refine R_nil (tr ..) ?_; clear tr
      refine then_n ?_
      refine at_seq rfl ?_
      refine cdd (fun h7 => ?_) (fun h7 => ?_)
      ·
       try simp only [decide_eq_true_eq, decide_eq_false_iff_not, Bool.not_eq_true', Bool.not_eq_false', beq_iff_eq, beq_eq_false_iff_ne, ne_eq] at h7
       refine at_skip rfl ?_
       refine then_n ?_
       refine at_seq rfl ?_
       refine at_block rfl ?_
       refine at_seq rfl ?_
       refine rg rfl ?_
       refine Rq ?_
       refine Rq ?_
       refine Rq ?_
       have tr : ∀ a b c d e f g h i j k m n o p q r s t u v w x y z : AV, let l := lc_shape_ok a b c d e f g h i j k m n o p q r s t u v w; trim ((6,z)::(57,y)::(56,x)::l) l = [(0,a),(1,b),(2,c),(4,d),(6,z),(8,f),(9,g),(22,h),(36,i),(37,j),(38,k),(39,m),(49,n),(52,o),(53,p),(54,q),(55,r),(58,s),(59,t),(60,u),(61,v),(69,w)] := by intros; rfl
       refine R_nil (tr ..) ?_; clear tr
       refine then_n ?_
       refine at_seq rfl ?_
       refine rg rfl ?_
       have hlv := hq3 v (by omega)
       refine Rq ?_
       refine Rq ?_
       refine Rq ?_
       have tr : ∀ a b c d e f g h i j k m n o p q r s t u v w x y z : AV, let l := lc_shape_ok a b c d e f g h i j k m n o p q r s t u v w; trim ((60,z)::(59,y)::(58,x)::l) l = [(0,a),(1,b),(2,c),(4,d),(6,e),(8,f),(9,g),(22,h),(36,i),(37,j),(38,k),(39,m),(49,n),(52,o),(53,p),(54,q),(55,r),(58,x),(59,y),(60,z),(61,v),(69,w)] := by intros; rfl
       refine R_nil (tr ..) ?_; clear tr
       refine then_n ?_
       refine at_block rfl ?_
       refine loop_n rfl (fun mm kv H' => ∃ w : Nat, ∃ x2 x8 x61 x69 : AV, (kv = [(2, x2), (8, x8), (60, AV.i w), (61, x61), (69, x69)]) ∧ (mm = (gt rows v).length - w) ∧ (H' = H ++ [some [rowsAV rows]]) ∧ (w ≤ (gt rows v).length) ∧ (∀ j, j < w → okN (gt (gt rows v) j))) ⟨0, _, _, _, _, rfl, rfl, rfl, by omega, by intro j hj; omega⟩ (by rfl) ?_
       rintro mm kv H' ⟨w, x2, x8, x61, x69, rfl, rfl, rfl, hw, hs⟩
       have tr : ∀ a b c d e f g h i j k m n o p q r s t u v w x y z A B : AV, upd [(0,a),(1,b),(2,c),(4,d),(6,e),(8,f),(9,g),(22,h),(36,i),(37,j),(38,k),(39,m),(49,n),(52,o),(53,p),(54,q),(55,r),(58,s),(59,t),(60,u),(61,v),(69,w)] [(2,x),(8,y),(60,z),(61,A),(69,B)] = [(0,a),(1,b),(2,x),(4,d),(6,e),(8,y),(9,g),(22,h),(36,i),(37,j),(38,k),(39,m),(49,n),(52,o),(53,p),(54,q),(55,r),(58,s),(59,t),(60,z),(61,A),(69,B)] := by intros; rfl
       refine W_to (tr ..) ?_; clear tr
       have hlv := hq3 v (by omega)
       refine at_seq rfl ?_
       refine rg rfl ?_
       refine Rq ?_
       have tr : ∀ a b c d e f g h i j k m n o p q r s t u v w x : AV, let l := lc_shape_ok a b c d e f g h i j k m n o p q r s t u v w; trim ((61,x)::l) l = [(0,a),(1,b),(2,c),(4,d),(6,e),(8,f),(9,g),(22,h),(36,i),(37,j),(38,k),(39,m),(49,n),(52,o),(53,p),(54,q),(55,r),(58,s),(59,t),(60,u),(61,x),(69,w)] := by intros; rfl
       refine R_nil (tr ..) ?_; clear tr
       refine then_n ?_
       refine at_seq rfl ?_
       refine cdd (fun h8 => ?_) (fun h8 => ?_)
       ·
        try simp only [decide_eq_true_eq, decide_eq_false_iff_not, Bool.not_eq_true', Bool.not_eq_false', beq_iff_eq, beq_eq_false_iff_ne, ne_eq] at h8
        refine at_skip rfl ?_
        refine then_n ?_
        refine at_seq rfl ?_
        refine at_block rfl ?_
        refine at_seq rfl ?_
        refine rg rfl ?_
        refine Rq ?_
        refine Rq ?_
        refine Rq ?_
        have tr : ∀ a b c d e f g h i j k m n o p q r s t u v w x y z : AV, let l := lc_shape_ok a b c d e f g h i j k m n o p q r s t u v w; trim ((8,z)::(63,y)::(62,x)::l) l = [(0,a),(1,b),(2,c),(4,d),(6,e),(8,z),(9,g),(22,h),(36,i),(37,j),(38,k),(39,m),(49,n),(52,o),(53,p),(54,q),(55,r),(58,s),(59,t),(60,u),(61,v),(69,w)] := by intros; rfl
        refine R_nil (tr ..) ?_; clear tr
        refine then_n ?_
        refine at_seq rfl ?_
        refine rg rfl ?_
        refine Rq ?_
        refine Rq ?_
        refine Rq ?_
        refine Rp_split (fun h9 => ?_) (fun h9 => ?_)
        ·
         try simp only [decide_eq_true_eq, decide_eq_false_iff_not, Bool.not_eq_true', Bool.not_eq_false', beq_iff_eq, beq_eq_false_iff_ne, ne_eq] at h9
         refine Rn ?_
         refine Rn ?_
         refine Rq ?_
         have tr : ∀ a b c d e f g h i j k m n o p q r s t u v w x y z A B C : AV, let l := lc_shape_ok a b c d e f g h i j k m n o p q r s t u v w; trim ((69,C)::(68,B)::(67,A)::(66,z)::(65,y)::(64,x)::l) l = [(0,a),(1,b),(2,c),(4,d),(6,e),(8,f),(9,g),(22,h),(36,i),(37,j),(38,k),(39,m),(49,n),(52,o),(53,p),(54,q),(55,r),(58,s),(59,t),(60,u),(61,v),(69,C)] := by intros; rfl
         refine R_nil (tr ..) ?_; clear tr
         refine then_n ?_
         refine cdt ?_
         refine at_seq rfl ?_
         refine rg rfl ?_
         refine Rq ?_
         have tr : ∀ a b c d e f g h i j k m n o p q r s t u v w x : AV, let l := lc_shape_ok a b c d e f g h i j k m n o p q r s t u v w; trim ((2,x)::l) l = [(0,a),(1,b),(2,x),(4,d),(6,e),(8,f),(9,g),(22,h),(36,i),(37,j),(38,k),(39,m),(49,n),(52,o),(53,p),(54,q),(55,r),(58,s),(59,t),(60,u),(61,v),(69,w)] := by intros; rfl
         refine R_nil (tr ..) ?_; clear tr
         refine then_n ?_
         refine at_ret rfl ?_
         refine blk_r ?_
         refine then_r ?_
         refine then_r ?_
         refine blk_r ?_
         refine blk_r ?_
         refine then_r ?_
         refine then_r ?_
         refine blk_r ?_
         refine then_r ?_
         refine fpure ?_
         refine ⟨?_, rfl⟩
         rw [shapeS, if_neg (by omega), if_neg (by omega), if_neg (fun hh => hh hq3), if_pos (fun hh => absurd (hh v (by omega) w (by omega)) (fun ho => absurd ho.1 (by omega)))]
        ·
         try simp only [decide_eq_true_eq, decide_eq_false_iff_not, Bool.not_eq_true', Bool.not_eq_false', beq_iff_eq, beq_eq_false_iff_ne, ne_eq] at h9
         refine Ry ?_
         refine Rq ?_
         refine Ry ?_
         refine Rq ?_
         refine Rq ?_
         have tr : ∀ a b c d e f g h i j k m n o p q r s t u v w x y z A B C : AV, let l := lc_shape_ok a b c d e f g h i j k m n o p q r s t u v w; trim ((69,C)::(68,B)::(67,A)::(66,z)::(65,y)::(64,x)::l) l = [(0,a),(1,b),(2,c),(4,d),(6,e),(8,f),(9,g),(22,h),(36,i),(37,j),(38,k),(39,m),(49,n),(52,o),(53,p),(54,q),(55,r),(58,s),(59,t),(60,u),(61,v),(69,C)] := by intros; rfl
         refine R_nil (tr ..) ?_; clear tr
         refine then_n ?_
         refine cdd (fun h10 => ?_) (fun h10 => ?_)
         ·
          try simp only [decide_eq_true_eq, decide_eq_false_iff_not, Bool.not_eq_true', Bool.not_eq_false', beq_iff_eq, beq_eq_false_iff_ne, ne_eq] at h10
          refine at_seq rfl ?_
          refine rg rfl ?_
          refine Rq ?_
          have tr : ∀ a b c d e f g h i j k m n o p q r s t u v w x : AV, let l := lc_shape_ok a b c d e f g h i j k m n o p q r s t u v w; trim ((2,x)::l) l = [(0,a),(1,b),(2,x),(4,d),(6,e),(8,f),(9,g),(22,h),(36,i),(37,j),(38,k),(39,m),(49,n),(52,o),(53,p),(54,q),(55,r),(58,s),(59,t),(60,u),(61,v),(69,w)] := by intros; rfl
          refine R_nil (tr ..) ?_; clear tr
          refine then_n ?_
          refine at_ret rfl ?_
          refine blk_r ?_
          refine then_r ?_
          refine then_r ?_
          refine blk_r ?_
          refine blk_r ?_
          refine then_r ?_
          refine then_r ?_
          refine blk_r ?_
          refine then_r ?_
          refine fpure ?_
          refine ⟨?_, rfl⟩
          rw [shapeS, if_neg (by omega), if_neg (by omega), if_neg (fun hh => hh hq3), if_pos (fun hh => absurd (hh v (by omega) w (by omega)) (fun ho => absurd ho.2 (by omega)))]
         ·
          try simp only [decide_eq_true_eq, decide_eq_false_iff_not, Bool.not_eq_true', Bool.not_eq_false', beq_iff_eq, beq_eq_false_iff_ne, ne_eq] at h10
          refine at_skip rfl ?_
          refine blk_n ?_
          refine then_n ?_
          refine rg rfl ?_
          refine Rq ?_
          refine Rq ?_
          have tr : ∀ a b c d e f g h i j k m n o p q r s t u v w x y : AV, let l := lc_shape_ok a b c d e f g h i j k m n o p q r s t u v w; trim ((60,y)::(70,x)::l) l = [(0,a),(1,b),(2,c),(4,d),(6,e),(8,f),(9,g),(22,h),(36,i),(37,j),(38,k),(39,m),(49,n),(52,o),(53,p),(54,q),(55,r),(58,s),(59,t),(60,y),(61,v),(69,w)] := by intros; rfl
          refine R_nil (tr ..) ?_; clear tr
          refine then_n ?_
          exact ⟨_, _, ⟨w + 1, _, _, _, _, rfl, rfl, rfl, by omega, by exact all_step hs ⟨by omega, by omega⟩⟩, by rfl, by omega⟩
       ·
        try simp only [decide_eq_true_eq, decide_eq_false_iff_not, Bool.not_eq_true', Bool.not_eq_false', beq_iff_eq, beq_eq_false_iff_ne, ne_eq] at h8
        refine at_exit rfl ?_
        refine then_x ?_
        refine then_x ?_
        refine blk_x ?_
        refine blk_n ?_
        refine then_n ?_
        refine rg rfl ?_
        refine Rq ?_
        refine Rq ?_
        have tr : ∀ a b c d e f g h i j k m n o p q r s t u v w x y : AV, let l := lc_shape_ok a b c d e f g h i j k m n o p q r s t u v w; trim ((54,y)::(71,x)::l) l = [(0,a),(1,b),(2,c),(4,d),(6,e),(8,f),(9,g),(22,h),(36,i),(37,j),(38,k),(39,m),(49,n),(52,o),(53,p),(54,y),(55,r),(58,s),(59,t),(60,u),(61,v),(69,w)] := by intros; rfl
        refine R_nil (tr ..) ?_; clear tr
        refine then_n ?_
        exact ⟨_, _, ⟨v + 1, _, _, _, _, _, _, _, _, _, rfl, rfl, rfl, by omega, by exact all_step hr fun w hw => hs w (by omega)⟩, by rfl, by omega⟩
      ·
       try simp only [decide_eq_true_eq, decide_eq_false_iff_not, Bool.not_eq_true', Bool.not_eq_false', beq_iff_eq, beq_eq_false_iff_ne, ne_eq] at h7
       refine at_exit rfl ?_
       refine then_x ?_
       refine then_x ?_
       refine blk_x ?_
       refine then_n ?_
       refine at_seq rfl ?_
       refine rg rfl ?_
       refine Rq ?_
       have tr : ∀ a b c d e f g h i j k m n o p q r s t u v w x : AV, let l := lc_shape_ok a b c d e f g h i j k m n o p q r s t u v w; trim ((2,x)::l) l = [(0,a),(1,b),(2,x),(4,d),(6,e),(8,f),(9,g),(22,h),(36,i),(37,j),(38,k),(39,m),(49,n),(52,o),(53,p),(54,q),(55,r),(58,s),(59,t),(60,u),(61,v),(69,w)] := by intros; rfl
       refine R_nil (tr ..) ?_; clear tr
       refine then_n ?_
       refine at_ret rfl ?_
       refine fpure ?_
       refine ⟨?_, rfl⟩
       rw [shapeS, if_neg (by omega), if_neg (by omega), if_neg (fun hh => hh hq3), if_neg (fun hh => hh fun i hi => hr i (by omega))]

end Go.Proofs.Ytaoondlakhocnaa
end
section
set_option linter.unusedSimpArgs false
set_option linter.unusedVariables false
set_option maxHeartbeats 40000000
set_option maxRecDepth 4000
namespace Go.Proofs.Ytaoondlakhocnaa
open Go Go.Am

abbrev lc_ends_ok (a b c d e f g h i j : AV) : Env := [(0,a),(1,b),(2,c),(4,d),(8,e),(9,f),(10,g),(11,h),(15,i),(27,j)]
theorem ends_ok (lim : Nat) (H : Heap) (rows : List (List Int)) (hs : Shaped rows) :
    ACall sig lim 66 [.agg [rowsAV rows]] H fun r H' => r = AV.i (endsS rows) ∧ H' = H := by
 obtain ⟨g2, g91, g1, g10, gl, gr⟩ := hs
 have gl1 := gl (rows.length - 1) (by omega)
 refine ACall_pure (fa := fa66) rfl rfl rfl rfl ?_
 have tr : ∀ a0 : AV, env0 fa66.keep [a0] = [(0,a0),(1,.any),(2,.any),(4,.any),(8,.any),(9,.any),(10,.any),(11,.any),(15,.any),(27,.any)] := fun a0 => rfl
 refine W_to (tr _) ?_; clear tr
 refine at_seq rfl ?_
 refine rg rfl ?_
 refine R_box rfl (by simp (disch := first | omega | (simp only [List.length_map, List.length_append, List.length_set, List.length_cons, List.length_nil]; omega)) only [go_sem, ↓reduceIte, Nat.reduceEqDiff, reduceCtorEq] <;> rfl) rfl rfl ?_
 refine Rq ?_
 have tr : ∀ a b c d e f g h i j k m : AV, let l := lc_ends_ok a b c d e f g h i j; trim ((2,m)::(1,k)::l) l = [(0,a),(1,k),(2,m),(4,d),(8,e),(9,f),(10,g),(11,h),(15,i),(27,j)] := by intros; rfl
 refine R_nil (tr ..) ?_; clear tr
 refine then_n ?_
 refine at_seq rfl ?_
 refine at_seq rfl ?_
 refine rg rfl ?_
 refine Rq ?_
 refine Rq ?_
 refine Rq ?_
 refine Rq ?_
 refine Rq ?_
 refine Rq ?_
 have tr : ∀ a b c d e f g h i j k m n o p q : AV, let l := lc_ends_ok a b c d e f g h i j; trim ((10,q)::(9,p)::(8,o)::(7,n)::(6,m)::(5,k)::l) l = [(0,a),(1,b),(2,c),(4,d),(8,o),(9,p),(10,q),(11,h),(15,i),(27,j)] := by intros; rfl
 refine R_nil (tr ..) ?_; clear tr
 refine then_n ?_
 refine at_block rfl ?_
 refine loop_n rfl (fun mm kv H' => ∃ w : Nat, ∃ x2 x4 x11 x15 : AV, (kv = [(2, x2), (4, x4), (10, AV.i w), (11, x11), (15, x15)]) ∧ (mm = (gt rows 0).length - w) ∧ (H' = H ++ [some [rowsAV rows]]) ∧ (w ≤ (gt rows 0).length) ∧ (∀ j, j < w → gt (gt rows 0) j = 0)) ⟨0, _, _, _, _, rfl, rfl, rfl, by omega, by intro i hi; omega⟩ (by rfl) ?_
 rintro mm kv H' ⟨w, x2, x4, x11, x15, rfl, rfl, rfl, hw, hz⟩
 have tr : ∀ a b c d e f g h i j k m n o p : AV, upd [(0,a),(1,b),(2,c),(4,d),(8,e),(9,f),(10,g),(11,h),(15,i),(27,j)] [(2,k),(4,m),(10,n),(11,o),(15,p)] = [(0,a),(1,b),(2,k),(4,m),(8,e),(9,f),(10,n),(11,o),(15,p),(27,j)] := by intros; rfl
 refine W_to (tr ..) ?_; clear tr
 refine at_seq rfl ?_
 refine rg rfl ?_
 refine Rq ?_
 have tr : ∀ a b c d e f g h i j k : AV, let l := lc_ends_ok a b c d e f g h i j; trim ((11,k)::l) l = [(0,a),(1,b),(2,c),(4,d),(8,e),(9,f),(10,g),(11,k),(15,i),(27,j)] := by intros; rfl
 refine R_nil (tr ..) ?_; clear tr
 refine then_n ?_
 refine at_seq rfl ?_
 refine cdd (fun h1 => ?_) (fun h1 => ?_)
 ·
  try simp only [decide_eq_true_eq, decide_eq_false_iff_not, Bool.not_eq_true', Bool.not_eq_false', beq_iff_eq, beq_eq_false_iff_ne, ne_eq] at h1
  refine at_skip rfl ?_
  refine then_n ?_
  refine at_seq rfl ?_
  refine at_block rfl ?_
  refine at_seq rfl ?_
  refine rg rfl ?_
  refine Rq ?_
  refine Rq ?_
  refine Rq ?_
  have tr : ∀ a b c d e f g h i j k m n : AV, let l := lc_ends_ok a b c d e f g h i j; trim ((4,n)::(13,m)::(12,k)::l) l = [(0,a),(1,b),(2,c),(4,n),(8,e),(9,f),(10,g),(11,h),(15,i),(27,j)] := by intros; rfl
  refine R_nil (tr ..) ?_; clear tr
  refine then_n ?_
  refine at_seq rfl ?_
  refine rg rfl ?_
  refine Rq ?_
  refine Rq ?_
  have tr : ∀ a b c d e f g h i j k m : AV, let l := lc_ends_ok a b c d e f g h i j; trim ((15,m)::(14,k)::l) l = [(0,a),(1,b),(2,c),(4,d),(8,e),(9,f),(10,g),(11,h),(15,m),(27,j)] := by intros; rfl
  refine R_nil (tr ..) ?_; clear tr
  refine then_n ?_
  refine cdd (fun h2 => ?_) (fun h2 => ?_)
  ·
   try simp only [decide_eq_true_eq, decide_eq_false_iff_not, Bool.not_eq_true', Bool.not_eq_false', beq_iff_eq, beq_eq_false_iff_ne, ne_eq] at h2
   refine at_seq rfl ?_
   refine rg rfl ?_
   refine Rq ?_
   have tr : ∀ a b c d e f g h i j k : AV, let l := lc_ends_ok a b c d e f g h i j; trim ((2,k)::l) l = [(0,a),(1,b),(2,k),(4,d),(8,e),(9,f),(10,g),(11,h),(15,i),(27,j)] := by intros; rfl
   refine R_nil (tr ..) ?_; clear tr
   refine then_n ?_
   refine at_ret rfl ?_
   refine blk_r ?_
   refine then_r ?_
   refine then_r ?_
   refine blk_r ?_
   refine then_r ?_
   refine fpure ?_
   refine ⟨?_, rfl⟩
   rw [endsS, if_pos (fun hh => absurd (hh w (by omega)) (by omega))]
  ·
   try simp only [decide_eq_true_eq, decide_eq_false_iff_not, Bool.not_eq_true', Bool.not_eq_false', beq_iff_eq, beq_eq_false_iff_ne, ne_eq] at h2
   refine at_skip rfl ?_
   refine blk_n ?_
   refine then_n ?_
   refine rg rfl ?_
   refine Rq ?_
   refine Rq ?_
   have tr : ∀ a b c d e f g h i j k m : AV, let l := lc_ends_ok a b c d e f g h i j; trim ((10,m)::(16,k)::l) l = [(0,a),(1,b),(2,c),(4,d),(8,e),(9,f),(10,m),(11,h),(15,i),(27,j)] := by intros; rfl
   refine R_nil (tr ..) ?_; clear tr
   refine then_n ?_
   exact ⟨_, _, ⟨w + 1, _, _, _, _, rfl, rfl, rfl, by omega, by exact all_step hz (by omega)⟩, by rfl, by omega⟩
 ·
  try simp only [decide_eq_true_eq, decide_eq_false_iff_not, Bool.not_eq_true', Bool.not_eq_false', beq_iff_eq, beq_eq_false_iff_ne, ne_eq] at h1
  refine at_exit rfl ?_
  refine then_x ?_
  refine then_x ?_
  refine blk_x ?_
  refine then_n ?_
  refine at_seq rfl ?_
  refine at_seq rfl ?_
  refine rg rfl ?_
  refine Rq ?_
  refine Rq ?_
  refine Rq ?_
  refine Rq ?_
  refine Rq ?_
  refine Rq ?_
  refine Rq ?_
  refine Rq ?_
  refine Rq ?_
  refine Rq ?_
  refine Rq ?_
  have tr : ∀ a b c d e f g h i j k m n o p q r s t u v : AV, let l := lc_ends_ok a b c d e f g h i j; trim ((27,v)::(26,u)::(25,t)::(24,s)::(23,r)::(22,q)::(21,p)::(20,o)::(19,n)::(18,m)::(17,k)::l) l = [(0,a),(1,b),(2,c),(4,d),(8,e),(9,f),(10,g),(11,h),(15,i),(27,v)] := by intros; rfl
  refine R_nil (tr ..) ?_; clear tr
  refine then_n ?_
  refine cdd (fun h3 => ?_) (fun h3 => ?_)
  ·
   try simp only [decide_eq_true_eq, decide_eq_false_iff_not, Bool.not_eq_true', Bool.not_eq_false', beq_iff_eq, beq_eq_false_iff_ne, ne_eq] at h3
   refine at_seq rfl ?_
   refine rg rfl ?_
   refine Rq ?_
   have tr : ∀ a b c d e f g h i j k : AV, let l := lc_ends_ok a b c d e f g h i j; trim ((2,k)::l) l = [(0,a),(1,b),(2,k),(4,d),(8,e),(9,f),(10,g),(11,h),(15,i),(27,j)] := by intros; rfl
   refine R_nil (tr ..) ?_; clear tr
   refine then_n ?_
   refine at_ret rfl ?_
   refine then_r ?_
   refine fpure ?_
   refine ⟨?_, rfl⟩
   rw [endsS, if_neg (fun hh => hh fun i hi => hz i (by omega)), if_pos (by omega)]
  ·
   try simp only [decide_eq_true_eq, decide_eq_false_iff_not, Bool.not_eq_true', Bool.not_eq_false', beq_iff_eq, beq_eq_false_iff_ne, ne_eq] at h3
   refine at_skip rfl ?_
   refine then_n ?_
   refine at_seq rfl ?_
   refine rg rfl ?_
   refine Rq ?_
   have tr : ∀ a b c d e f g h i j k : AV, let l := lc_ends_ok a b c d e f g h i j; trim ((2,k)::l) l = [(0,a),(1,b),(2,k),(4,d),(8,e),(9,f),(10,g),(11,h),(15,i),(27,j)] := by intros; rfl
   refine R_nil (tr ..) ?_; clear tr
   refine then_n ?_
   refine at_ret rfl ?_
   refine fpure ?_
   refine ⟨?_, rfl⟩
   rw [endsS, if_neg (fun hh => hh fun i hi => hz i (by omega)), if_neg (by omega)]

end Go.Proofs.Ytaoondlakhocnaa
end
section
set_option linter.unusedSimpArgs false
set_option linter.unusedVariables false
set_option maxHeartbeats 40000000
set_option maxRecDepth 4000
namespace Go.Proofs.Ytaoondlakhocnaa
open Go Go.Am

abbrev lc_check_ok (a b c d e f g h i j k m n o p q r s t u v w x y z A B C D : AV) : Env := [(0,a),(1,b),(2,c),(3,d),(4,e),(5,f),(6,g),(7,h),(8,i),(9,j),(10,k),(11,m),(15,n),(20,o),(23,p),(24,q),(25,r),(26,s),(30,t),(31,u),(32,v),(33,w),(67,x),(74,y),(81,z),(82,A),(83,B),(84,C),(118,D)]
theorem check_ok (lim : Nat) (H : Heap) (rows : Tb) :
    ACall sig lim 55 [.agg [rowsAV rows]] H fun r H' => r = AV.i (checkS rows) ∧ H' = H := by
 refine ACall_pure (fa := fa55) rfl rfl rfl rfl ?_
 have tr : ∀ a0 : AV, env0 fa55.keep [a0] = [(0,a0),(1,.any),(2,.any),(3,.any),(4,.any),(5,.any),(6,.any),(7,.any),(8,.any),(9,.any),(10,.any),(11,.any),(15,.any),(20,.any),(23,.any),(24,.any),(25,.any),(26,.any),(30,.any),(31,.any),(32,.any),(33,.any),(67,.any),(74,.any),(81,.any),(82,.any),(83,.any),(84,.any),(118,.any)] := fun a0 => rfl
 refine W_to (tr _) ?_; clear tr
 refine at_seq rfl ?_
 refine rg rfl ?_
 refine R_box rfl (by simp (disch := first | omega | (simp only [List.length_map, List.length_append, List.length_set, List.length_cons, List.length_nil]; omega)) only [go_sem, ↓reduceIte, Nat.reduceEqDiff, reduceCtorEq] <;> rfl) rfl rfl ?_
 refine Rq ?_
 have tr : ∀ a b c d e f g h i j k m n o p q r s t u v w x y z A B C D E F : AV, let l := lc_check_ok a b c d e f g h i j k m n o p q r s t u v w x y z A B C D; trim ((2,F)::(1,E)::l) l = [(0,a),(1,E),(2,F),(3,d),(4,e),(5,f),(6,g),(7,h),(8,i),(9,j),(10,k),(11,m),(15,n),(20,o),(23,p),(24,q),(25,r),(26,s),(30,t),(31,u),(32,v),(33,w),(67,x),(74,y),(81,z),(82,A),(83,B),(84,C),(118,D)] := by intros; rfl
 refine R_nil (tr ..) ?_; clear tr
 refine then_n ?_
 refine at_seq rfl ?_
 refine at_seq rfl ?_
 refine rg rfl ?_
 refine Rq ?_
 refine Rcall ?_
 refine ACall_eq (shape_ok _ _ _) ?_
 refine Rq ?_
 have tr : ∀ a b c d e f g h i j k m n o p q r s t u v w x y z A B C D E F G : AV, let l := lc_check_ok a b c d e f g h i j k m n o p q r s t u v w x y z A B C D; trim ((3,G)::(13,F)::(12,E)::l) l = [(0,a),(1,b),(2,c),(3,G),(4,e),(5,f),(6,g),(7,h),(8,i),(9,j),(10,k),(11,m),(15,n),(20,o),(23,p),(24,q),(25,r),(26,s),(30,t),(31,u),(32,v),(33,w),(67,x),(74,y),(81,z),(82,A),(83,B),(84,C),(118,D)] := by intros; rfl
 refine R_nil (tr ..) ?_; clear tr
 refine then_n ?_
 refine at_seq rfl ?_
 refine rg rfl ?_
 refine Rq ?_
 refine Rq ?_
 have tr : ∀ a b c d e f g h i j k m n o p q r s t u v w x y z A B C D E F : AV, let l := lc_check_ok a b c d e f g h i j k m n o p q r s t u v w x y z A B C D; trim ((15,F)::(14,E)::l) l = [(0,a),(1,b),(2,c),(3,d),(4,e),(5,f),(6,g),(7,h),(8,i),(9,j),(10,k),(11,m),(15,F),(20,o),(23,p),(24,q),(25,r),(26,s),(30,t),(31,u),(32,v),(33,w),(67,x),(74,y),(81,z),(82,A),(83,B),(84,C),(118,D)] := by intros; rfl
 refine R_nil (tr ..) ?_; clear tr
 refine then_n ?_
 refine cdd (fun h1 => ?_) (fun h1 => ?_)
 ·
  try simp only [decide_eq_true_eq, decide_eq_false_iff_not, Bool.not_eq_true', Bool.not_eq_false', beq_iff_eq, beq_eq_false_iff_ne, ne_eq] at h1
  refine at_seq rfl ?_
  refine rg rfl ?_
  refine Rq ?_
  refine Rq ?_
  have tr : ∀ a b c d e f g h i j k m n o p q r s t u v w x y z A B C D E F : AV, let l := lc_check_ok a b c d e f g h i j k m n o p q r s t u v w x y z A B C D; trim ((2,F)::(16,E)::l) l = [(0,a),(1,b),(2,F),(3,d),(4,e),(5,f),(6,g),(7,h),(8,i),(9,j),(10,k),(11,m),(15,n),(20,o),(23,p),(24,q),(25,r),(26,s),(30,t),(31,u),(32,v),(33,w),(67,x),(74,y),(81,z),(82,A),(83,B),(84,C),(118,D)] := by intros; rfl
  refine R_nil (tr ..) ?_; clear tr
  refine then_n ?_
  refine at_ret rfl ?_
  refine then_r ?_
  refine fpure ?_
  refine ⟨?_, rfl⟩
  rw [checkS, if_pos h1]
 ·
  try simp only [decide_eq_true_eq, decide_eq_false_iff_not, Bool.not_eq_true', Bool.not_eq_false', beq_iff_eq, beq_eq_false_iff_ne, ne_eq] at h1
  refine at_skip rfl ?_
  refine then_n ?_
  refine at_seq rfl ?_
  refine at_seq rfl ?_
  refine rg rfl ?_
  refine Rq ?_
  refine Rcall ?_
  refine ACall_eq (ends_ok _ _ _ (shaped_of h1)) ?_
  refine Rq ?_
  have tr : ∀ a b c d e f g h i j k m n o p q r s t u v w x y z A B C D E F G : AV, let l := lc_check_ok a b c d e f g h i j k m n o p q r s t u v w x y z A B C D; trim ((4,G)::(18,F)::(17,E)::l) l = [(0,a),(1,b),(2,c),(3,d),(4,G),(5,f),(6,g),(7,h),(8,i),(9,j),(10,k),(11,m),(15,n),(20,o),(23,p),(24,q),(25,r),(26,s),(30,t),(31,u),(32,v),(33,w),(67,x),(74,y),(81,z),(82,A),(83,B),(84,C),(118,D)] := by intros; rfl
  refine R_nil (tr ..) ?_; clear tr
  refine then_n ?_
  refine at_seq rfl ?_
  refine rg rfl ?_
  refine Rq ?_
  refine Rq ?_
  have tr : ∀ a b c d e f g h i j k m n o p q r s t u v w x y z A B C D E F : AV, let l := lc_check_ok a b c d e f g h i j k m n o p q r s t u v w x y z A B C D; trim ((20,F)::(19,E)::l) l = [(0,a),(1,b),(2,c),(3,d),(4,e),(5,f),(6,g),(7,h),(8,i),(9,j),(10,k),(11,m),(15,n),(20,F),(23,p),(24,q),(25,r),(26,s),(30,t),(31,u),(32,v),(33,w),(67,x),(74,y),(81,z),(82,A),(83,B),(84,C),(118,D)] := by intros; rfl
  refine R_nil (tr ..) ?_; clear tr
  refine then_n ?_
  refine cdd (fun h2 => ?_) (fun h2 => ?_)
  ·
   try simp only [decide_eq_true_eq, decide_eq_false_iff_not, Bool.not_eq_true', Bool.not_eq_false', beq_iff_eq, beq_eq_false_iff_ne, ne_eq] at h2
   refine at_seq rfl ?_
   refine rg rfl ?_
   refine Rq ?_
   refine Rq ?_
   have tr : ∀ a b c d e f g h i j k m n o p q r s t u v w x y z A B C D E F : AV, let l := lc_check_ok a b c d e f g h i j k m n o p q r s t u v w x y z A B C D; trim ((2,F)::(21,E)::l) l = [(0,a),(1,b),(2,F),(3,d),(4,e),(5,f),(6,g),(7,h),(8,i),(9,j),(10,k),(11,m),(15,n),(20,o),(23,p),(24,q),(25,r),(26,s),(30,t),(31,u),(32,v),(33,w),(67,x),(74,y),(81,z),(82,A),(83,B),(84,C),(118,D)] := by intros; rfl
   refine R_nil (tr ..) ?_; clear tr
   refine then_n ?_
   refine at_ret rfl ?_
   refine then_r ?_
   refine fpure ?_
   refine ⟨?_, rfl⟩
   rw [checkS, if_neg (fun hh => hh h1), if_pos h2]
  ·
   try simp only [decide_eq_true_eq, decide_eq_false_iff_not, Bool.not_eq_true', Bool.not_eq_false', beq_iff_eq, beq_eq_false_iff_ne, ne_eq] at h2
   refine at_skip rfl ?_
   refine then_n ?_
   refine at_seq rfl ?_
   refine at_seq rfl ?_
   refine rg rfl ?_
   obtain ⟨g2, g91, g1, g10, gl, gr⟩ := shaped_of h1
   refine Rq ?_
   refine Rq ?_
   refine Rq ?_
   refine Rq ?_
   have tr : ∀ a b c d e f g h i j k m n o p q r s t u v w x y z A B C D E F G H : AV, let l := lc_check_ok a b c d e f g h i j k m n o p q r s t u v w x y z A B C D; trim ((25,H)::(24,G)::(23,F)::(22,E)::l) l = [(0,a),(1,b),(2,c),(3,d),(4,e),(5,f),(6,g),(7,h),(8,i),(9,j),(10,k),(11,m),(15,n),(20,o),(23,F),(24,G),(25,H),(26,s),(30,t),(31,u),(32,v),(33,w),(67,x),(74,y),(81,z),(82,A),(83,B),(84,C),(118,D)] := by intros; rfl
   refine R_nil (tr ..) ?_; clear tr
   refine then_n ?_
   refine at_block rfl ?_
   refine loop_n rfl (fun mm kv H' => ∃ u : Nat, ∃ x2 x5 x6 x7 x8 x26 x30 x31 x32 x33 x67 : AV, (kv = [(2, x2), (5, x5), (6, x6), (7, x7), (8, x8), (25, AV.i u), (26, x26), (30, x30), (31, x31), (32, x32), (33, x33), (67, x67)]) ∧ (mm = rows.length - u) ∧ (H' = H ++ [some [rowsAV rows]]) ∧ (u ≤ rows.length) ∧ (∀ i, i < u → ∀ w, w < (gt rows i).length → (0 < i → gt (gt rows (i - 1)) w ≤ gt (gt rows i) w) ∧ (w + 1 < (gt rows i).length → gt (gt rows i) (w + 1) ≤ gt (gt rows i) w))) ⟨0, _, _, _, _, _, _, _, _, _, _, _, rfl, rfl, rfl, by omega, by intro i hi; omega⟩ (by rfl) ?_
   rintro mm kv H' ⟨u, x2, x5, x6, x7, x8, x26, x30, x31, x32, x33, x67, rfl, rfl, rfl, hu, hq⟩
   have tr : ∀ a b c d e f g h i j k m n o p q r s t u v w x y z A B C D E F G H I J K L M N O P : AV, upd [(0,a),(1,b),(2,c),(3,d),(4,e),(5,f),(6,g),(7,h),(8,i),(9,j),(10,k),(11,m),(15,n),(20,o),(23,p),(24,q),(25,r),(26,s),(30,t),(31,u),(32,v),(33,w),(67,x),(74,y),(81,z),(82,A),(83,B),(84,C),(118,D)] [(2,E),(5,F),(6,G),(7,H),(8,I),(25,J),(26,K),(30,L),(31,M),(32,N),(33,O),(67,P)] = [(0,a),(1,b),(2,E),(3,d),(4,e),(5,F),(6,G),(7,H),(8,I),(9,j),(10,k),(11,m),(15,n),(20,o),(23,p),(24,q),(25,J),(26,K),(30,L),(31,M),(32,N),(33,O),(67,P),(74,y),(81,z),(82,A),(83,B),(84,C),(118,D)] := by intros; rfl
   refine W_to (tr ..) ?_; clear tr
   refine at_seq rfl ?_
   refine rg rfl ?_
   refine Rq ?_
   have tr : ∀ a b c d e f g h i j k m n o p q r s t u v w x y z A B C D E : AV, let l := lc_check_ok a b c d e f g h i j k m n o p q r s t u v w x y z A B C D; trim ((26,E)::l) l = [(0,a),(1,b),(2,c),(3,d),(4,e),(5,f),(6,g),(7,h),(8,i),(9,j),(10,k),(11,m),(15,n),(20,o),(23,p),(24,q),(25,r),(26,E),(30,t),(31,u),(32,v),(33,w),(67,x),(74,y),(81,z),(82,A),(83,B),(84,C),(118,D)] := by intros; rfl
   refine R_nil (tr ..) ?_; clear tr
   refine then_n ?_
   refine at_seq rfl ?_
   refine cdd (fun h3 => ?_) (fun h3 => ?_)
   ·
    try simp only [decide_eq_true_eq, decide_eq_false_iff_not, Bool.not_eq_true', Bool.not_eq_false', beq_iff_eq, beq_eq_false_iff_ne, ne_eq] at h3
    refine at_skip rfl ?_
    refine then_n ?_
    refine at_seq rfl ?_
    refine at_block rfl ?_
    refine at_seq rfl ?_
    refine rg rfl ?_
    refine Rq ?_
    refine Rq ?_
    refine Rq ?_
    refine Rq ?_
    refine Rq ?_
    have tr : ∀ a b c d e f g h i j k m n o p q r s t u v w x y z A B C D E F G H I : AV, let l := lc_check_ok a b c d e f g h i j k m n o p q r s t u v w x y z A B C D; trim ((6,I)::(5,H)::(29,G)::(28,F)::(27,E)::l) l = [(0,a),(1,b),(2,c),(3,d),(4,e),(5,H),(6,I),(7,h),(8,i),(9,j),(10,k),(11,m),(15,n),(20,o),(23,p),(24,q),(25,r),(26,s),(30,t),(31,u),(32,v),(33,w),(67,x),(74,y),(81,z),(82,A),(83,B),(84,C),(118,D)] := by intros; rfl
    refine R_nil (tr ..) ?_; clear tr
    refine then_n ?_
    refine at_seq rfl ?_
    refine rg rfl ?_
    have hlu := gl u (by omega)
    have hlu1 := gl (u - 1) (by omega)
    refine Rq ?_
    refine Rq ?_
    refine Rq ?_
    have tr : ∀ a b c d e f g h i j k m n o p q r s t u v w x y z A B C D E F G : AV, let l := lc_check_ok a b c d e f g h i j k m n o p q r s t u v w x y z A B C D; trim ((32,G)::(31,F)::(30,E)::l) l = [(0,a),(1,b),(2,c),(3,d),(4,e),(5,f),(6,g),(7,h),(8,i),(9,j),(10,k),(11,m),(15,n),(20,o),(23,p),(24,q),(25,r),(26,s),(30,E),(31,F),(32,G),(33,w),(67,x),(74,y),(81,z),(82,A),(83,B),(84,C),(118,D)] := by intros; rfl
    refine R_nil (tr ..) ?_; clear tr
    refine then_n ?_
    refine at_block rfl ?_
    refine loop_n rfl (fun mm kv H' => ∃ w : Nat, ∃ x2 x7 x8 x33 x67 : AV, (kv = [(2, x2), (7, x7), (8, x8), (32, AV.i w), (33, x33), (67, x67)]) ∧ (mm = (gt rows u).length - w) ∧ (H' = H ++ [some [rowsAV rows]]) ∧ (w ≤ (gt rows u).length) ∧ (∀ j, j < w → (0 < u → gt (gt rows (u - 1)) j ≤ gt (gt rows u) j) ∧ (j + 1 < (gt rows u).length → gt (gt rows u) (j + 1) ≤ gt (gt rows u) j))) ⟨0, _, _, _, _, _, rfl, rfl, rfl, by omega, by intro i hi; omega⟩ (by rfl) ?_
    rintro mm kv H' ⟨w, x2, x7, x8, x33, x67, rfl, rfl, rfl, hw, hs⟩
    have tr : ∀ a b c d e f g h i j k m n o p q r s t u v w x y z A B C D E F G H I J : AV, upd [(0,a),(1,b),(2,c),(3,d),(4,e),(5,f),(6,g),(7,h),(8,i),(9,j),(10,k),(11,m),(15,n),(20,o),(23,p),(24,q),(25,r),(26,s),(30,t),(31,u),(32,v),(33,w),(67,x),(74,y),(81,z),(82,A),(83,B),(84,C),(118,D)] [(2,E),(7,F),(8,G),(32,H),(33,I),(67,J)] = [(0,a),(1,b),(2,E),(3,d),(4,e),(5,f),(6,g),(7,F),(8,G),(9,j),(10,k),(11,m),(15,n),(20,o),(23,p),(24,q),(25,r),(26,s),(30,t),(31,u),(32,H),(33,I),(67,J),(74,y),(81,z),(82,A),(83,B),(84,C),(118,D)] := by intros; rfl
    refine W_to (tr ..) ?_; clear tr
    refine at_seq rfl ?_
    refine rg rfl ?_
    refine Rq ?_
    have tr : ∀ a b c d e f g h i j k m n o p q r s t u v w x y z A B C D E : AV, let l := lc_check_ok a b c d e f g h i j k m n o p q r s t u v w x y z A B C D; trim ((33,E)::l) l = [(0,a),(1,b),(2,c),(3,d),(4,e),(5,f),(6,g),(7,h),(8,i),(9,j),(10,k),(11,m),(15,n),(20,o),(23,p),(24,q),(25,r),(26,s),(30,t),(31,u),(32,v),(33,E),(67,x),(74,y),(81,z),(82,A),(83,B),(84,C),(118,D)] := by intros; rfl
    refine R_nil (tr ..) ?_; clear tr
    refine then_n ?_
    refine at_seq rfl ?_
    refine cdd (fun h4 => ?_) (fun h4 => ?_)
    ·
     try simp only [decide_eq_true_eq, decide_eq_false_iff_not, Bool.not_eq_true', Bool.not_eq_false', beq_iff_eq, beq_eq_false_iff_ne, ne_eq] at h4
     refine at_skip rfl ?_
     refine then_n ?_
     refine at_seq rfl ?_
     refine at_block rfl ?_
     refine at_seq rfl ?_
     refine rg rfl ?_
     refine Rq ?_
     refine Rq ?_
     refine Rq ?_
     refine Rq ?_
     refine Rq ?_
     have tr : ∀ a b c d e f g h i j k m n o p q r s t u v w x y z A B C D E F G H I : AV, let l := lc_check_ok a b c d e f g h i j k m n o p q r s t u v w x y z A B C D; trim ((8,I)::(7,H)::(36,G)::(35,F)::(34,E)::l) l = [(0,a),(1,b),(2,c),(3,d),(4,e),(5,f),(6,g),(7,H),(8,I),(9,j),(10,k),(11,m),(15,n),(20,o),(23,p),(24,q),(25,r),(26,s),(30,t),(31,u),(32,v),(33,w),(67,x),(74,y),(81,z),(82,A),(83,B),(84,C),(118,D)] := by intros; rfl
     refine R_nil (tr ..) ?_; clear tr
     refine then_n ?_
     refine at_seq rfl ?_
     refine rg rfl ?_
     refine Rq ?_
     refine Rq ?_
     refine Rq ?_
     refine Rp_split (fun h5 => ?_) (fun h5 => ?_)
     ·
      try simp only [decide_eq_true_eq, decide_eq_false_iff_not, Bool.not_eq_true', Bool.not_eq_false', beq_iff_eq, beq_eq_false_iff_ne, ne_eq] at h5
      refine Ry ?_
      refine Rq ?_
      refine Ry ?_
      refine Rq ?_
      refine Ry ?_
      refine Rq ?_
      refine Ry ?_
      refine Rq ?_
      refine Ry ?_
      refine Rq ?_
      refine Ry ?_
      refine Rq ?_
      refine Ry ?_
      refine Rq ?_
      refine Ry ?_
      refine Rq ?_
      refine Ry ?_
      refine Rq ?_
      refine Ry ?_
      refine Rq ?_
      refine Ry ?_
      refine Rq ?_
      refine Rq ?_
      refine Rq ?_
      refine Rp_split (fun h6 => ?_) (fun h6 => ?_)
      ·
       try simp only [decide_eq_true_eq, decide_eq_false_iff_not, Bool.not_eq_true', Bool.not_eq_false', beq_iff_eq, beq_eq_false_iff_ne, ne_eq] at h6
       refine Rn ?_
       refine Rn ?_
       refine Rn ?_
       refine Rn ?_
       refine Rn ?_
       refine Rn ?_
       refine Ru ?_
       refine Ru ?_
       refine Ru ?_
       refine Ru ?_
       refine Ru ?_
       refine Ru ?_
       refine Ru ?_
       refine Rn ?_
       refine Rq ?_
       have tr : ∀ a b c d e f g h i j k m n o p q r s t u v w x y z A B C D E F G H I J K L M N O P Q R S T U V W X Y Z a1 b1 c1 d1 e1 f1 g1 h1 i1 : AV, let l := lc_check_ok a b c d e f g h i j k m n o p q r s t u v w x y z A B C D; trim ((67,i1)::(66,h1)::(65,g1)::(64,f1)::(63,e1)::(62,d1)::(61,c1)::(60,b1)::(59,a1)::(58,Z)::(57,Y)::(56,X)::(55,W)::(54,V)::(53,U)::(52,T)::(51,S)::(50,R)::(49,Q)::(48,P)::(47,O)::(46,N)::(45,M)::(44,L)::(43,K)::(42,J)::(41,I)::(40,H)::(39,G)::(38,F)::(37,E)::l) l = [(0,a),(1,b),(2,c),(3,d),(4,e),(5,f),(6,g),(7,h),(8,i),(9,j),(10,k),(11,m),(15,n),(20,o),(23,p),(24,q),(25,r),(26,s),(30,t),(31,u),(32,v),(33,w),(67,i1),(74,y),(81,z),(82,A),(83,B),(84,C),(118,D)] := by intros; rfl
       refine R_nil (tr ..) ?_; clear tr
       refine then_n ?_
       refine cdt ?_
       refine at_seq rfl ?_
       refine rg rfl ?_
       refine Rq ?_
       have tr : ∀ a b c d e f g h i j k m n o p q r s t u v w x y z A B C D E : AV, let l := lc_check_ok a b c d e f g h i j k m n o p q r s t u v w x y z A B C D; trim ((2,E)::l) l = [(0,a),(1,b),(2,E),(3,d),(4,e),(5,f),(6,g),(7,h),(8,i),(9,j),(10,k),(11,m),(15,n),(20,o),(23,p),(24,q),(25,r),(26,s),(30,t),(31,u),(32,v),(33,w),(67,x),(74,y),(81,z),(82,A),(83,B),(84,C),(118,D)] := by intros; rfl
       refine R_nil (tr ..) ?_; clear tr
       refine then_n ?_
       refine at_ret rfl ?_
       refine blk_r ?_
       refine then_r ?_
       refine then_r ?_
       refine blk_r ?_
       refine blk_r ?_
       refine then_r ?_
       refine then_r ?_
       refine blk_r ?_
       refine then_r ?_
       refine fpure ?_
       refine ⟨?_, rfl⟩
       rw [checkS, if_neg (fun hh => hh h1), if_neg (fun hh => hh h2), if_pos (fun hh => absurd ((hh u (by omega) w (by omega)).1 (by omega)) (by omega))]
      ·
       try simp only [decide_eq_true_eq, decide_eq_false_iff_not, Bool.not_eq_true', Bool.not_eq_false', beq_iff_eq, beq_eq_false_iff_ne, ne_eq] at h6
       refine Ry ?_
       refine Rq ?_
       refine Ry ?_
       refine Rq ?_
       refine Ry ?_
       refine Rq ?_
       refine Ry ?_
       refine Rq ?_
       refine Ry ?_
       refine Rq ?_
       refine Ry ?_
       refine Rq ?_
       refine Rp_split (fun h7 => ?_) (fun h7 => ?_)
       ·
        try simp only [decide_eq_true_eq, decide_eq_false_iff_not, Bool.not_eq_true', Bool.not_eq_false', beq_iff_eq, beq_eq_false_iff_ne, ne_eq] at h7
        refine Ry ?_
        refine Rq ?_
        refine Ry ?_
        refine Rq ?_
        refine Ry ?_
        refine Rq ?_
        refine Ry ?_
        refine Rq ?_
        refine Ry ?_
        refine Rq ?_
        refine Ry ?_
        refine Rq ?_
        refine Ry ?_
        refine Rq ?_
        refine Ry ?_
        refine Rq ?_
        refine Rq ?_
        have tr : ∀ a b c d e f g h i j k m n o p q r s t u v w x y z A B C D E F G H I J K L M N O P Q R S T U V W X Y Z a1 b1 c1 d1 e1 f1 g1 h1 i1 : AV, let l := lc_check_ok a b c d e f g h i j k m n o p q r s t u v w x y z A B C D; trim ((67,i1)::(66,h1)::(65,g1)::(64,f1)::(63,e1)::(62,d1)::(61,c1)::(60,b1)::(59,a1)::(58,Z)::(57,Y)::(56,X)::(55,W)::(54,V)::(53,U)::(52,T)::(51,S)::(50,R)::(49,Q)::(48,P)::(47,O)::(46,N)::(45,M)::(44,L)::(43,K)::(42,J)::(41,I)::(40,H)::(39,G)::(38,F)::(37,E)::l) l = [(0,a),(1,b),(2,c),(3,d),(4,e),(5,f),(6,g),(7,h),(8,i),(9,j),(10,k),(11,m),(15,n),(20,o),(23,p),(24,q),(25,r),(26,s),(30,t),(31,u),(32,v),(33,w),(67,i1),(74,y),(81,z),(82,A),(83,B),(84,C),(118,D)] := by intros; rfl
        refine R_nil (tr ..) ?_; clear tr
        refine then_n ?_
        refine cdd (fun h8 => ?_) (fun h8 => ?_)
        ·
         try simp only [decide_eq_true_eq, decide_eq_false_iff_not, Bool.not_eq_true', Bool.not_eq_false', beq_iff_eq, beq_eq_false_iff_ne, ne_eq] at h8
         refine at_seq rfl ?_
         refine rg rfl ?_
         refine Rq ?_
         have tr : ∀ a b c d e f g h i j k m n o p q r s t u v w x y z A B C D E : AV, let l := lc_check_ok a b c d e f g h i j k m n o p q r s t u v w x y z A B C D; trim ((2,E)::l) l = [(0,a),(1,b),(2,E),(3,d),(4,e),(5,f),(6,g),(7,h),(8,i),(9,j),(10,k),(11,m),(15,n),(20,o),(23,p),(24,q),(25,r),(26,s),(30,t),(31,u),(32,v),(33,w),(67,x),(74,y),(81,z),(82,A),(83,B),(84,C),(118,D)] := by intros; rfl
         refine R_nil (tr ..) ?_; clear tr
         refine then_n ?_
         refine at_ret rfl ?_
         refine blk_r ?_
         refine then_r ?_
         refine then_r ?_
         refine blk_r ?_
         refine blk_r ?_
         refine then_r ?_
         refine then_r ?_
         refine blk_r ?_
         refine then_r ?_
         refine fpure ?_
         refine ⟨?_, rfl⟩
         rw [checkS, if_neg (fun hh => hh h1), if_neg (fun hh => hh h2), if_pos (fun hh => absurd ((hh u (by omega) w (by omega)).2 (by omega)) (by omega))]
        ·
         try simp only [decide_eq_true_eq, decide_eq_false_iff_not, Bool.not_eq_true', Bool.not_eq_false', beq_iff_eq, beq_eq_false_iff_ne, ne_eq] at h8
         refine at_skip rfl ?_
         refine blk_n ?_
         refine then_n ?_
         refine rg rfl ?_
         refine Rq ?_
         refine Rq ?_
         have tr : ∀ a b c d e f g h i j k m n o p q r s t u v w x y z A B C D E F : AV, let l := lc_check_ok a b c d e f g h i j k m n o p q r s t u v w x y z A B C D; trim ((32,F)::(68,E)::l) l = [(0,a),(1,b),(2,c),(3,d),(4,e),(5,f),(6,g),(7,h),(8,i),(9,j),(10,k),(11,m),(15,n),(20,o),(23,p),(24,q),(25,r),(26,s),(30,t),(31,u),(32,F),(33,w),(67,x),(74,y),(81,z),(82,A),(83,B),(84,C),(118,D)] := by intros; rfl
         refine R_nil (tr ..) ?_; clear tr
         refine then_n ?_
         exact ⟨_, _, ⟨w + 1, _, _, _, _, _, rfl, rfl, rfl, by omega, by exact all_step hs ⟨fun _ => by omega, fun _ => by omega⟩⟩, by rfl, by omega⟩
       ·
        try simp only [decide_eq_true_eq, decide_eq_false_iff_not, Bool.not_eq_true', Bool.not_eq_false', beq_iff_eq, beq_eq_false_iff_ne, ne_eq] at h7
        refine Rn ?_
        refine Rn ?_
        refine Rn ?_
        refine Rn ?_
        refine Rn ?_
        refine Rn ?_
        refine Rn ?_
        refine Ry ?_
        refine Rq ?_
        refine Rq ?_
        have tr : ∀ a b c d e f g h i j k m n o p q r s t u v w x y z A B C D E F G H I J K L M N O P Q R S T U V W X Y Z a1 b1 c1 d1 e1 f1 g1 h1 i1 : AV, let l := lc_check_ok a b c d e f g h i j k m n o p q r s t u v w x y z A B C D; trim ((67,i1)::(66,h1)::(65,g1)::(64,f1)::(63,e1)::(62,d1)::(61,c1)::(60,b1)::(59,a1)::(58,Z)::(57,Y)::(56,X)::(55,W)::(54,V)::(53,U)::(52,T)::(51,S)::(50,R)::(49,Q)::(48,P)::(47,O)::(46,N)::(45,M)::(44,L)::(43,K)::(42,J)::(41,I)::(40,H)::(39,G)::(38,F)::(37,E)::l) l = [(0,a),(1,b),(2,c),(3,d),(4,e),(5,f),(6,g),(7,h),(8,i),(9,j),(10,k),(11,m),(15,n),(20,o),(23,p),(24,q),(25,r),(26,s),(30,t),(31,u),(32,v),(33,w),(67,i1),(74,y),(81,z),(82,A),(83,B),(84,C),(118,D)] := by intros; rfl
        refine R_nil (tr ..) ?_; clear tr
        refine then_n ?_
        refine cdf ?_
        refine at_skip rfl ?_
        refine blk_n ?_
        refine then_n ?_
        refine rg rfl ?_
        refine Rq ?_
        refine Rq ?_
        have tr : ∀ a b c d e f g h i j k m n o p q r s t u v w x y z A B C D E F : AV, let l := lc_check_ok a b c d e f g h i j k m n o p q r s t u v w x y z A B C D; trim ((32,F)::(68,E)::l) l = [(0,a),(1,b),(2,c),(3,d),(4,e),(5,f),(6,g),(7,h),(8,i),(9,j),(10,k),(11,m),(15,n),(20,o),(23,p),(24,q),(25,r),(26,s),(30,t),(31,u),(32,F),(33,w),(67,x),(74,y),(81,z),(82,A),(83,B),(84,C),(118,D)] := by intros; rfl
        refine R_nil (tr ..) ?_; clear tr
        refine then_n ?_
        exact ⟨_, _, ⟨w + 1, _, _, _, _, _, rfl, rfl, rfl, by omega, by exact all_step hs ⟨fun _ => by omega, fun _ => by omega⟩⟩, by rfl, by omega⟩
     ·
      try simp only [decide_eq_true_eq, decide_eq_false_iff_not, Bool.not_eq_true', Bool.not_eq_false', beq_iff_eq, beq_eq_false_iff_ne, ne_eq] at h5
      refine Rn ?_
      refine Rn ?_
      refine Rn ?_
      refine Rn ?_
      refine Rn ?_
      refine Rn ?_
      refine Rn ?_
      refine Rn ?_
      refine Rn ?_
      refine Rn ?_
      refine Rn ?_
      refine Rq ?_
      refine Rq ?_
      refine Ry ?_
      refine Rq ?_
      refine Ry ?_
      refine Rq ?_
      refine Ry ?_
      refine Rq ?_
      refine Ry ?_
      refine Rq ?_
      refine Ry ?_
      refine Rq ?_
      refine Ry ?_
      refine Rq ?_
      refine Rp_split (fun h9 => ?_) (fun h9 => ?_)
      ·
       try simp only [decide_eq_true_eq, decide_eq_false_iff_not, Bool.not_eq_true', Bool.not_eq_false', beq_iff_eq, beq_eq_false_iff_ne, ne_eq] at h9
       refine Ry ?_
       refine Rq ?_
       refine Ry ?_
       refine Rq ?_
       refine Ry ?_
       refine Rq ?_
       refine Ry ?_
       refine Rq ?_
       refine Ry ?_
       refine Rq ?_
       refine Ry ?_
       refine Rq ?_
       refine Ry ?_
       refine Rq ?_
       refine Ry ?_
       refine Rq ?_
       refine Rq ?_
       have tr : ∀ a b c d e f g h i j k m n o p q r s t u v w x y z A B C D E F G H I J K L M N O P Q R S T U V W X Y Z a1 b1 c1 d1 e1 f1 g1 h1 i1 : AV, let l := lc_check_ok a b c d e f g h i j k m n o p q r s t u v w x y z A B C D; trim ((67,i1)::(66,h1)::(65,g1)::(64,f1)::(63,e1)::(62,d1)::(61,c1)::(60,b1)::(59,a1)::(58,Z)::(57,Y)::(56,X)::(55,W)::(54,V)::(53,U)::(52,T)::(51,S)::(50,R)::(49,Q)::(48,P)::(47,O)::(46,N)::(45,M)::(44,L)::(43,K)::(42,J)::(41,I)::(40,H)::(39,G)::(38,F)::(37,E)::l) l = [(0,a),(1,b),(2,c),(3,d),(4,e),(5,f),(6,g),(7,h),(8,i),(9,j),(10,k),(11,m),(15,n),(20,o),(23,p),(24,q),(25,r),(26,s),(30,t),(31,u),(32,v),(33,w),(67,i1),(74,y),(81,z),(82,A),(83,B),(84,C),(118,D)] := by intros; rfl
       refine R_nil (tr ..) ?_; clear tr
       refine then_n ?_
       refine cdd (fun h10 => ?_) (fun h10 => ?_)
       ·
        try simp only [decide_eq_true_eq, decide_eq_false_iff_not, Bool.not_eq_true', Bool.not_eq_false', beq_iff_eq, beq_eq_false_iff_ne, ne_eq] at h10
        refine at_seq rfl ?_
        refine rg rfl ?_
        refine Rq ?_
        have tr : ∀ a b c d e f g h i j k m n o p q r s t u v w x y z A B C D E : AV, let l := lc_check_ok a b c d e f g h i j k m n o p q r s t u v w x y z A B C D; trim ((2,E)::l) l = [(0,a),(1,b),(2,E),(3,d),(4,e),(5,f),(6,g),(7,h),(8,i),(9,j),(10,k),(11,m),(15,n),(20,o),(23,p),(24,q),(25,r),(26,s),(30,t),(31,u),(32,v),(33,w),(67,x),(74,y),(81,z),(82,A),(83,B),(84,C),(118,D)] := by intros; rfl
        refine R_nil (tr ..) ?_; clear tr
        refine then_n ?_
        refine at_ret rfl ?_
        refine blk_r ?_
        refine then_r ?_
        refine then_r ?_
        refine blk_r ?_
        refine blk_r ?_
        refine then_r ?_
        refine then_r ?_
        refine blk_r ?_
        refine then_r ?_
        refine fpure ?_
        refine ⟨?_, rfl⟩
        rw [checkS, if_neg (fun hh => hh h1), if_neg (fun hh => hh h2), if_pos (fun hh => absurd ((hh u (by omega) w (by omega)).2 (by omega)) (by omega))]
       ·
        try simp only [decide_eq_true_eq, decide_eq_false_iff_not, Bool.not_eq_true', Bool.not_eq_false', beq_iff_eq, beq_eq_false_iff_ne, ne_eq] at h10
        refine at_skip rfl ?_
        refine blk_n ?_
        refine then_n ?_
        refine rg rfl ?_
        refine Rq ?_
        refine Rq ?_
        have tr : ∀ a b c d e f g h i j k m n o p q r s t u v w x y z A B C D E F : AV, let l := lc_check_ok a b c d e f g h i j k m n o p q r s t u v w x y z A B C D; trim ((32,F)::(68,E)::l) l = [(0,a),(1,b),(2,c),(3,d),(4,e),(5,f),(6,g),(7,h),(8,i),(9,j),(10,k),(11,m),(15,n),(20,o),(23,p),(24,q),(25,r),(26,s),(30,t),(31,u),(32,F),(33,w),(67,x),(74,y),(81,z),(82,A),(83,B),(84,C),(118,D)] := by intros; rfl
        refine R_nil (tr ..) ?_; clear tr
        refine then_n ?_
        exact ⟨_, _, ⟨w + 1, _, _, _, _, _, rfl, rfl, rfl, by omega, by exact all_step hs ⟨fun _ => by omega, fun _ => by omega⟩⟩, by rfl, by omega⟩
      ·
       try simp only [decide_eq_true_eq, decide_eq_false_iff_not, Bool.not_eq_true', Bool.not_eq_false', beq_iff_eq, beq_eq_false_iff_ne, ne_eq] at h9
       refine Rn ?_
       refine Rn ?_
       refine Rn ?_
       refine Rn ?_
       refine Rn ?_
       refine Rn ?_
       refine Rn ?_
       refine Ry ?_
       refine Rq ?_
       refine Rq ?_
       have tr : ∀ a b c d e f g h i j k m n o p q r s t u v w x y z A B C D E F G H I J K L M N O P Q R S T U V W X Y Z a1 b1 c1 d1 e1 f1 g1 h1 i1 : AV, let l := lc_check_ok a b c d e f g h i j k m n o p q r s t u v w x y z A B C D; trim ((67,i1)::(66,h1)::(65,g1)::(64,f1)::(63,e1)::(62,d1)::(61,c1)::(60,b1)::(59,a1)::(58,Z)::(57,Y)::(56,X)::(55,W)::(54,V)::(53,U)::(52,T)::(51,S)::(50,R)::(49,Q)::(48,P)::(47,O)::(46,N)::(45,M)::(44,L)::(43,K)::(42,J)::(41,I)::(40,H)::(39,G)::(38,F)::(37,E)::l) l = [(0,a),(1,b),(2,c),(3,d),(4,e),(5,f),(6,g),(7,h),(8,i),(9,j),(10,k),(11,m),(15,n),(20,o),(23,p),(24,q),(25,r),(26,s),(30,t),(31,u),(32,v),(33,w),(67,i1),(74,y),(81,z),(82,A),(83,B),(84,C),(118,D)] := by intros; rfl
       refine R_nil (tr ..) ?_; clear tr
       refine then_n ?_
       refine cdf ?_
       refine at_skip rfl ?_
       refine blk_n ?_
       refine then_n ?_
       refine rg rfl ?_
       refine Rq ?_
       refine Rq ?_
       have tr : ∀ a b c d e f g h i j k m n o p q r s t u v w x y z A B C D E F : AV, let l := lc_check_ok a b c d e f g h i j k m n o p q r s t u v w x y z A B C D; trim ((32,F)::(68,E)::l) l = [(0,a),(1,b),(2,c),(3,d),(4,e),(5,f),(6,g),(7,h),(8,i),(9,j),(10,k),(11,m),(15,n),(20,o),(23,p),(24,q),(25,r),(26,s),(30,t),(31,u),(32,F),(33,w),(67,x),(74,y),(81,z),(82,A),(83,B),(84,C),(118,D)] := by intros; rfl
       refine R_nil (tr ..) ?_; clear tr
       refine then_n ?_
       exact ⟨_, _, ⟨w + 1, _, _, _, _, _, rfl, rfl, rfl, by omega, by exact all_step hs ⟨fun _ => by omega, fun _ => by omega⟩⟩, by rfl, by omega⟩
    ·
     try simp only [decide_eq_true_eq, decide_eq_false_iff_not, Bool.not_eq_true', Bool.not_eq_false', beq_iff_eq, beq_eq_false_iff_ne, ne_eq] at h4
     refine at_exit rfl ?_
     refine then_x ?_
     refine then_x ?_
     refine blk_x ?_
     refine blk_n ?_
     refine then_n ?_
     refine rg rfl ?_
     refine Rq ?_
     refine Rq ?_
     have tr : ∀ a b c d e f g h i j k m n o p q r s t u v w x y z A B C D E F : AV, let l := lc_check_ok a b c d e f g h i j k m n o p q r s t u v w x y z A B C D; trim ((25,F)::(69,E)::l) l = [(0,a),(1,b),(2,c),(3,d),(4,e),(5,f),(6,g),(7,h),(8,i),(9,j),(10,k),(11,m),(15,n),(20,o),(23,p),(24,q),(25,F),(26,s),(30,t),(31,u),(32,v),(33,w),(67,x),(74,y),(81,z),(82,A),(83,B),(84,C),(118,D)] := by intros; rfl
     refine R_nil (tr ..) ?_; clear tr
     refine then_n ?_
     exact ⟨_, _, ⟨u + 1, _, _, _, _, _, _, _, _, _, _, _, rfl, rfl, rfl, by omega, by exact all_step hq fun w hw => hs w (by omega)⟩, by rfl, by omega⟩
   ·
    try simp only [decide_eq_true_eq, decide_eq_false_iff_not, Bool.not_eq_true', Bool.not_eq_false', beq_iff_eq, beq_eq_false_iff_ne, ne_eq] at h3
    refine at_exit rfl ?_
    refine then_x ?_
    refine then_x ?_
    refine blk_x ?_
    refine then_n ?_
    refine at_seq rfl ?_
    refine at_seq rfl ?_
    refine rg rfl ?_
    have hdn : Down rows := fun i hi w hw => hq i (by omega) w hw
    refine Rq ?_
    have tr : ∀ a b c d e f g h i j k m n o p q r s t u v w x y z A B C D E : AV, let l := lc_check_ok a b c d e f g h i j k m n o p q r s t u v w x y z A B C D; trim ((9,E)::l) l = [(0,a),(1,b),(2,c),(3,d),(4,e),(5,f),(6,g),(7,h),(8,i),(9,E),(10,k),(11,m),(15,n),(20,o),(23,p),(24,q),(25,r),(26,s),(30,t),(31,u),(32,v),(33,w),(67,x),(74,y),(81,z),(82,A),(83,B),(84,C),(118,D)] := by intros; rfl
    refine R_nil (tr ..) ?_; clear tr
    refine then_n ?_
    refine at_block rfl ?_
    refine loop_n rfl (fun mm kv H' => ∃ v : Nat, ∃ x2 x10 x11 x74 x81 x82 x83 x84 x118 : AV, (kv = [(2, x2), (9, AV.i v), (10, x10), (11, x11), (74, x74), (81, x81), (82, x82), (83, x83), (84, x84), (118, x118)]) ∧ (mm = rows.length - v) ∧ (H' = H ++ [some [rowsAV rows]]) ∧ (2 ≤ v) ∧ (v ≤ rows.length) ∧ (∀ i, i < v → 2 ≤ i → ∀ w, w < (gt rows i).length → gt (gt rows i) w - gt (gt rows (i - 1)) w ≤ gt (gt rows (i - 1)) w - gt (gt rows (i - 2)) w)) ⟨2, _, _, _, _, _, _, _, _, _, rfl, rfl, rfl, by omega, by omega, by intro i hi; omega⟩ (by rfl) ?_
    rintro mm kv H' ⟨v, x2, x10, x11, x74, x81, x82, x83, x84, x118, rfl, rfl, rfl, h2v, hv, hc⟩
    have tr : ∀ a b c d e f g h i j k m n o p q r s t u v w x y z A B C D E F G H I J K L M N : AV, upd [(0,a),(1,b),(2,c),(3,d),(4,e),(5,f),(6,g),(7,h),(8,i),(9,j),(10,k),(11,m),(15,n),(20,o),(23,p),(24,q),(25,r),(26,s),(30,t),(31,u),(32,v),(33,w),(67,x),(74,y),(81,z),(82,A),(83,B),(84,C),(118,D)] [(2,E),(9,F),(10,G),(11,H),(74,I),(81,J),(82,K),(83,L),(84,M),(118,N)] = [(0,a),(1,b),(2,E),(3,d),(4,e),(5,f),(6,g),(7,h),(8,i),(9,F),(10,G),(11,H),(15,n),(20,o),(23,p),(24,q),(25,r),(26,s),(30,t),(31,u),(32,v),(33,w),(67,x),(74,I),(81,J),(82,K),(83,L),(84,M),(118,N)] := by intros; rfl
    refine W_to (tr ..) ?_; clear tr
    refine at_seq rfl ?_
    refine at_seq rfl ?_
    refine rg rfl ?_
    refine Rq ?_
    refine Rq ?_
    refine Rq ?_
    refine Rq ?_
    refine Rq ?_
    have tr : ∀ a b c d e f g h i j k m n o p q r s t u v w x y z A B C D E F G H I : AV, let l := lc_check_ok a b c d e f g h i j k m n o p q r s t u v w x y z A B C D; trim ((74,I)::(73,H)::(72,G)::(71,F)::(70,E)::l) l = [(0,a),(1,b),(2,c),(3,d),(4,e),(5,f),(6,g),(7,h),(8,i),(9,j),(10,k),(11,m),(15,n),(20,o),(23,p),(24,q),(25,r),(26,s),(30,t),(31,u),(32,v),(33,w),(67,x),(74,I),(81,z),(82,A),(83,B),(84,C),(118,D)] := by intros; rfl
    refine R_nil (tr ..) ?_; clear tr
    refine then_n ?_
    refine cdd (fun h11 => ?_) (fun h11 => ?_)
    ·
     try simp only [decide_eq_true_eq, decide_eq_false_iff_not, Bool.not_eq_true', Bool.not_eq_false', beq_iff_eq, beq_eq_false_iff_ne, ne_eq] at h11
     refine at_skip rfl ?_
     refine then_n ?_
     refine at_seq rfl ?_
     refine at_block rfl ?_
     refine at_seq rfl ?_
     refine rg rfl ?_
     have hlv := gl v (by omega)
     have hlv1 := gl (v - 1) (by omega)
     have hlv2 := gl (v - 2) (by omega)
     refine Rq ?_
     refine Rq ?_
     refine Rq ?_
     refine Rq ?_
     refine Rq ?_
     refine Rq ?_
     refine Rq ?_
     have tr : ∀ a b c d e f g h i j k m n o p q r s t u v w x y z A B C D E F G H I J K : AV, let l := lc_check_ok a b c d e f g h i j k m n o p q r s t u v w x y z A B C D; trim ((83,K)::(82,J)::(81,I)::(80,H)::(79,G)::(78,F)::(77,E)::l) l = [(0,a),(1,b),(2,c),(3,d),(4,e),(5,f),(6,g),(7,h),(8,i),(9,j),(10,k),(11,m),(15,n),(20,o),(23,p),(24,q),(25,r),(26,s),(30,t),(31,u),(32,v),(33,w),(67,x),(74,y),(81,I),(82,J),(83,K),(84,C),(118,D)] := by intros; rfl
     refine R_nil (tr ..) ?_; clear tr
     refine then_n ?_
     refine at_block rfl ?_
     refine loop_n rfl (fun mm kv H' => ∃ w : Nat, ∃ x2 x10 x11 x84 x118 : AV, (kv = [(2, x2), (10, x10), (11, x11), (83, AV.i w), (84, x84), (118, x118)]) ∧ (mm = (gt rows v).length - w) ∧ (H' = H ++ [some [rowsAV rows]]) ∧ (w ≤ (gt rows v).length) ∧ (∀ j, j < w → gt (gt rows v) j - gt (gt rows (v - 1)) j ≤ gt (gt rows (v - 1)) j - gt (gt rows (v - 2)) j)) ⟨0, _, _, _, _, _, rfl, rfl, rfl, by omega, by intro i hi; omega⟩ (by rfl) ?_
     rintro mm kv H' ⟨w, x2, x10, x11, x84, x118, rfl, rfl, rfl, hw, hd⟩
     have tr : ∀ a b c d e f g h i j k m n o p q r s t u v w x y z A B C D E F G H I J : AV, upd [(0,a),(1,b),(2,c),(3,d),(4,e),(5,f),(6,g),(7,h),(8,i),(9,j),(10,k),(11,m),(15,n),(20,o),(23,p),(24,q),(25,r),(26,s),(30,t),(31,u),(32,v),(33,w),(67,x),(74,y),(81,z),(82,A),(83,B),(84,C),(118,D)] [(2,E),(10,F),(11,G),(83,H),(84,I),(118,J)] = [(0,a),(1,b),(2,E),(3,d),(4,e),(5,f),(6,g),(7,h),(8,i),(9,j),(10,F),(11,G),(15,n),(20,o),(23,p),(24,q),(25,r),(26,s),(30,t),(31,u),(32,v),(33,w),(67,x),(74,y),(81,z),(82,A),(83,H),(84,I),(118,J)] := by intros; rfl
     refine W_to (tr ..) ?_; clear tr
     refine at_seq rfl ?_
     refine rg rfl ?_
     refine Rq ?_
     have tr : ∀ a b c d e f g h i j k m n o p q r s t u v w x y z A B C D E : AV, let l := lc_check_ok a b c d e f g h i j k m n o p q r s t u v w x y z A B C D; trim ((84,E)::l) l = [(0,a),(1,b),(2,c),(3,d),(4,e),(5,f),(6,g),(7,h),(8,i),(9,j),(10,k),(11,m),(15,n),(20,o),(23,p),(24,q),(25,r),(26,s),(30,t),(31,u),(32,v),(33,w),(67,x),(74,y),(81,z),(82,A),(83,B),(84,E),(118,D)] := by intros; rfl
     refine R_nil (tr ..) ?_; clear tr
     refine then_n ?_
     refine at_seq rfl ?_
     refine cdd (fun h12 => ?_) (fun h12 => ?_)
     ·
      try simp only [decide_eq_true_eq, decide_eq_false_iff_not, Bool.not_eq_true', Bool.not_eq_false', beq_iff_eq, beq_eq_false_iff_ne, ne_eq] at h12
      refine at_skip rfl ?_
      refine then_n ?_
      refine at_seq rfl ?_
      refine at_block rfl ?_
      refine at_seq rfl ?_
      refine rg rfl ?_
      refine Rq ?_
      refine Rq ?_
      refine Rq ?_
      refine Rq ?_
      refine Rq ?_
      have tr : ∀ a b c d e f g h i j k m n o p q r s t u v w x y z A B C D E F G H I : AV, let l := lc_check_ok a b c d e f g h i j k m n o p q r s t u v w x y z A B C D; trim ((11,I)::(10,H)::(87,G)::(86,F)::(85,E)::l) l = [(0,a),(1,b),(2,c),(3,d),(4,e),(5,f),(6,g),(7,h),(8,i),(9,j),(10,H),(11,I),(15,n),(20,o),(23,p),(24,q),(25,r),(26,s),(30,t),(31,u),(32,v),(33,w),(67,x),(74,y),(81,z),(82,A),(83,B),(84,C),(118,D)] := by intros; rfl
      refine R_nil (tr ..) ?_; clear tr
      refine then_n ?_
      refine at_seq rfl ?_
      refine rd rfl rfl ?_
      have r0 : 0 ≤ gt (gt rows v) w ∧ gt (gt rows v) w ≤ 10000 := gr v (by omega) w (by omega)
      have r1 : 0 ≤ gt (gt rows (v - 1)) w ∧ gt (gt rows (v - 1)) w ≤ 10000 := gr (v - 1) (by omega) w (by omega)
      have r2 : 0 ≤ gt (gt rows (v - 2)) w ∧ gt (gt rows (v - 2)) w ≤ 10000 := gr (v - 2) (by omega) w (by omega)
      refine Qq ?_
      refine Qq ?_
      refine Qq ?_
      refine Qq ?_
      refine Qq ?_
      refine Qq ?_
      refine Qq ?_
      refine Qq ?_
      refine Qq ?_
      refine Qq ?_
      refine Qq ?_
      refine Qq ?_
      refine Qq ?_
      refine Qq ?_
      refine Qq ?_
      refine Qq ?_
      refine Qq ?_
      refine Qq ?_
      refine Qq ?_
      refine Qq ?_
      refine Qq ?_
      refine Qq ?_
      refine Qq ?_
      refine Qq ?_
      refine Qq ?_
      refine Qq ?_
      refine Qq ?_
      refine Qq ?_
      refine Qq ?_
      refine Qq ?_
      refine Qq ?_
      refine Q_nil ?_
      have tr : ∀ a b c d e f g h i j k m n o p q r s t u v w x y z A B C D E F G H I J K L M N O P Q R S T U V W X Y Z a1 b1 c1 d1 e1 f1 g1 h1 i1 : AV, let l := lc_check_ok a b c d e f g h i j k m n o p q r s t u v w x y z A B C D; trim ((118,i1)::(117,h1)::(116,g1)::(115,f1)::(114,e1)::(113,d1)::(112,c1)::(111,b1)::(110,a1)::(109,Z)::(108,Y)::(107,X)::(106,W)::(105,V)::(104,U)::(103,T)::(102,S)::(101,R)::(100,Q)::(99,P)::(98,O)::(97,N)::(96,M)::(95,L)::(94,K)::(93,J)::(92,I)::(91,H)::(90,G)::(89,F)::(88,E)::l) l = [(0,a),(1,b),(2,c),(3,d),(4,e),(5,f),(6,g),(7,h),(8,i),(9,j),(10,k),(11,m),(15,n),(20,o),(23,p),(24,q),(25,r),(26,s),(30,t),(31,u),(32,v),(33,w),(67,x),(74,y),(81,z),(82,A),(83,B),(84,C),(118,i1)] := by intros; rfl
      refine R_nil (tr ..) ?_; clear tr
      refine then_n ?_
      refine cdd (fun h13 => ?_) (fun h13 => ?_)
      ·
       try simp only [decide_eq_true_eq, decide_eq_false_iff_not, Bool.not_eq_true', Bool.not_eq_false', beq_iff_eq, beq_eq_false_iff_ne, ne_eq] at h13
       refine at_seq rfl ?_
       refine rg rfl ?_
       refine Rq ?_
       have tr : ∀ a b c d e f g h i j k m n o p q r s t u v w x y z A B C D E : AV, let l := lc_check_ok a b c d e f g h i j k m n o p q r s t u v w x y z A B C D; trim ((2,E)::l) l = [(0,a),(1,b),(2,E),(3,d),(4,e),(5,f),(6,g),(7,h),(8,i),(9,j),(10,k),(11,m),(15,n),(20,o),(23,p),(24,q),(25,r),(26,s),(30,t),(31,u),(32,v),(33,w),(67,x),(74,y),(81,z),(82,A),(83,B),(84,C),(118,D)] := by intros; rfl
       refine R_nil (tr ..) ?_; clear tr
       refine then_n ?_
       refine at_ret rfl ?_
       refine blk_r ?_
       refine then_r ?_
       refine then_r ?_
       refine blk_r ?_
       refine blk_r ?_
       refine then_r ?_
       refine then_r ?_
       refine blk_r ?_
       refine then_r ?_
       refine fpure ?_
       refine ⟨?_, rfl⟩
       rw [checkS, if_neg (fun hh => hh h1), if_neg (fun hh => hh h2), if_neg (fun hh => hh hdn), if_pos (fun hh => absurd (hh v (by omega) h2v w (by omega)) (by omega))]
      ·
       try simp only [decide_eq_true_eq, decide_eq_false_iff_not, Bool.not_eq_true', Bool.not_eq_false', beq_iff_eq, beq_eq_false_iff_ne, ne_eq] at h13
       refine at_skip rfl ?_
       refine blk_n ?_
       refine then_n ?_
       refine rg rfl ?_
       refine Rq ?_
       refine Rq ?_
       have tr : ∀ a b c d e f g h i j k m n o p q r s t u v w x y z A B C D E F : AV, let l := lc_check_ok a b c d e f g h i j k m n o p q r s t u v w x y z A B C D; trim ((83,F)::(119,E)::l) l = [(0,a),(1,b),(2,c),(3,d),(4,e),(5,f),(6,g),(7,h),(8,i),(9,j),(10,k),(11,m),(15,n),(20,o),(23,p),(24,q),(25,r),(26,s),(30,t),(31,u),(32,v),(33,w),(67,x),(74,y),(81,z),(82,A),(83,F),(84,C),(118,D)] := by intros; rfl
       refine R_nil (tr ..) ?_; clear tr
       refine then_n ?_
       exact ⟨_, _, ⟨w + 1, _, _, _, _, _, rfl, rfl, rfl, by omega, by exact all_step hd (by omega)⟩, by rfl, by omega⟩
     ·
      try simp only [decide_eq_true_eq, decide_eq_false_iff_not, Bool.not_eq_true', Bool.not_eq_false', beq_iff_eq, beq_eq_false_iff_ne, ne_eq] at h12
      refine at_exit rfl ?_
      refine then_x ?_
      refine then_x ?_
      refine blk_x ?_
      refine blk_n ?_
      refine then_n ?_
      refine rg rfl ?_
      refine Rq ?_
      refine Rq ?_
      refine Rq ?_
      have tr : ∀ a b c d e f g h i j k m n o p q r s t u v w x y z A B C D E F G : AV, let l := lc_check_ok a b c d e f g h i j k m n o p q r s t u v w x y z A B C D; trim ((9,G)::(76,F)::(75,E)::l) l = [(0,a),(1,b),(2,c),(3,d),(4,e),(5,f),(6,g),(7,h),(8,i),(9,G),(10,k),(11,m),(15,n),(20,o),(23,p),(24,q),(25,r),(26,s),(30,t),(31,u),(32,v),(33,w),(67,x),(74,y),(81,z),(82,A),(83,B),(84,C),(118,D)] := by intros; rfl
      refine R_nil (tr ..) ?_; clear tr
      refine then_n ?_
      exact ⟨_, _, ⟨v + 1, _, _, _, _, _, _, _, _, _, rfl, rfl, rfl, by omega, by omega, by exact all_step hc fun _ w hw => hd w (by omega)⟩, by rfl, by omega⟩
    ·
     try simp only [decide_eq_true_eq, decide_eq_false_iff_not, Bool.not_eq_true', Bool.not_eq_false', beq_iff_eq, beq_eq_false_iff_ne, ne_eq] at h11
     refine at_exit rfl ?_
     refine then_x ?_
     refine then_x ?_
     refine blk_x ?_
     refine then_n ?_
     refine at_seq rfl ?_
     refine rg rfl ?_
     refine Rq ?_
     have tr : ∀ a b c d e f g h i j k m n o p q r s t u v w x y z A B C D E : AV, let l := lc_check_ok a b c d e f g h i j k m n o p q r s t u v w x y z A B C D; trim ((2,E)::l) l = [(0,a),(1,b),(2,E),(3,d),(4,e),(5,f),(6,g),(7,h),(8,i),(9,j),(10,k),(11,m),(15,n),(20,o),(23,p),(24,q),(25,r),(26,s),(30,t),(31,u),(32,v),(33,w),(67,x),(74,y),(81,z),(82,A),(83,B),(84,C),(118,D)] := by intros; rfl
     refine R_nil (tr ..) ?_; clear tr
     refine then_n ?_
     refine at_ret rfl ?_
     refine fpure ?_
     refine ⟨?_, rfl⟩
     rw [checkS, if_neg (fun hh => hh h1), if_neg (fun hh => hh h2), if_neg (fun hh => hh hdn), if_neg (fun hh => hh fun i hi h2 w hw => hc i (by omega) h2 w hw)]

end Go.Proofs.Ytaoondlakhocnaa
end
section
set_option linter.unusedSimpArgs false
set_option linter.unusedVariables false
set_option maxHeartbeats 40000000
set_option maxRecDepth 4000
namespace Go.Proofs.Ytaoondlakhocnaa
open Go Go.Am

abbrev lc_rshape_ok (a b c d e f g h i j k m n o p q r s t u v w : AV) : Env := [(0,a),(1,b),(2,c),(4,d),(6,e),(8,f),(20,g),(32,h),(34,i),(35,j),(36,k),(37,m),(47,n),(50,o),(51,p),(52,q),(53,r),(56,s),(57,t),(58,u),(59,v),(67,w)]
theorem rshape_ok (lim : Nat) (H : Heap) (rows : List (List Int)) :
    ACall sig lim 70 [.agg [rowsAV rows]] H fun r H' => r = AV.i (shapeS rows) ∧ H' = H := by
 refine ACall_pure (fa := fa70) rfl rfl rfl rfl ?_
 have tr : ∀ a0 : AV, env0 fa70.keep [a0] = [(0,a0),(1,.any),(2,.any),(4,.any),(6,.any),(8,.any),(20,.any),(32,.any),(34,.any),(35,.any),(36,.any),(37,.any),(47,.any),(50,.any),(51,.any),(52,.any),(53,.any),(56,.any),(57,.any),(58,.any),(59,.any),(67,.any)] := fun a0 => rfl
 refine W_to (tr _) ?_; clear tr
 refine at_seq rfl ?_
 refine rg rfl ?_
 refine R_box rfl (by simp (disch := first | omega | (simp only [List.length_map, List.length_append, List.length_set, List.length_cons, List.length_nil]; omega)) only [go_sem, ↓reduceIte, Nat.reduceEqDiff, reduceCtorEq] <;> rfl) rfl rfl ?_
 refine Rq ?_
 have tr : ∀ a b c d e f g h i j k m n o p q r s t u v w x y : AV, let l := lc_rshape_ok a b c d e f g h i j k m n o p q r s t u v w; trim ((2,y)::(1,x)::l) l = [(0,a),(1,x),(2,y),(4,d),(6,e),(8,f),(20,g),(32,h),(34,i),(35,j),(36,k),(37,m),(47,n),(50,o),(51,p),(52,q),(53,r),(56,s),(57,t),(58,u),(59,v),(67,w)] := by intros; rfl
 refine R_nil (tr ..) ?_; clear tr
 refine then_n ?_
 refine at_seq rfl ?_
 refine at_seq rfl ?_
 refine rg rfl ?_
 refine Rq ?_
 refine Rq ?_
 refine Rq ?_
 refine Rq ?_
 refine Rq ?_
 refine Rp_split (fun h1 => ?_) (fun h1 => ?_)
 ·
  try simp only [decide_eq_true_eq, decide_eq_false_iff_not, Bool.not_eq_true', Bool.not_eq_false', beq_iff_eq, beq_eq_false_iff_ne, ne_eq] at h1
  refine Rn ?_
  refine Rn ?_
  refine Rn ?_
  refine Rn ?_
  refine Rn ?_
  refine Rn ?_
  refine Rq ?_
  have tr : ∀ a b c d e f g h i j k m n o p q r s t u v w x y z A B C D E F G H I : AV, let l := lc_rshape_ok a b c d e f g h i j k m n o p q r s t u v w; trim ((20,I)::(19,H)::(18,G)::(17,F)::(16,E)::(15,D)::(14,C)::(13,B)::(12,A)::(11,z)::(10,y)::(9,x)::l) l = [(0,a),(1,b),(2,c),(4,d),(6,e),(8,f),(20,I),(32,h),(34,i),(35,j),(36,k),(37,m),(47,n),(50,o),(51,p),(52,q),(53,r),(56,s),(57,t),(58,u),(59,v),(67,w)] := by intros; rfl
  refine R_nil (tr ..) ?_; clear tr
  refine then_n ?_
  refine cdt ?_
  refine at_seq rfl ?_
  refine rg rfl ?_
  refine Rq ?_
  have tr : ∀ a b c d e f g h i j k m n o p q r s t u v w x : AV, let l := lc_rshape_ok a b c d e f g h i j k m n o p q r s t u v w; trim ((2,x)::l) l = [(0,a),(1,b),(2,x),(4,d),(6,e),(8,f),(20,g),(32,h),(34,i),(35,j),(36,k),(37,m),(47,n),(50,o),(51,p),(52,q),(53,r),(56,s),(57,t),(58,u),(59,v),(67,w)] := by intros; rfl
  refine R_nil (tr ..) ?_; clear tr
  refine then_n ?_
  refine at_ret rfl ?_
  refine then_r ?_
  refine fpure ?_
  refine ⟨?_, rfl⟩
  rw [shapeS, if_pos (by omega)]
 ·
  try simp only [decide_eq_true_eq, decide_eq_false_iff_not, Bool.not_eq_true', Bool.not_eq_false', beq_iff_eq, beq_eq_false_iff_ne, ne_eq] at h1
  refine Ry ?_
  refine Rq ?_
  refine Ry ?_
  refine Rq ?_
  refine Ry ?_
  refine Rq ?_
  refine Ry ?_
  refine Rq ?_
  refine Ry ?_
  refine Rq ?_
  refine Ry ?_
  refine Rq ?_
  refine Rq ?_
  have tr : ∀ a b c d e f g h i j k m n o p q r s t u v w x y z A B C D E F G H I : AV, let l := lc_rshape_ok a b c d e f g h i j k m n o p q r s t u v w; trim ((20,I)::(19,H)::(18,G)::(17,F)::(16,E)::(15,D)::(14,C)::(13,B)::(12,A)::(11,z)::(10,y)::(9,x)::l) l = [(0,a),(1,b),(2,c),(4,d),(6,e),(8,f),(20,I),(32,h),(34,i),(35,j),(36,k),(37,m),(47,n),(50,o),(51,p),(52,q),(53,r),(56,s),(57,t),(58,u),(59,v),(67,w)] := by intros; rfl
  refine R_nil (tr ..) ?_; clear tr
  refine then_n ?_
  refine cdd (fun h2 => ?_) (fun h2 => ?_)
  ·
   try simp only [decide_eq_true_eq, decide_eq_false_iff_not, Bool.not_eq_true', Bool.not_eq_false', beq_iff_eq, beq_eq_false_iff_ne, ne_eq] at h2
   refine at_seq rfl ?_
   refine rg rfl ?_
   refine Rq ?_
   have tr : ∀ a b c d e f g h i j k m n o p q r s t u v w x : AV, let l := lc_rshape_ok a b c d e f g h i j k m n o p q r s t u v w; trim ((2,x)::l) l = [(0,a),(1,b),(2,x),(4,d),(6,e),(8,f),(20,g),(32,h),(34,i),(35,j),(36,k),(37,m),(47,n),(50,o),(51,p),(52,q),(53,r),(56,s),(57,t),(58,u),(59,v),(67,w)] := by intros; rfl
   refine R_nil (tr ..) ?_; clear tr
   refine then_n ?_
   refine at_ret rfl ?_
   refine then_r ?_
   refine fpure ?_
   refine ⟨?_, rfl⟩
   rw [shapeS, if_pos (by omega)]
  ·
   try simp only [decide_eq_true_eq, decide_eq_false_iff_not, Bool.not_eq_true', Bool.not_eq_false', beq_iff_eq, beq_eq_false_iff_ne, ne_eq] at h2
   refine at_skip rfl ?_
   refine then_n ?_
   refine at_seq rfl ?_
   refine at_seq rfl ?_
   refine rg rfl ?_
   refine Rq ?_
   refine Rq ?_
   refine Rq ?_
   refine Rq ?_
   refine Rq ?_
   refine Rp_split (fun h3 => ?_) (fun h3 => ?_)
   ·
    try simp only [decide_eq_true_eq, decide_eq_false_iff_not, Bool.not_eq_true', Bool.not_eq_false', beq_iff_eq, beq_eq_false_iff_ne, ne_eq] at h3
    refine Rn ?_
    refine Rn ?_
    refine Rn ?_
    refine Rn ?_
    refine Rn ?_
    refine Rn ?_
    refine Rq ?_
    have tr : ∀ a b c d e f g h i j k m n o p q r s t u v w x y z A B C D E F G H I : AV, let l := lc_rshape_ok a b c d e f g h i j k m n o p q r s t u v w; trim ((32,I)::(31,H)::(30,G)::(29,F)::(28,E)::(27,D)::(26,C)::(25,B)::(24,A)::(23,z)::(22,y)::(21,x)::l) l = [(0,a),(1,b),(2,c),(4,d),(6,e),(8,f),(20,g),(32,I),(34,i),(35,j),(36,k),(37,m),(47,n),(50,o),(51,p),(52,q),(53,r),(56,s),(57,t),(58,u),(59,v),(67,w)] := by intros; rfl
    refine R_nil (tr ..) ?_; clear tr
    refine then_n ?_
    refine cdt ?_
    refine at_seq rfl ?_
    refine rg rfl ?_
    refine Rq ?_
    have tr : ∀ a b c d e f g h i j k m n o p q r s t u v w x : AV, let l := lc_rshape_ok a b c d e f g h i j k m n o p q r s t u v w; trim ((2,x)::l) l = [(0,a),(1,b),(2,x),(4,d),(6,e),(8,f),(20,g),(32,h),(34,i),(35,j),(36,k),(37,m),(47,n),(50,o),(51,p),(52,q),(53,r),(56,s),(57,t),(58,u),(59,v),(67,w)] := by intros; rfl
    refine R_nil (tr ..) ?_; clear tr
    refine then_n ?_
    refine at_ret rfl ?_
    refine then_r ?_
    refine fpure ?_
    refine ⟨?_, rfl⟩
    rw [shapeS, if_neg (by omega), if_pos (by omega)]
   ·
    try simp only [decide_eq_true_eq, decide_eq_false_iff_not, Bool.not_eq_true', Bool.not_eq_false', beq_iff_eq, beq_eq_false_iff_ne, ne_eq] at h3
    refine Ry ?_
    refine Rq ?_
    refine Ry ?_
    refine Rq ?_
    refine Ry ?_
    refine Rq ?_
    refine Ry ?_
    refine Rq ?_
    refine Ry ?_
    refine Rq ?_
    refine Ry ?_
    refine Rq ?_
    refine Rq ?_
    have tr : ∀ a b c d e f g h i j k m n o p q r s t u v w x y z A B C D E F G H I : AV, let l := lc_rshape_ok a b c d e f g h i j k m n o p q r s t u v w; trim ((32,I)::(31,H)::(30,G)::(29,F)::(28,E)::(27,D)::(26,C)::(25,B)::(24,A)::(23,z)::(22,y)::(21,x)::l) l = [(0,a),(1,b),(2,c),(4,d),(6,e),(8,f),(20,g),(32,I),(34,i),(35,j),(36,k),(37,m),(47,n),(50,o),(51,p),(52,q),(53,r),(56,s),(57,t),(58,u),(59,v),(67,w)] := by intros; rfl
    refine R_nil (tr ..) ?_; clear tr
    refine then_n ?_
    refine cdd (fun h4 => ?_) (fun h4 => ?_)
    ·
     try simp only [decide_eq_true_eq, decide_eq_false_iff_not, Bool.not_eq_true', Bool.not_eq_false', beq_iff_eq, beq_eq_false_iff_ne, ne_eq] at h4
     refine at_seq rfl ?_
     refine rg rfl ?_
     refine Rq ?_
     have tr : ∀ a b c d e f g h i j k m n o p q r s t u v w x : AV, let l := lc_rshape_ok a b c d e f g h i j k m n o p q r s t u v w; trim ((2,x)::l) l = [(0,a),(1,b),(2,x),(4,d),(6,e),(8,f),(20,g),(32,h),(34,i),(35,j),(36,k),(37,m),(47,n),(50,o),(51,p),(52,q),(53,r),(56,s),(57,t),(58,u),(59,v),(67,w)] := by intros; rfl
     refine R_nil (tr ..) ?_; clear tr
     refine then_n ?_
     refine at_ret rfl ?_
     refine then_r ?_
     refine fpure ?_
     refine ⟨?_, rfl⟩
     rw [shapeS, if_neg (by omega), if_pos (by omega)]
    ·
     try simp only [decide_eq_true_eq, decide_eq_false_iff_not, Bool.not_eq_true', Bool.not_eq_false', beq_iff_eq, beq_eq_false_iff_ne, ne_eq] at h4
     refine at_skip rfl ?_
     refine then_n ?_
     refine at_seq rfl ?_
     refine at_seq rfl ?_
     refine rg rfl ?_
     refine Rq ?_
     refine Rq ?_
     refine Rq ?_
     refine Rq ?_
     have tr : ∀ a b c d e f g h i j k m n o p q r s t u v w x y z A : AV, let l := lc_rshape_ok a b c d e f g h i j k m n o p q r s t u v w; trim ((36,A)::(35,z)::(34,y)::(33,x)::l) l = [(0,a),(1,b),(2,c),(4,d),(6,e),(8,f),(20,g),(32,h),(34,y),(35,z),(36,A),(37,m),(47,n),(50,o),(51,p),(52,q),(53,r),(56,s),(57,t),(58,u),(59,v),(67,w)] := by intros; rfl
     refine R_nil (tr ..) ?_; clear tr
     refine then_n ?_
     refine at_block rfl ?_
     refine loop_n rfl (fun mm kv H' => ∃ u : Nat, ∃ x2 x4 x37 x47 : AV, (kv = [(2, x2), (4, x4), (36, AV.i u), (37, x37), (47, x47)]) ∧ (mm = rows.length - u) ∧ (H' = H ++ [some [rowsAV rows]]) ∧ (u ≤ rows.length) ∧ (∀ i, i < u → (gt rows i).length = (gt rows 0).length)) ⟨0, _, _, _, _, rfl, rfl, rfl, by omega, by intro i hi; omega⟩ (by rfl) ?_
     rintro mm kv H' ⟨u, x2, x4, x37, x47, rfl, rfl, rfl, hu, hq⟩
     have tr : ∀ a b c d e f g h i j k m n o p q r s t u v w x y z A B : AV, upd [(0,a),(1,b),(2,c),(4,d),(6,e),(8,f),(20,g),(32,h),(34,i),(35,j),(36,k),(37,m),(47,n),(50,o),(51,p),(52,q),(53,r),(56,s),(57,t),(58,u),(59,v),(67,w)] [(2,x),(4,y),(36,z),(37,A),(47,B)] = [(0,a),(1,b),(2,x),(4,y),(6,e),(8,f),(20,g),(32,h),(34,i),(35,j),(36,z),(37,A),(47,B),(50,o),(51,p),(52,q),(53,r),(56,s),(57,t),(58,u),(59,v),(67,w)] := by intros; rfl
     refine W_to (tr ..) ?_; clear tr
     refine at_seq rfl ?_
     refine rg rfl ?_
     refine Rq ?_
     have tr : ∀ a b c d e f g h i j k m n o p q r s t u v w x : AV, let l := lc_rshape_ok a b c d e f g h i j k m n o p q r s t u v w; trim ((37,x)::l) l = [(0,a),(1,b),(2,c),(4,d),(6,e),(8,f),(20,g),(32,h),(34,i),(35,j),(36,k),(37,x),(47,n),(50,o),(51,p),(52,q),(53,r),(56,s),(57,t),(58,u),(59,v),(67,w)] := by intros; rfl
     refine R_nil (tr ..) ?_; clear tr
     refine then_n ?_
     refine at_seq rfl ?_
     refine cdd (fun h5 => ?_) (fun h5 => ?_)
     ·
      try simp only [decide_eq_true_eq, decide_eq_false_iff_not, Bool.not_eq_true', Bool.not_eq_false', beq_iff_eq, beq_eq_false_iff_ne, ne_eq] at h5
      refine at_skip rfl ?_
      refine then_n ?_
      refine at_seq rfl ?_
      refine at_block rfl ?_
      refine at_seq rfl ?_
      refine rg rfl ?_
      refine Rq ?_
      refine Rq ?_
      refine Rq ?_
      have tr : ∀ a b c d e f g h i j k m n o p q r s t u v w x y z : AV, let l := lc_rshape_ok a b c d e f g h i j k m n o p q r s t u v w; trim ((4,z)::(39,y)::(38,x)::l) l = [(0,a),(1,b),(2,c),(4,z),(6,e),(8,f),(20,g),(32,h),(34,i),(35,j),(36,k),(37,m),(47,n),(50,o),(51,p),(52,q),(53,r),(56,s),(57,t),(58,u),(59,v),(67,w)] := by intros; rfl
      refine R_nil (tr ..) ?_; clear tr
      refine then_n ?_
      refine at_seq rfl ?_
      refine rg rfl ?_
      refine Rq ?_
      refine Rq ?_
      refine Rq ?_
      refine Rq ?_
      refine Rq ?_
      refine Rq ?_
      refine Rq ?_
      refine Rq ?_
      have tr : ∀ a b c d e f g h i j k m n o p q r s t u v w x y z A B C D E : AV, let l := lc_rshape_ok a b c d e f g h i j k m n o p q r s t u v w; trim ((47,E)::(46,D)::(45,C)::(44,B)::(43,A)::(42,z)::(41,y)::(40,x)::l) l = [(0,a),(1,b),(2,c),(4,d),(6,e),(8,f),(20,g),(32,h),(34,i),(35,j),(36,k),(37,m),(47,E),(50,o),(51,p),(52,q),(53,r),(56,s),(57,t),(58,u),(59,v),(67,w)] := by intros; rfl
      refine R_nil (tr ..) ?_; clear tr
      refine then_n ?_
      refine cdd (fun h6 => ?_) (fun h6 => ?_)
      ·
       try simp only [decide_eq_true_eq, decide_eq_false_iff_not, Bool.not_eq_true', Bool.not_eq_false', beq_iff_eq, beq_eq_false_iff_ne, ne_eq] at h6
       refine at_seq rfl ?_
       refine rg rfl ?_
       refine Rq ?_
       have tr : ∀ a b c d e f g h i j k m n o p q r s t u v w x : AV, let l := lc_rshape_ok a b c d e f g h i j k m n o p q r s t u v w; trim ((2,x)::l) l = [(0,a),(1,b),(2,x),(4,d),(6,e),(8,f),(20,g),(32,h),(34,i),(35,j),(36,k),(37,m),(47,n),(50,o),(51,p),(52,q),(53,r),(56,s),(57,t),(58,u),(59,v),(67,w)] := by intros; rfl
       refine R_nil (tr ..) ?_; clear tr
       refine then_n ?_
       refine at_ret rfl ?_
       refine blk_r ?_
       refine then_r ?_
       refine then_r ?_
       refine blk_r ?_
       refine then_r ?_
       refine fpure ?_
       refine ⟨?_, rfl⟩
       rw [shapeS, if_neg (by omega), if_neg (by omega), if_pos (fun hh => absurd (hh u (by omega)) (by omega))]
      ·
       try simp only [decide_eq_true_eq, decide_eq_false_iff_not, Bool.not_eq_true', Bool.not_eq_false', beq_iff_eq, beq_eq_false_iff_ne, ne_eq] at h6
       refine at_skip rfl ?_
       refine blk_n ?_
       refine then_n ?_
       refine rg rfl ?_
       refine Rq ?_
       refine Rq ?_
       have tr : ∀ a b c d e f g h i j k m n o p q r s t u v w x y : AV, let l := lc_rshape_ok a b c d e f g h i j k m n o p q r s t u v w; trim ((36,y)::(48,x)::l) l = [(0,a),(1,b),(2,c),(4,d),(6,e),(8,f),(20,g),(32,h),(34,i),(35,j),(36,y),(37,m),(47,n),(50,o),(51,p),(52,q),(53,r),(56,s),(57,t),(58,u),(59,v),(67,w)] := by intros; rfl
       refine R_nil (tr ..) ?_; clear tr
       refine then_n ?_
       exact ⟨_, _, ⟨u + 1, _, _, _, _, rfl, rfl, rfl, by omega, by exact all_step hq (by omega)⟩, by rfl, by omega⟩
     ·
      try simp only [decide_eq_true_eq, decide_eq_false_iff_not, Bool.not_eq_true', Bool.not_eq_false', beq_iff_eq, beq_eq_false_iff_ne, ne_eq] at h5
      refine at_exit rfl ?_
      refine then_x ?_
      refine then_x ?_
      refine blk_x ?_
      refine then_n ?_
      refine at_seq rfl ?_
      refine at_seq rfl ?_
      refine rg rfl ?_
      have hq3 : SameLen rows := fun i hi => hq i (by omega)
      refine Rq ?_
      refine Rq ?_
      refine Rq ?_
      refine Rq ?_
      have tr : ∀ a b c d e f g h i j k m n o p q r s t u v w x y z A : AV, let l := lc_rshape_ok a b c d e f g h i j k m n o p q r s t u v w; trim ((52,A)::(51,z)::(50,y)::(49,x)::l) l = [(0,a),(1,b),(2,c),(4,d),(6,e),(8,f),(20,g),(32,h),(34,i),(35,j),(36,k),(37,m),(47,n),(50,y),(51,z),(52,A),(53,r),(56,s),(57,t),(58,u),(59,v),(67,w)] := by intros; rfl
      refine R_nil (tr ..) ?_; clear tr
      refine then_n ?_
      refine at_block rfl ?_
      refine loop_n rfl (fun mm kv H' => ∃ v : Nat, ∃ x2 x6 x8 x53 x56 x57 x58 x59 x67 : AV, (kv = [(2, x2), (6, x6), (8, x8), (52, AV.i v), (53, x53), (56, x56), (57, x57), (58, x58), (59, x59), (67, x67)]) ∧ (mm = rows.length - v) ∧ (H' = H ++ [some [rowsAV rows]]) ∧ (v ≤ rows.length) ∧ (∀ i, i < v → ∀ w, w < (gt rows i).length → okN (gt (gt rows i) w))) ⟨0, _, _, _, _, _, _, _, _, _, rfl, rfl, rfl, by omega, by intro i hi; omega⟩ (by rfl) ?_
      rintro mm kv H' ⟨v, x2, x6, x8, x53, x56, x57, x58, x59, x67, rfl, rfl, rfl, hv, hr⟩
      have tr : ∀ a b c d e f g h i j k m n o p q r s t u v w x y z A B C D E F G : AV, upd [(0,a),(1,b),(2,c),(4,d),(6,e),(8,f),(20,g),(32,h),(34,i),(35,j),(36,k),(37,m),(47,n),(50,o),(51,p),(52,q),(53,r),(56,s),(57,t),(58,u),(59,v),(67,w)] [(2,x),(6,y),(8,z),(52,A),(53,B),(56,C),(57,D),(58,E),(59,F),(67,G)] = [(0,a),(1,b),(2,x),(4,d),(6,y),(8,z),(20,g),(32,h),(34,i),(35,j),(36,k),(37,m),(47,n),(50,o),(51,p),(52,A),(53,B),(56,C),(57,D),(58,E),(59,F),(67,G)] := by intros; rfl
      refine W_to (tr ..) ?_; clear tr
      refine at_seq rfl ?_
      refine rg rfl ?_
      refine Rq ?_
      have tr : ∀ a b c d e f g h i j k m n o p q r s t u v w x : AV, let l := lc_rshape_ok a b c d e f g h i j k m n o p q r s t u v w; trim ((53,x)::l) l = [(0,a),(1,b),(2,c),(4,d),(6,e),(8,f),(20,g),(32,h),(34,i),(35,j),(36,k),(37,m),(47,n),(50,o),(51,p),(52,q),(53,x),(56,s),(57,t),(58,u),(59,v),(67,w)] := by intros; rfl
      refine R_nil (tr ..) ?_; clear tr
      refine then_n ?_
      refine at_seq rfl ?_
      refine cdd (fun h7 => ?_) (fun h7 => ?_)
      ·
       try simp only [decide_eq_true_eq, decide_eq_false_iff_not, Bool.not_eq_true', Bool.not_eq_false', beq_iff_eq, beq_eq_false_iff_ne, ne_eq] at h7
       refine at_skip rfl ?_
       refine then_n ?_
       refine at_seq rfl ?_
       refine at_block rfl ?_
       refine at_seq rfl ?_
       refine rg rfl ?_
       refine Rq ?_
       refine Rq ?_
       refine Rq ?_
       have tr : ∀ a b c d e f g h i j k m n o p q r s t u v w x y z : AV, let l := lc_rshape_ok a b c d e f g h i j k m n o p q r s t u v w; trim ((6,z)::(55,y)::(54,x)::l) l = [(0,a),(1,b),(2,c),(4,d),(6,z),(8,f),(20,g),(32,h),(34,i),(35,j),(36,k),(37,m),(47,n),(50,o),(51,p),(52,q),(53,r),(56,s),(57,t),(58,u),(59,v),(67,w)] := by intros; rfl
       refine R_nil (tr ..) ?_; clear tr
       refine then_n ?_
       refine at_seq rfl ?_
       refine rg rfl ?_
       have hlv := hq3 v (by omega)
       refine Rq ?_
       refine Rq ?_
       refine Rq ?_
       have tr : ∀ a b c d e f g h i j k m n o p q r s t u v w x y z : AV, let l := lc_rshape_ok a b c d e f g h i j k m n o p q r s t u v w; trim ((58,z)::(57,y)::(56,x)::l) l = [(0,a),(1,b),(2,c),(4,d),(6,e),(8,f),(20,g),(32,h),(34,i),(35,j),(36,k),(37,m),(47,n),(50,o),(51,p),(52,q),(53,r),(56,x),(57,y),(58,z),(59,v),(67,w)] := by intros; rfl
       refine R_nil (tr ..) ?_; clear tr
       refine then_n ?_
       refine at_block rfl ?_
       refine loop_n rfl (fun mm kv H' => ∃ w : Nat, ∃ x2 x8 x59 x67 : AV, (kv = [(2, x2), (8, x8), (58, AV.i w), (59, x59), (67, x67)]) ∧ (mm = (gt rows v).length - w) ∧ (H' = H ++ [some [rowsAV rows]]) ∧ (w ≤ (gt rows v).length) ∧ (∀ j, j < w → okN (gt (gt rows v) j))) ⟨0, _, _, _, _, rfl, rfl, rfl, by omega, by intro j hj; omega⟩ (by rfl) ?_
       rintro mm kv H' ⟨w, x2, x8, x59, x67, rfl, rfl, rfl, hw, hs⟩
       have tr : ∀ a b c d e f g h i j k m n o p q r s t u v w x y z A B : AV, upd [(0,a),(1,b),(2,c),(4,d),(6,e),(8,f),(20,g),(32,h),(34,i),(35,j),(36,k),(37,m),(47,n),(50,o),(51,p),(52,q),(53,r),(56,s),(57,t),(58,u),(59,v),(67,w)] [(2,x),(8,y),(58,z),(59,A),(67,B)] = [(0,a),(1,b),(2,x),(4,d),(6,e),(8,y),(20,g),(32,h),(34,i),(35,j),(36,k),(37,m),(47,n),(50,o),(51,p),(52,q),(53,r),(56,s),(57,t),(58,z),(59,A),(67,B)] := by intros; rfl
       refine W_to (tr ..) ?_; clear tr
       have hlv := hq3 v (by omega)
       refine at_seq rfl ?_
       refine rg rfl ?_
       refine Rq ?_
       have tr : ∀ a b c d e f g h i j k m n o p q r s t u v w x : AV, let l := lc_rshape_ok a b c d e f g h i j k m n o p q r s t u v w; trim ((59,x)::l) l = [(0,a),(1,b),(2,c),(4,d),(6,e),(8,f),(20,g),(32,h),(34,i),(35,j),(36,k),(37,m),(47,n),(50,o),(51,p),(52,q),(53,r),(56,s),(57,t),(58,u),(59,x),(67,w)] := by intros; rfl
       refine R_nil (tr ..) ?_; clear tr
       refine then_n ?_
       refine at_seq rfl ?_
       refine cdd (fun h8 => ?_) (fun h8 => ?_)
       ·
        try simp only [decide_eq_true_eq, decide_eq_false_iff_not, Bool.not_eq_true', Bool.not_eq_false', beq_iff_eq, beq_eq_false_iff_ne, ne_eq] at h8
        refine at_skip rfl ?_
        refine then_n ?_
        refine at_seq rfl ?_
        refine at_block rfl ?_
        refine at_seq rfl ?_
        refine rg rfl ?_
        refine Rq ?_
        refine Rq ?_
        refine Rq ?_
        have tr : ∀ a b c d e f g h i j k m n o p q r s t u v w x y z : AV, let l := lc_rshape_ok a b c d e f g h i j k m n o p q r s t u v w; trim ((8,z)::(61,y)::(60,x)::l) l = [(0,a),(1,b),(2,c),(4,d),(6,e),(8,z),(20,g),(32,h),(34,i),(35,j),(36,k),(37,m),(47,n),(50,o),(51,p),(52,q),(53,r),(56,s),(57,t),(58,u),(59,v),(67,w)] := by intros; rfl
        refine R_nil (tr ..) ?_; clear tr
        refine then_n ?_
        refine at_seq rfl ?_
        refine rg rfl ?_
        refine Rq ?_
        refine Rq ?_
        refine Rq ?_
        refine Rp_split (fun h9 => ?_) (fun h9 => ?_)
        ·
         try simp only [decide_eq_true_eq, decide_eq_false_iff_not, Bool.not_eq_true', Bool.not_eq_false', beq_iff_eq, beq_eq_false_iff_ne, ne_eq] at h9
         refine Rn ?_
         refine Rn ?_
         refine Rq ?_
         have tr : ∀ a b c d e f g h i j k m n o p q r s t u v w x y z A B C : AV, let l := lc_rshape_ok a b c d e f g h i j k m n o p q r s t u v w; trim ((67,C)::(66,B)::(65,A)::(64,z)::(63,y)::(62,x)::l) l = [(0,a),(1,b),(2,c),(4,d),(6,e),(8,f),(20,g),(32,h),(34,i),(35,j),(36,k),(37,m),(47,n),(50,o),(51,p),(52,q),(53,r),(56,s),(57,t),(58,u),(59,v),(67,C)] := by intros; rfl
         refine R_nil (tr ..) ?_; clear tr
         refine then_n ?_
         refine cdt ?_
         refine at_seq rfl ?_
         refine rg rfl ?_
         refine Rq ?_
         have tr : ∀ a b c d e f g h i j k m n o p q r s t u v w x : AV, let l := lc_rshape_ok a b c d e f g h i j k m n o p q r s t u v w; trim ((2,x)::l) l = [(0,a),(1,b),(2,x),(4,d),(6,e),(8,f),(20,g),(32,h),(34,i),(35,j),(36,k),(37,m),(47,n),(50,o),(51,p),(52,q),(53,r),(56,s),(57,t),(58,u),(59,v),(67,w)] := by intros; rfl
         refine R_nil (tr ..) ?_; clear tr
         refine then_n ?_
         refine at_ret rfl ?_
         refine blk_r ?_
         refine then_r ?_
         refine then_r ?_
         refine blk_r ?_
         refine blk_r ?_
         refine then_r ?_
         refine then_r ?_
         refine blk_r ?_
         refine then_r ?_
         refine fpure ?_
         refine ⟨?_, rfl⟩
         rw [shapeS, if_neg (by omega), if_neg (by omega), if_neg (fun hh => hh hq3), if_pos (fun hh => absurd (hh v (by omega) w (by omega)) (fun ho => absurd ho.1 (by omega)))]
        ·
         try simp only [decide_eq_true_eq, decide_eq_false_iff_not, Bool.not_eq_true', Bool.not_eq_false', beq_iff_eq, beq_eq_false_iff_ne, ne_eq] at h9
         refine Ry ?_
         refine Rq ?_
         refine Ry ?_
         refine Rq ?_
         refine Rq ?_
         have tr : ∀ a b c d e f g h i j k m n o p q r s t u v w x y z A B C : AV, let l := lc_rshape_ok a b c d e f g h i j k m n o p q r s t u v w; trim ((67,C)::(66,B)::(65,A)::(64,z)::(63,y)::(62,x)::l) l = [(0,a),(1,b),(2,c),(4,d),(6,e),(8,f),(20,g),(32,h),(34,i),(35,j),(36,k),(37,m),(47,n),(50,o),(51,p),(52,q),(53,r),(56,s),(57,t),(58,u),(59,v),(67,C)] := by intros; rfl
         refine R_nil (tr ..) ?_; clear tr
         refine then_n ?_
         refine cdd (fun h10 => ?_) (fun h10 => ?_)
         ·
          try simp only [decide_eq_true_eq, decide_eq_false_iff_not, Bool.not_eq_true', Bool.not_eq_false', beq_iff_eq, beq_eq_false_iff_ne, ne_eq] at h10
          refine at_seq rfl ?_
          refine rg rfl ?_
          refine Rq ?_
          have tr : ∀ a b c d e f g h i j k m n o p q r s t u v w x : AV, let l := lc_rshape_ok a b c d e f g h i j k m n o p q r s t u v w; trim ((2,x)::l) l = [(0,a),(1,b),(2,x),(4,d),(6,e),(8,f),(20,g),(32,h),(34,i),(35,j),(36,k),(37,m),(47,n),(50,o),(51,p),(52,q),(53,r),(56,s),(57,t),(58,u),(59,v),(67,w)] := by intros; rfl
          refine R_nil (tr ..) ?_; clear tr
          refine then_n ?_
          refine at_ret rfl ?_
          refine blk_r ?_
          refine then_r ?_
          refine then_r ?_
          refine blk_r ?_
          refine blk_r ?_
          refine then_r ?_
          refine then_r ?_
          refine blk_r ?_
          refine then_r ?_
          refine fpure ?_
          refine ⟨?_, rfl⟩
          rw [shapeS, if_neg (by omega), if_neg (by omega), if_neg (fun hh => hh hq3), if_pos (fun hh => absurd (hh v (by omega) w (by omega)) (fun ho => absurd ho.2 (by omega)))]
         ·
          try simp only [decide_eq_true_eq, decide_eq_false_iff_not, Bool.not_eq_true', Bool.not_eq_false', beq_iff_eq, beq_eq_false_iff_ne, ne_eq] at h10
          refine at_skip rfl ?_
          refine blk_n ?_
          refine then_n ?_
          refine rg rfl ?_
          refine Rq ?_
          refine Rq ?_
          have tr : ∀ a b c d e f g h i j k m n o p q r s t u v w x y : AV, let l := lc_rshape_ok a b c d e f g h i j k m n o p q r s t u v w; trim ((58,y)::(68,x)::l) l = [(0,a),(1,b),(2,c),(4,d),(6,e),(8,f),(20,g),(32,h),(34,i),(35,j),(36,k),(37,m),(47,n),(50,o),(51,p),(52,q),(53,r),(56,s),(57,t),(58,y),(59,v),(67,w)] := by intros; rfl
          refine R_nil (tr ..) ?_; clear tr
          refine then_n ?_
          exact ⟨_, _, ⟨w + 1, _, _, _, _, rfl, rfl, rfl, by omega, by exact all_step hs ⟨by omega, by omega⟩⟩, by rfl, by omega⟩
       ·
        try simp only [decide_eq_true_eq, decide_eq_false_iff_not, Bool.not_eq_true', Bool.not_eq_false', beq_iff_eq, beq_eq_false_iff_ne, ne_eq] at h8
        refine at_exit rfl ?_
        refine then_x ?_
        refine then_x ?_
        refine blk_x ?_
        refine blk_n ?_
        refine then_n ?_
        refine rg rfl ?_
        refine Rq ?_
        refine Rq ?_
        have tr : ∀ a b c d e f g h i j k m n o p q r s t u v w x y : AV, let l := lc_rshape_ok a b c d e f g h i j k m n o p q r s t u v w; trim ((52,y)::(69,x)::l) l = [(0,a),(1,b),(2,c),(4,d),(6,e),(8,f),(20,g),(32,h),(34,i),(35,j),(36,k),(37,m),(47,n),(50,o),(51,p),(52,y),(53,r),(56,s),(57,t),(58,u),(59,v),(67,w)] := by intros; rfl
        refine R_nil (tr ..) ?_; clear tr
        refine then_n ?_
        exact ⟨_, _, ⟨v + 1, _, _, _, _, _, _, _, _, _, rfl, rfl, rfl, by omega, by exact all_step hr fun w hw => hs w (by omega)⟩, by rfl, by omega⟩
      ·
       try simp only [decide_eq_true_eq, decide_eq_false_iff_not, Bool.not_eq_true', Bool.not_eq_false', beq_iff_eq, beq_eq_false_iff_ne, ne_eq] at h7
       refine at_exit rfl ?_
       refine then_x ?_
       refine then_x ?_
       refine blk_x ?_
       refine then_n ?_
       refine at_seq rfl ?_
       refine rg rfl ?_
       refine Rq ?_
       have tr : ∀ a b c d e f g h i j k m n o p q r s t u v w x : AV, let l := lc_rshape_ok a b c d e f g h i j k m n o p q r s t u v w; trim ((2,x)::l) l = [(0,a),(1,b),(2,x),(4,d),(6,e),(8,f),(20,g),(32,h),(34,i),(35,j),(36,k),(37,m),(47,n),(50,o),(51,p),(52,q),(53,r),(56,s),(57,t),(58,u),(59,v),(67,w)] := by intros; rfl
       refine R_nil (tr ..) ?_; clear tr
       refine then_n ?_
       refine at_ret rfl ?_
       refine fpure ?_
       refine ⟨?_, rfl⟩
       rw [shapeS, if_neg (by omega), if_neg (by omega), if_neg (fun hh => hh hq3), if_neg (fun hh => hh fun i hi => hr i (by omega))]

end Go.Proofs.Ytaoondlakhocnaa
end
