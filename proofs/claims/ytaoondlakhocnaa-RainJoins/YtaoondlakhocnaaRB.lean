/-
  Walks of chapters 37, 39 and 40. The steps are written by program (walk.py).
-/
import Derived.Test.YtaoondlakhocnaaRA
set_option linter.unusedSimpArgs false
set_option linter.unusedVariables false
set_option maxHeartbeats 40000000
set_option maxRecDepth 4000
namespace Go.Proofs.Ytaoondlakhocnaa
open Go Go.Am

abbrev lc_shape_ok (a b c d e f g h i j k m n o p q r s t u v w : AV) : Env := [(0,a),(1,b),(2,c),(4,d),(6,e),(8,f),(9,g),(22,h),(36,i),(37,j),(38,k),(39,m),(49,n),(52,o),(53,p),(54,q),(55,r),(58,s),(59,t),(60,u),(61,v),(69,w)]
theorem shape_ok (lim : Nat) (H : Heap) (rows : List (List Int)) :
    ACall sig lim 65 [.agg [rowsAV rows]] H fun r H' => r = AV.i (shapeS rows) ∧ H' = H := by
 refine ACall_pure (fa := fa65) rfl rfl rfl rfl ?_
 have tr : ∀ a0 : AV, env0 fa65.keep [a0] = [(0,a0),(1,.any),(2,.any),(4,.any),(6,.any),(8,.any),(9,.any),(22,.any),(36,.any),(37,.any),(38,.any),(39,.any),(49,.any),(52,.any),(53,.any),(54,.any),(55,.any),(58,.any),(59,.any),(60,.any),(61,.any),(69,.any)] := fun a0 => rfl
 refine W_to (tr _) ?_; clear tr
 refine at_seq rfl ?_
 refine rg rfl ?_
 refine R_box rfl (by simp (disch := first | omega | (simp only [List.length_map, List.length_append, List.length_set, List.length_cons, List.length_nil]; omega)) only [go_sem, ↓reduceIte, Nat.reduceEqDiff, reduceCtorEq]; rfl) rfl rfl ?_
 refine Rq ?_
 have tr : ∀ a b c d e f g h i j k m n o p q r s t u v w x y : AV, let l := lc_shape_ok a b c d e f g h i j k m n o p q r s t u v w; trim ((2,y)::(1,x)::l) l = [(0,a),(1,x),(2,y),(4,d),(6,e),(8,f),(9,g),(22,h),(36,i),(37,j),(38,k),(39,m),(49,n),(52,o),(53,p),(54,q),(55,r),(58,s),(59,t),(60,u),(61,v),(69,w)] := by intros; rfl
 refine R_nil (tr ..) ?_; clear tr
 refine then_n ?_
 refine at_seq rfl ?_
 refine at_block rfl ?_
 refine at_seq rfl ?_
 refine rg rfl ?_
 refine Rq ?_
 refine Rq ?_
 refine Rq ?_
 refine Rq ?_
 refine Rq ?_
 refine Rp_split (fun h1 => ?_) (fun h1 => ?_)
 ·
  try simp only [decide_eq_true_eq, decide_eq_false_iff_not, Bool.not_eq_true', Bool.not_eq_false', beq_iff_eq, beq_eq_false_iff_ne, ne_eq] at h1
  refine Rn ?_
  refine Rn ?_
  refine Rn ?_
  refine Rn ?_
  refine Rn ?_
  refine Rn ?_
  refine Rq ?_
  refine Rq ?_
  have tr : ∀ a b c d e f g h i j k m n o p q r s t u v w x y z A B C D E F G H I J : AV, let l := lc_shape_ok a b c d e f g h i j k m n o p q r s t u v w; trim ((9,J)::(21,I)::(20,H)::(19,G)::(18,F)::(17,E)::(16,D)::(15,C)::(14,B)::(13,A)::(12,z)::(11,y)::(10,x)::l) l = [(0,a),(1,b),(2,c),(4,d),(6,e),(8,f),(9,J),(22,h),(36,i),(37,j),(38,k),(39,m),(49,n),(52,o),(53,p),(54,q),(55,r),(58,s),(59,t),(60,u),(61,v),(69,w)] := by intros; rfl
  refine R_nil (tr ..) ?_; clear tr
  refine then_n ?_
  refine cdt ?_
  refine at_seq rfl ?_
  refine rg rfl ?_
  refine Rq ?_
  have tr : ∀ a b c d e f g h i j k m n o p q r s t u v w x : AV, let l := lc_shape_ok a b c d e f g h i j k m n o p q r s t u v w; trim ((2,x)::l) l = [(0,a),(1,b),(2,x),(4,d),(6,e),(8,f),(9,g),(22,h),(36,i),(37,j),(38,k),(39,m),(49,n),(52,o),(53,p),(54,q),(55,r),(58,s),(59,t),(60,u),(61,v),(69,w)] := by intros; rfl
  refine R_nil (tr ..) ?_; clear tr
  refine then_n ?_
  refine at_ret rfl ?_
  refine blk_r ?_
  refine then_r ?_
  refine fpure ?_
  refine ⟨?_, rfl⟩
  rw [shapeS, if_pos (by omega)]
 ·
  try simp only [decide_eq_true_eq, decide_eq_false_iff_not, Bool.not_eq_true', Bool.not_eq_false', beq_iff_eq, beq_eq_false_iff_ne, ne_eq] at h1
  refine Ry ?_
  refine Rq ?_
  refine Ry ?_
  refine Rq ?_
  refine Ry ?_
  refine Rq ?_
  refine Ry ?_
  refine Rq ?_
  refine Ry ?_
  refine Rq ?_
  refine Ry ?_
  refine Rq ?_
  refine Rq ?_
  refine Rq ?_
  have tr : ∀ a b c d e f g h i j k m n o p q r s t u v w x y z A B C D E F G H I J : AV, let l := lc_shape_ok a b c d e f g h i j k m n o p q r s t u v w; trim ((9,J)::(21,I)::(20,H)::(19,G)::(18,F)::(17,E)::(16,D)::(15,C)::(14,B)::(13,A)::(12,z)::(11,y)::(10,x)::l) l = [(0,a),(1,b),(2,c),(4,d),(6,e),(8,f),(9,J),(22,h),(36,i),(37,j),(38,k),(39,m),(49,n),(52,o),(53,p),(54,q),(55,r),(58,s),(59,t),(60,u),(61,v),(69,w)] := by intros; rfl
  refine R_nil (tr ..) ?_; clear tr
  refine then_n ?_
  refine cdd (fun h2 => ?_) (fun h2 => ?_)
  ·
   try simp only [decide_eq_true_eq, decide_eq_false_iff_not, Bool.not_eq_true', Bool.not_eq_false', beq_iff_eq, beq_eq_false_iff_ne, ne_eq] at h2
   refine at_seq rfl ?_
   refine rg rfl ?_
   refine Rq ?_
   have tr : ∀ a b c d e f g h i j k m n o p q r s t u v w x : AV, let l := lc_shape_ok a b c d e f g h i j k m n o p q r s t u v w; trim ((2,x)::l) l = [(0,a),(1,b),(2,x),(4,d),(6,e),(8,f),(9,g),(22,h),(36,i),(37,j),(38,k),(39,m),(49,n),(52,o),(53,p),(54,q),(55,r),(58,s),(59,t),(60,u),(61,v),(69,w)] := by intros; rfl
   refine R_nil (tr ..) ?_; clear tr
   refine then_n ?_
   refine at_ret rfl ?_
   refine blk_r ?_
   refine then_r ?_
   refine fpure ?_
   refine ⟨?_, rfl⟩
   rw [shapeS, if_pos (by omega)]
  ·
   try simp only [decide_eq_true_eq, decide_eq_false_iff_not, Bool.not_eq_true', Bool.not_eq_false', beq_iff_eq, beq_eq_false_iff_ne, ne_eq] at h2
   refine at_seq rfl ?_
   refine rg rfl ?_
   refine Rq ?_
   refine Rq ?_
   refine Rq ?_
   refine Rq ?_
   refine Rq ?_
   refine Rp_split (fun h3 => ?_) (fun h3 => ?_)
   ·
    try simp only [decide_eq_true_eq, decide_eq_false_iff_not, Bool.not_eq_true', Bool.not_eq_false', beq_iff_eq, beq_eq_false_iff_ne, ne_eq] at h3
    refine Rn ?_
    refine Rn ?_
    refine Rn ?_
    refine Rn ?_
    refine Rn ?_
    refine Rn ?_
    refine Rq ?_
    refine Rq ?_
    have tr : ∀ a b c d e f g h i j k m n o p q r s t u v w x y z A B C D E F G H I J : AV, let l := lc_shape_ok a b c d e f g h i j k m n o p q r s t u v w; trim ((22,J)::(34,I)::(33,H)::(32,G)::(31,F)::(30,E)::(29,D)::(28,C)::(27,B)::(26,A)::(25,z)::(24,y)::(23,x)::l) l = [(0,a),(1,b),(2,c),(4,d),(6,e),(8,f),(9,g),(22,J),(36,i),(37,j),(38,k),(39,m),(49,n),(52,o),(53,p),(54,q),(55,r),(58,s),(59,t),(60,u),(61,v),(69,w)] := by intros; rfl
    refine R_nil (tr ..) ?_; clear tr
    refine then_n ?_
    refine cdt ?_
    refine at_seq rfl ?_
    refine rg rfl ?_
    refine Rq ?_
    have tr : ∀ a b c d e f g h i j k m n o p q r s t u v w x : AV, let l := lc_shape_ok a b c d e f g h i j k m n o p q r s t u v w; trim ((2,x)::l) l = [(0,a),(1,b),(2,x),(4,d),(6,e),(8,f),(9,g),(22,h),(36,i),(37,j),(38,k),(39,m),(49,n),(52,o),(53,p),(54,q),(55,r),(58,s),(59,t),(60,u),(61,v),(69,w)] := by intros; rfl
    refine R_nil (tr ..) ?_; clear tr
    refine then_n ?_
    refine at_ret rfl ?_
    refine blk_r ?_
    refine then_r ?_
    refine fpure ?_
    refine ⟨?_, rfl⟩
    rw [shapeS, if_neg (by omega), if_pos (by omega)]
   ·
    try simp only [decide_eq_true_eq, decide_eq_false_iff_not, Bool.not_eq_true', Bool.not_eq_false', beq_iff_eq, beq_eq_false_iff_ne, ne_eq] at h3
    refine Ry ?_
    refine Rq ?_
    refine Ry ?_
    refine Rq ?_
    refine Ry ?_
    refine Rq ?_
    refine Ry ?_
    refine Rq ?_
    refine Ry ?_
    refine Rq ?_
    refine Ry ?_
    refine Rq ?_
    refine Rq ?_
    refine Rq ?_
    have tr : ∀ a b c d e f g h i j k m n o p q r s t u v w x y z A B C D E F G H I J : AV, let l := lc_shape_ok a b c d e f g h i j k m n o p q r s t u v w; trim ((22,J)::(34,I)::(33,H)::(32,G)::(31,F)::(30,E)::(29,D)::(28,C)::(27,B)::(26,A)::(25,z)::(24,y)::(23,x)::l) l = [(0,a),(1,b),(2,c),(4,d),(6,e),(8,f),(9,g),(22,J),(36,i),(37,j),(38,k),(39,m),(49,n),(52,o),(53,p),(54,q),(55,r),(58,s),(59,t),(60,u),(61,v),(69,w)] := by intros; rfl
    refine R_nil (tr ..) ?_; clear tr
    refine then_n ?_
    refine cdd (fun h4 => ?_) (fun h4 => ?_)
    ·
     try simp only [decide_eq_true_eq, decide_eq_false_iff_not, Bool.not_eq_true', Bool.not_eq_false', beq_iff_eq, beq_eq_false_iff_ne, ne_eq] at h4
     refine at_seq rfl ?_
     refine rg rfl ?_
     refine Rq ?_
     have tr : ∀ a b c d e f g h i j k m n o p q r s t u v w x : AV, let l := lc_shape_ok a b c d e f g h i j k m n o p q r s t u v w; trim ((2,x)::l) l = [(0,a),(1,b),(2,x),(4,d),(6,e),(8,f),(9,g),(22,h),(36,i),(37,j),(38,k),(39,m),(49,n),(52,o),(53,p),(54,q),(55,r),(58,s),(59,t),(60,u),(61,v),(69,w)] := by intros; rfl
     refine R_nil (tr ..) ?_; clear tr
     refine then_n ?_
     refine at_ret rfl ?_
     refine blk_r ?_
     refine then_r ?_
     refine fpure ?_
     refine ⟨?_, rfl⟩
     rw [shapeS, if_neg (by omega), if_pos (by omega)]
    ·
     try simp only [decide_eq_true_eq, decide_eq_false_iff_not, Bool.not_eq_true', Bool.not_eq_false', beq_iff_eq, beq_eq_false_iff_ne, ne_eq] at h4
     refine at_skip rfl ?_
     refine blk_n ?_
     refine then_n ?_
     refine at_seq rfl ?_
     refine at_seq rfl ?_
     refine rg rfl ?_
     refine Rq ?_
     refine Rq ?_
     refine Rq ?_
     refine Rq ?_
     have tr : ∀ a b c d e f g h i j k m n o p q r s t u v w x y z A : AV, let l := lc_shape_ok a b c d e f g h i j k m n o p q r s t u v w; trim ((38,A)::(37,z)::(36,y)::(35,x)::l) l = [(0,a),(1,b),(2,c),(4,d),(6,e),(8,f),(9,g),(22,h),(36,y),(37,z),(38,A),(39,m),(49,n),(52,o),(53,p),(54,q),(55,r),(58,s),(59,t),(60,u),(61,v),(69,w)] := by intros; rfl
     refine R_nil (tr ..) ?_; clear tr
     refine then_n ?_
     refine at_block rfl ?_
     refine loop_n rfl (fun mm kv H' => ∃ u : Nat, ∃ x2 x4 x39 x49 : AV, (kv = [(2, x2), (4, x4), (38, AV.i u), (39, x39), (49, x49)]) ∧ (mm = rows.length - u) ∧ (H' = H ++ [some [rowsAV rows]]) ∧ (u ≤ rows.length) ∧ (∀ i, i < u → (gt rows i).length = (gt rows 0).length)) ⟨0, _, _, _, _, rfl, rfl, rfl, by omega, by intro i hi; omega⟩ (by rfl) ?_
     rintro mm kv H' ⟨u, x2, x4, x39, x49, rfl, rfl, rfl, hu, hq⟩
     have tr : ∀ a b c d e f g h i j k m n o p q r s t u v w x y z A B : AV, upd [(0,a),(1,b),(2,c),(4,d),(6,e),(8,f),(9,g),(22,h),(36,i),(37,j),(38,k),(39,m),(49,n),(52,o),(53,p),(54,q),(55,r),(58,s),(59,t),(60,u),(61,v),(69,w)] [(2,x),(4,y),(38,z),(39,A),(49,B)] = [(0,a),(1,b),(2,x),(4,y),(6,e),(8,f),(9,g),(22,h),(36,i),(37,j),(38,z),(39,A),(49,B),(52,o),(53,p),(54,q),(55,r),(58,s),(59,t),(60,u),(61,v),(69,w)] := by intros; rfl
     refine W_to (tr ..) ?_; clear tr
     refine at_seq rfl ?_
     refine rg rfl ?_
     refine Rq ?_
     have tr : ∀ a b c d e f g h i j k m n o p q r s t u v w x : AV, let l := lc_shape_ok a b c d e f g h i j k m n o p q r s t u v w; trim ((39,x)::l) l = [(0,a),(1,b),(2,c),(4,d),(6,e),(8,f),(9,g),(22,h),(36,i),(37,j),(38,k),(39,x),(49,n),(52,o),(53,p),(54,q),(55,r),(58,s),(59,t),(60,u),(61,v),(69,w)] := by intros; rfl
     refine R_nil (tr ..) ?_; clear tr
     refine then_n ?_
     refine at_seq rfl ?_
     refine cdd (fun h5 => ?_) (fun h5 => ?_)
     ·
      try simp only [decide_eq_true_eq, decide_eq_false_iff_not, Bool.not_eq_true', Bool.not_eq_false', beq_iff_eq, beq_eq_false_iff_ne, ne_eq] at h5
      refine at_skip rfl ?_
      refine then_n ?_
      refine at_seq rfl ?_
      refine at_block rfl ?_
      refine at_seq rfl ?_
      refine rg rfl ?_
      refine Rq ?_
      refine Rq ?_
      refine Rq ?_
      have tr : ∀ a b c d e f g h i j k m n o p q r s t u v w x y z : AV, let l := lc_shape_ok a b c d e f g h i j k m n o p q r s t u v w; trim ((4,z)::(41,y)::(40,x)::l) l = [(0,a),(1,b),(2,c),(4,z),(6,e),(8,f),(9,g),(22,h),(36,i),(37,j),(38,k),(39,m),(49,n),(52,o),(53,p),(54,q),(55,r),(58,s),(59,t),(60,u),(61,v),(69,w)] := by intros; rfl
      refine R_nil (tr ..) ?_; clear tr
      refine then_n ?_
      refine at_seq rfl ?_
      refine rg rfl ?_
      refine Rq ?_
      refine Rq ?_
      refine Rq ?_
      refine Rq ?_
      refine Rq ?_
      refine Rq ?_
      refine Rq ?_
      refine Rq ?_
      have tr : ∀ a b c d e f g h i j k m n o p q r s t u v w x y z A B C D E : AV, let l := lc_shape_ok a b c d e f g h i j k m n o p q r s t u v w; trim ((49,E)::(48,D)::(47,C)::(46,B)::(45,A)::(44,z)::(43,y)::(42,x)::l) l = [(0,a),(1,b),(2,c),(4,d),(6,e),(8,f),(9,g),(22,h),(36,i),(37,j),(38,k),(39,m),(49,E),(52,o),(53,p),(54,q),(55,r),(58,s),(59,t),(60,u),(61,v),(69,w)] := by intros; rfl
      refine R_nil (tr ..) ?_; clear tr
      refine then_n ?_
      refine cdd (fun h6 => ?_) (fun h6 => ?_)
      ·
       try simp only [decide_eq_true_eq, decide_eq_false_iff_not, Bool.not_eq_true', Bool.not_eq_false', beq_iff_eq, beq_eq_false_iff_ne, ne_eq] at h6
       refine at_seq rfl ?_
       refine rg rfl ?_
       refine Rq ?_
       have tr : ∀ a b c d e f g h i j k m n o p q r s t u v w x : AV, let l := lc_shape_ok a b c d e f g h i j k m n o p q r s t u v w; trim ((2,x)::l) l = [(0,a),(1,b),(2,x),(4,d),(6,e),(8,f),(9,g),(22,h),(36,i),(37,j),(38,k),(39,m),(49,n),(52,o),(53,p),(54,q),(55,r),(58,s),(59,t),(60,u),(61,v),(69,w)] := by intros; rfl
       refine R_nil (tr ..) ?_; clear tr
       refine then_n ?_
       refine at_ret rfl ?_
       refine blk_r ?_
       refine then_r ?_
       refine then_r ?_
       refine blk_r ?_
       refine then_r ?_
       refine fpure ?_
       refine ⟨?_, rfl⟩
       rw [shapeS, if_neg (by omega), if_neg (by omega), if_pos (fun hh => absurd (hh u (by omega)) (by omega))]
      ·
       try simp only [decide_eq_true_eq, decide_eq_false_iff_not, Bool.not_eq_true', Bool.not_eq_false', beq_iff_eq, beq_eq_false_iff_ne, ne_eq] at h6
       refine at_skip rfl ?_
       refine blk_n ?_
       refine then_n ?_
       refine rg rfl ?_
       refine Rq ?_
       refine Rq ?_
       have tr : ∀ a b c d e f g h i j k m n o p q r s t u v w x y : AV, let l := lc_shape_ok a b c d e f g h i j k m n o p q r s t u v w; trim ((38,y)::(50,x)::l) l = [(0,a),(1,b),(2,c),(4,d),(6,e),(8,f),(9,g),(22,h),(36,i),(37,j),(38,y),(39,m),(49,n),(52,o),(53,p),(54,q),(55,r),(58,s),(59,t),(60,u),(61,v),(69,w)] := by intros; rfl
       refine R_nil (tr ..) ?_; clear tr
       refine then_n ?_
       exact ⟨_, _, ⟨u + 1, _, _, _, _, rfl, rfl, rfl, by omega, by exact all_step hq (by omega)⟩, by rfl, by omega⟩
     ·
      try simp only [decide_eq_true_eq, decide_eq_false_iff_not, Bool.not_eq_true', Bool.not_eq_false', beq_iff_eq, beq_eq_false_iff_ne, ne_eq] at h5
      refine at_exit rfl ?_
      refine then_x ?_
      refine then_x ?_
      refine blk_x ?_
      refine then_n ?_
      refine at_seq rfl ?_
      refine at_seq rfl ?_
      refine rg rfl ?_
      have hq3 : SameLen rows := fun i hi => hq i (by omega)
      refine Rq ?_
      refine Rq ?_
      refine Rq ?_
      refine Rq ?_
      have tr : ∀ a b c d e f g h i j k m n o p q r s t u v w x y z A : AV, let l := lc_shape_ok a b c d e f g h i j k m n o p q r s t u v w; trim ((54,A)::(53,z)::(52,y)::(51,x)::l) l = [(0,a),(1,b),(2,c),(4,d),(6,e),(8,f),(9,g),(22,h),(36,i),(37,j),(38,k),(39,m),(49,n),(52,y),(53,z),(54,A),(55,r),(58,s),(59,t),(60,u),(61,v),(69,w)] := by intros; rfl
      refine R_nil (tr ..) ?_; clear tr
      refine then_n ?_
      refine at_block rfl ?_
      refine loop_n rfl (fun mm kv H' => ∃ v : Nat, ∃ x2 x6 x8 x55 x58 x59 x60 x61 x69 : AV, (kv = [(2, x2), (6, x6), (8, x8), (54, AV.i v), (55, x55), (58, x58), (59, x59), (60, x60), (61, x61), (69, x69)]) ∧ (mm = rows.length - v) ∧ (H' = H ++ [some [rowsAV rows]]) ∧ (v ≤ rows.length) ∧ (∀ i, i < v → ∀ w, w < (gt rows i).length → okN (gt (gt rows i) w))) ⟨0, _, _, _, _, _, _, _, _, _, rfl, rfl, rfl, by omega, by intro i hi; omega⟩ (by rfl) ?_
      rintro mm kv H' ⟨v, x2, x6, x8, x55, x58, x59, x60, x61, x69, rfl, rfl, rfl, hv, hr⟩
      have tr : ∀ a b c d e f g h i j k m n o p q r s t u v w x y z A B C D E F G : AV, upd [(0,a),(1,b),(2,c),(4,d),(6,e),(8,f),(9,g),(22,h),(36,i),(37,j),(38,k),(39,m),(49,n),(52,o),(53,p),(54,q),(55,r),(58,s),(59,t),(60,u),(61,v),(69,w)] [(2,x),(6,y),(8,z),(54,A),(55,B),(58,C),(59,D),(60,E),(61,F),(69,G)] = [(0,a),(1,b),(2,x),(4,d),(6,y),(8,z),(9,g),(22,h),(36,i),(37,j),(38,k),(39,m),(49,n),(52,o),(53,p),(54,A),(55,B),(58,C),(59,D),(60,E),(61,F),(69,G)] := by intros; rfl
      refine W_to (tr ..) ?_; clear tr
      refine at_seq rfl ?_
      refine rg rfl ?_
      refine Rq ?_
      have tr : ∀ a b c d e f g h i j k m n o p q r s t u v w x : AV, let l := lc_shape_ok a b c d e f g h i j k m n o p q r s t u v w; trim ((55,x)::l) l = [(0,a),(1,b),(2,c),(4,d),(6,e),(8,f),(9,g),(22,h),(36,i),(37,j),(38,k),(39,m),(49,n),(52,o),(53,p),(54,q),(55,x),(58,s),(59,t),(60,u),(61,v),(69,w)] := by intros; rfl
      refine R_nil (tr ..) ?_; clear tr
      refine then_n ?_
      refine at_seq rfl ?_
      refine cdd (fun h7 => ?_) (fun h7 => ?_)
      ·
       try simp only [decide_eq_true_eq, decide_eq_false_iff_not, Bool.not_eq_true', Bool.not_eq_false', beq_iff_eq, beq_eq_false_iff_ne, ne_eq] at h7
       refine at_skip rfl ?_
       refine then_n ?_
       refine at_seq rfl ?_
       refine at_block rfl ?_
       refine at_seq rfl ?_
       refine rg rfl ?_
       refine Rq ?_
       refine Rq ?_
       refine Rq ?_
       have tr : ∀ a b c d e f g h i j k m n o p q r s t u v w x y z : AV, let l := lc_shape_ok a b c d e f g h i j k m n o p q r s t u v w; trim ((6,z)::(57,y)::(56,x)::l) l = [(0,a),(1,b),(2,c),(4,d),(6,z),(8,f),(9,g),(22,h),(36,i),(37,j),(38,k),(39,m),(49,n),(52,o),(53,p),(54,q),(55,r),(58,s),(59,t),(60,u),(61,v),(69,w)] := by intros; rfl
       refine R_nil (tr ..) ?_; clear tr
       refine then_n ?_
       refine at_seq rfl ?_
       refine rg rfl ?_
       have hlv := hq3 v (by omega)
       refine Rq ?_
       refine Rq ?_
       refine Rq ?_
       have tr : ∀ a b c d e f g h i j k m n o p q r s t u v w x y z : AV, let l := lc_shape_ok a b c d e f g h i j k m n o p q r s t u v w; trim ((60,z)::(59,y)::(58,x)::l) l = [(0,a),(1,b),(2,c),(4,d),(6,e),(8,f),(9,g),(22,h),(36,i),(37,j),(38,k),(39,m),(49,n),(52,o),(53,p),(54,q),(55,r),(58,x),(59,y),(60,z),(61,v),(69,w)] := by intros; rfl
       refine R_nil (tr ..) ?_; clear tr
       refine then_n ?_
       refine at_block rfl ?_
       refine loop_n rfl (fun mm kv H' => ∃ w : Nat, ∃ x2 x8 x61 x69 : AV, (kv = [(2, x2), (8, x8), (60, AV.i w), (61, x61), (69, x69)]) ∧ (mm = (gt rows v).length - w) ∧ (H' = H ++ [some [rowsAV rows]]) ∧ (w ≤ (gt rows v).length) ∧ (∀ j, j < w → okN (gt (gt rows v) j))) ⟨0, _, _, _, _, rfl, rfl, rfl, by omega, by intro j hj; omega⟩ (by rfl) ?_
       rintro mm kv H' ⟨w, x2, x8, x61, x69, rfl, rfl, rfl, hw, hs⟩
       have tr : ∀ a b c d e f g h i j k m n o p q r s t u v w x y z A B : AV, upd [(0,a),(1,b),(2,c),(4,d),(6,e),(8,f),(9,g),(22,h),(36,i),(37,j),(38,k),(39,m),(49,n),(52,o),(53,p),(54,q),(55,r),(58,s),(59,t),(60,u),(61,v),(69,w)] [(2,x),(8,y),(60,z),(61,A),(69,B)] = [(0,a),(1,b),(2,x),(4,d),(6,e),(8,y),(9,g),(22,h),(36,i),(37,j),(38,k),(39,m),(49,n),(52,o),(53,p),(54,q),(55,r),(58,s),(59,t),(60,z),(61,A),(69,B)] := by intros; rfl
       refine W_to (tr ..) ?_; clear tr
       have hlv := hq3 v (by omega)
       refine at_seq rfl ?_
       refine rg rfl ?_
       refine Rq ?_
       have tr : ∀ a b c d e f g h i j k m n o p q r s t u v w x : AV, let l := lc_shape_ok a b c d e f g h i j k m n o p q r s t u v w; trim ((61,x)::l) l = [(0,a),(1,b),(2,c),(4,d),(6,e),(8,f),(9,g),(22,h),(36,i),(37,j),(38,k),(39,m),(49,n),(52,o),(53,p),(54,q),(55,r),(58,s),(59,t),(60,u),(61,x),(69,w)] := by intros; rfl
       refine R_nil (tr ..) ?_; clear tr
       refine then_n ?_
       refine at_seq rfl ?_
       refine cdd (fun h8 => ?_) (fun h8 => ?_)
       ·
        try simp only [decide_eq_true_eq, decide_eq_false_iff_not, Bool.not_eq_true', Bool.not_eq_false', beq_iff_eq, beq_eq_false_iff_ne, ne_eq] at h8
        refine at_skip rfl ?_
        refine then_n ?_
        refine at_seq rfl ?_
        refine at_block rfl ?_
        refine at_seq rfl ?_
        refine rg rfl ?_
        refine Rq ?_
        refine Rq ?_
        refine Rq ?_
        have tr : ∀ a b c d e f g h i j k m n o p q r s t u v w x y z : AV, let l := lc_shape_ok a b c d e f g h i j k m n o p q r s t u v w; trim ((8,z)::(63,y)::(62,x)::l) l = [(0,a),(1,b),(2,c),(4,d),(6,e),(8,z),(9,g),(22,h),(36,i),(37,j),(38,k),(39,m),(49,n),(52,o),(53,p),(54,q),(55,r),(58,s),(59,t),(60,u),(61,v),(69,w)] := by intros; rfl
        refine R_nil (tr ..) ?_; clear tr
        refine then_n ?_
        refine at_seq rfl ?_
        refine rg rfl ?_
        refine Rq ?_
        refine Rq ?_
        refine Rq ?_
        refine Rp_split (fun h9 => ?_) (fun h9 => ?_)
        ·
         try simp only [decide_eq_true_eq, decide_eq_false_iff_not, Bool.not_eq_true', Bool.not_eq_false', beq_iff_eq, beq_eq_false_iff_ne, ne_eq] at h9
         refine Rn ?_
         refine Rn ?_
         refine Rq ?_
         have tr : ∀ a b c d e f g h i j k m n o p q r s t u v w x y z A B C : AV, let l := lc_shape_ok a b c d e f g h i j k m n o p q r s t u v w; trim ((69,C)::(68,B)::(67,A)::(66,z)::(65,y)::(64,x)::l) l = [(0,a),(1,b),(2,c),(4,d),(6,e),(8,f),(9,g),(22,h),(36,i),(37,j),(38,k),(39,m),(49,n),(52,o),(53,p),(54,q),(55,r),(58,s),(59,t),(60,u),(61,v),(69,C)] := by intros; rfl
         refine R_nil (tr ..) ?_; clear tr
         refine then_n ?_
         refine cdt ?_
         refine at_seq rfl ?_
         refine rg rfl ?_
         refine Rq ?_
         have tr : ∀ a b c d e f g h i j k m n o p q r s t u v w x : AV, let l := lc_shape_ok a b c d e f g h i j k m n o p q r s t u v w; trim ((2,x)::l) l = [(0,a),(1,b),(2,x),(4,d),(6,e),(8,f),(9,g),(22,h),(36,i),(37,j),(38,k),(39,m),(49,n),(52,o),(53,p),(54,q),(55,r),(58,s),(59,t),(60,u),(61,v),(69,w)] := by intros; rfl
         refine R_nil (tr ..) ?_; clear tr
         refine then_n ?_
         refine at_ret rfl ?_
         refine blk_r ?_
         refine then_r ?_
         refine then_r ?_
         refine blk_r ?_
         refine blk_r ?_
         refine then_r ?_
         refine then_r ?_
         refine blk_r ?_
         refine then_r ?_
         refine fpure ?_
         refine ⟨?_, rfl⟩
         rw [shapeS, if_neg (by omega), if_neg (by omega), if_neg (fun hh => hh hq3), if_pos (fun hh => absurd (hh v (by omega) w (by omega)) (fun ho => absurd ho.1 (by omega)))]
        ·
         try simp only [decide_eq_true_eq, decide_eq_false_iff_not, Bool.not_eq_true', Bool.not_eq_false', beq_iff_eq, beq_eq_false_iff_ne, ne_eq] at h9
         refine Ry ?_
         refine Rq ?_
         refine Ry ?_
         refine Rq ?_
         refine Rq ?_
         have tr : ∀ a b c d e f g h i j k m n o p q r s t u v w x y z A B C : AV, let l := lc_shape_ok a b c d e f g h i j k m n o p q r s t u v w; trim ((69,C)::(68,B)::(67,A)::(66,z)::(65,y)::(64,x)::l) l = [(0,a),(1,b),(2,c),(4,d),(6,e),(8,f),(9,g),(22,h),(36,i),(37,j),(38,k),(39,m),(49,n),(52,o),(53,p),(54,q),(55,r),(58,s),(59,t),(60,u),(61,v),(69,C)] := by intros; rfl
         refine R_nil (tr ..) ?_; clear tr
         refine then_n ?_
         refine cdd (fun h10 => ?_) (fun h10 => ?_)
         ·
          try simp only [decide_eq_true_eq, decide_eq_false_iff_not, Bool.not_eq_true', Bool.not_eq_false', beq_iff_eq, beq_eq_false_iff_ne, ne_eq] at h10
          refine at_seq rfl ?_
          refine rg rfl ?_
          refine Rq ?_
          have tr : ∀ a b c d e f g h i j k m n o p q r s t u v w x : AV, let l := lc_shape_ok a b c d e f g h i j k m n o p q r s t u v w; trim ((2,x)::l) l = [(0,a),(1,b),(2,x),(4,d),(6,e),(8,f),(9,g),(22,h),(36,i),(37,j),(38,k),(39,m),(49,n),(52,o),(53,p),(54,q),(55,r),(58,s),(59,t),(60,u),(61,v),(69,w)] := by intros; rfl
          refine R_nil (tr ..) ?_; clear tr
          refine then_n ?_
          refine at_ret rfl ?_
          refine blk_r ?_
          refine then_r ?_
          refine then_r ?_
          refine blk_r ?_
          refine blk_r ?_
          refine then_r ?_
          refine then_r ?_
          refine blk_r ?_
          refine then_r ?_
          refine fpure ?_
          refine ⟨?_, rfl⟩
          rw [shapeS, if_neg (by omega), if_neg (by omega), if_neg (fun hh => hh hq3), if_pos (fun hh => absurd (hh v (by omega) w (by omega)) (fun ho => absurd ho.2 (by omega)))]
         ·
          try simp only [decide_eq_true_eq, decide_eq_false_iff_not, Bool.not_eq_true', Bool.not_eq_false', beq_iff_eq, beq_eq_false_iff_ne, ne_eq] at h10
          refine at_skip rfl ?_
          refine blk_n ?_
          refine then_n ?_
          refine rg rfl ?_
          refine Rq ?_
          refine Rq ?_
          have tr : ∀ a b c d e f g h i j k m n o p q r s t u v w x y : AV, let l := lc_shape_ok a b c d e f g h i j k m n o p q r s t u v w; trim ((60,y)::(70,x)::l) l = [(0,a),(1,b),(2,c),(4,d),(6,e),(8,f),(9,g),(22,h),(36,i),(37,j),(38,k),(39,m),(49,n),(52,o),(53,p),(54,q),(55,r),(58,s),(59,t),(60,y),(61,v),(69,w)] := by intros; rfl
          refine R_nil (tr ..) ?_; clear tr
          refine then_n ?_
          exact ⟨_, _, ⟨w + 1, _, _, _, _, rfl, rfl, rfl, by omega, by exact all_step hs ⟨by omega, by omega⟩⟩, by rfl, by omega⟩
       ·
        try simp only [decide_eq_true_eq, decide_eq_false_iff_not, Bool.not_eq_true', Bool.not_eq_false', beq_iff_eq, beq_eq_false_iff_ne, ne_eq] at h8
        refine at_exit rfl ?_
        refine then_x ?_
        refine then_x ?_
        refine blk_x ?_
        refine blk_n ?_
        refine then_n ?_
        refine rg rfl ?_
        refine Rq ?_
        refine Rq ?_
        have tr : ∀ a b c d e f g h i j k m n o p q r s t u v w x y : AV, let l := lc_shape_ok a b c d e f g h i j k m n o p q r s t u v w; trim ((54,y)::(71,x)::l) l = [(0,a),(1,b),(2,c),(4,d),(6,e),(8,f),(9,g),(22,h),(36,i),(37,j),(38,k),(39,m),(49,n),(52,o),(53,p),(54,y),(55,r),(58,s),(59,t),(60,u),(61,v),(69,w)] := by intros; rfl
        refine R_nil (tr ..) ?_; clear tr
        refine then_n ?_
        exact ⟨_, _, ⟨v + 1, _, _, _, _, _, _, _, _, _, rfl, rfl, rfl, by omega, by exact all_step hr fun w hw => hs w (by omega)⟩, by rfl, by omega⟩
      ·
       try simp only [decide_eq_true_eq, decide_eq_false_iff_not, Bool.not_eq_true', Bool.not_eq_false', beq_iff_eq, beq_eq_false_iff_ne, ne_eq] at h7
       refine at_exit rfl ?_
       refine then_x ?_
       refine then_x ?_
       refine blk_x ?_
       refine then_n ?_
       refine at_seq rfl ?_
       refine rg rfl ?_
       refine Rq ?_
       have tr : ∀ a b c d e f g h i j k m n o p q r s t u v w x : AV, let l := lc_shape_ok a b c d e f g h i j k m n o p q r s t u v w; trim ((2,x)::l) l = [(0,a),(1,b),(2,x),(4,d),(6,e),(8,f),(9,g),(22,h),(36,i),(37,j),(38,k),(39,m),(49,n),(52,o),(53,p),(54,q),(55,r),(58,s),(59,t),(60,u),(61,v),(69,w)] := by intros; rfl
       refine R_nil (tr ..) ?_; clear tr
       refine then_n ?_
       refine at_ret rfl ?_
       refine fpure ?_
       refine ⟨?_, rfl⟩
       rw [shapeS, if_neg (by omega), if_neg (by omega), if_neg (fun hh => hh hq3), if_neg (fun hh => hh fun i hi => hr i (by omega))]

end Go.Proofs.Ytaoondlakhocnaa
