/-
  Texts of RainSplits, part 7 of 9. Walks of chapters 37, 39 and 40. The steps are written by program (walk.py).
-/
import Derived.Test.YtaoondlakhocnaaKRainSplits5
section
set_option linter.unusedSimpArgs false
set_option linter.unusedVariables false
set_option maxHeartbeats 40000000
set_option maxRecDepth 4000
namespace Go.Proofs.Ytaoondlakhocnaa
open Go Go.Am

abbrev lc_check_ok (a b c d e f g h i j k m n o p q r s t u v w x y z A B C D : AV) : Env := [(0,a),(1,b),(2,c),(3,d),(4,e),(5,f),(6,g),(7,h),(8,i),(9,j),(10,k),(11,m),(15,n),(20,o),(23,p),(24,q),(25,r),(26,s),(30,t),(31,u),(32,v),(33,w),(67,x),(74,y),(81,z),(82,A),(83,B),(84,C),(118,D)]
theorem check_ok (lim : Nat) (H : Heap) (rows : Tb) :
    ACall sig lim 55 [.agg [rowsAV rows]] H fun r H' => r = AV.i (checkS rows) ∧ H' = H := by
 refine ACall_pure (fa := fa55) rfl rfl rfl rfl ?_
 have tr : ∀ a0 : AV, env0 fa55.keep [a0] = [(0,a0),(1,.any),(2,.any),(3,.any),(4,.any),(5,.any),(6,.any),(7,.any),(8,.any),(9,.any),(10,.any),(11,.any),(15,.any),(20,.any),(23,.any),(24,.any),(25,.any),(26,.any),(30,.any),(31,.any),(32,.any),(33,.any),(67,.any),(74,.any),(81,.any),(82,.any),(83,.any),(84,.any),(118,.any)] := fun a0 => rfl
 refine W_to (tr _) ?_; clear tr
 refine at_seq rfl ?_
 refine rg rfl ?_
 refine R_box rfl (by simp (disch := first | omega | (simp only [List.length_map, List.length_append, List.length_set, List.length_cons, List.length_nil]; omega)) only [go_sem, ↓reduceIte, Nat.reduceEqDiff, reduceCtorEq] <;> rfl) rfl rfl ?_
 refine Rq ?_
 have tr : ∀ a b c d e f g h i j k m n o p q r s t u v w x y z A B C D E F : AV, let l := lc_check_ok a b c d e f g h i j k m n o p q r s t u v w x y z A B C D; trim ((2,F)::(1,E)::l) l = [(0,a),(1,E),(2,F),(3,d),(4,e),(5,f),(6,g),(7,h),(8,i),(9,j),(10,k),(11,m),(15,n),(20,o),(23,p),(24,q),(25,r),(26,s),(30,t),(31,u),(32,v),(33,w),(67,x),(74,y),(81,z),(82,A),(83,B),(84,C),(118,D)] := by intros; rfl
 refine R_nil (tr ..) ?_; clear tr
 refine then_n ?_
 refine at_seq rfl ?_
 refine at_seq rfl ?_
 refine rg rfl ?_
 refine Rq ?_
 refine Rcall ?_
 refine ACall_eq (shape_ok _ _ _) ?_
 refine Rq ?_
 have tr : ∀ a b c d e f g h i j k m n o p q r s t u v w x y z A B C D E F G : AV, let l := lc_check_ok a b c d e f g h i j k m n o p q r s t u v w x y z A B C D; trim ((3,G)::(13,F)::(12,E)::l) l = [(0,a),(1,b),(2,c),(3,G),(4,e),(5,f),(6,g),(7,h),(8,i),(9,j),(10,k),(11,m),(15,n),(20,o),(23,p),(24,q),(25,r),(26,s),(30,t),(31,u),(32,v),(33,w),(67,x),(74,y),(81,z),(82,A),(83,B),(84,C),(118,D)] := by intros; rfl
 refine R_nil (tr ..) ?_; clear tr
 refine then_n ?_
 refine at_seq rfl ?_
 refine rg rfl ?_
 refine Rq ?_
 refine Rq ?_
 have tr : ∀ a b c d e f g h i j k m n o p q r s t u v w x y z A B C D E F : AV, let l := lc_check_ok a b c d e f g h i j k m n o p q r s t u v w x y z A B C D; trim ((15,F)::(14,E)::l) l = [(0,a),(1,b),(2,c),(3,d),(4,e),(5,f),(6,g),(7,h),(8,i),(9,j),(10,k),(11,m),(15,F),(20,o),(23,p),(24,q),(25,r),(26,s),(30,t),(31,u),(32,v),(33,w),(67,x),(74,y),(81,z),(82,A),(83,B),(84,C),(118,D)] := by intros; rfl
 refine R_nil (tr ..) ?_; clear tr
 refine then_n ?_
 refine cdd (fun h1 => ?_) (fun h1 => ?_)
 ·
  try simp only [decide_eq_true_eq, decide_eq_false_iff_not, Bool.not_eq_true', Bool.not_eq_false', beq_iff_eq, beq_eq_false_iff_ne, ne_eq] at h1
  refine at_seq rfl ?_
  refine rg rfl ?_
  refine Rq ?_
  refine Rq ?_
  have tr : ∀ a b c d e f g h i j k m n o p q r s t u v w x y z A B C D E F : AV, let l := lc_check_ok a b c d e f g h i j k m n o p q r s t u v w x y z A B C D; trim ((2,F)::(16,E)::l) l = [(0,a),(1,b),(2,F),(3,d),(4,e),(5,f),(6,g),(7,h),(8,i),(9,j),(10,k),(11,m),(15,n),(20,o),(23,p),(24,q),(25,r),(26,s),(30,t),(31,u),(32,v),(33,w),(67,x),(74,y),(81,z),(82,A),(83,B),(84,C),(118,D)] := by intros; rfl
  refine R_nil (tr ..) ?_; clear tr
  refine then_n ?_
  refine at_ret rfl ?_
  refine then_r ?_
  refine fpure ?_
  refine ⟨?_, rfl⟩
  rw [checkS, if_pos h1]
 ·
  try simp only [decide_eq_true_eq, decide_eq_false_iff_not, Bool.not_eq_true', Bool.not_eq_false', beq_iff_eq, beq_eq_false_iff_ne, ne_eq] at h1
  refine at_skip rfl ?_
  refine then_n ?_
  refine at_seq rfl ?_
  refine at_seq rfl ?_
  refine rg rfl ?_
  refine Rq ?_
  refine Rcall ?_
  refine ACall_eq (ends_ok _ _ _ (shaped_of h1)) ?_
  refine Rq ?_
  have tr : ∀ a b c d e f g h i j k m n o p q r s t u v w x y z A B C D E F G : AV, let l := lc_check_ok a b c d e f g h i j k m n o p q r s t u v w x y z A B C D; trim ((4,G)::(18,F)::(17,E)::l) l = [(0,a),(1,b),(2,c),(3,d),(4,G),(5,f),(6,g),(7,h),(8,i),(9,j),(10,k),(11,m),(15,n),(20,o),(23,p),(24,q),(25,r),(26,s),(30,t),(31,u),(32,v),(33,w),(67,x),(74,y),(81,z),(82,A),(83,B),(84,C),(118,D)] := by intros; rfl
  refine R_nil (tr ..) ?_; clear tr
  refine then_n ?_
  refine at_seq rfl ?_
  refine rg rfl ?_
  refine Rq ?_
  refine Rq ?_
  have tr : ∀ a b c d e f g h i j k m n o p q r s t u v w x y z A B C D E F : AV, let l := lc_check_ok a b c d e f g h i j k m n o p q r s t u v w x y z A B C D; trim ((20,F)::(19,E)::l) l = [(0,a),(1,b),(2,c),(3,d),(4,e),(5,f),(6,g),(7,h),(8,i),(9,j),(10,k),(11,m),(15,n),(20,F),(23,p),(24,q),(25,r),(26,s),(30,t),(31,u),(32,v),(33,w),(67,x),(74,y),(81,z),(82,A),(83,B),(84,C),(118,D)] := by intros; rfl
  refine R_nil (tr ..) ?_; clear tr
  refine then_n ?_
  refine cdd (fun h2 => ?_) (fun h2 => ?_)
  ·
   try simp only [decide_eq_true_eq, decide_eq_false_iff_not, Bool.not_eq_true', Bool.not_eq_false', beq_iff_eq, beq_eq_false_iff_ne, ne_eq] at h2
   refine at_seq rfl ?_
   refine rg rfl ?_
   refine Rq ?_
   refine Rq ?_
   have tr : ∀ a b c d e f g h i j k m n o p q r s t u v w x y z A B C D E F : AV, let l := lc_check_ok a b c d e f g h i j k m n o p q r s t u v w x y z A B C D; trim ((2,F)::(21,E)::l) l = [(0,a),(1,b),(2,F),(3,d),(4,e),(5,f),(6,g),(7,h),(8,i),(9,j),(10,k),(11,m),(15,n),(20,o),(23,p),(24,q),(25,r),(26,s),(30,t),(31,u),(32,v),(33,w),(67,x),(74,y),(81,z),(82,A),(83,B),(84,C),(118,D)] := by intros; rfl
   refine R_nil (tr ..) ?_; clear tr
   refine then_n ?_
   refine at_ret rfl ?_
   refine then_r ?_
   refine fpure ?_
   refine ⟨?_, rfl⟩
   rw [checkS, if_neg (fun hh => hh h1), if_pos h2]
  ·
   try simp only [decide_eq_true_eq, decide_eq_false_iff_not, Bool.not_eq_true', Bool.not_eq_false', beq_iff_eq, beq_eq_false_iff_ne, ne_eq] at h2
   refine at_skip rfl ?_
   refine then_n ?_
   refine at_seq rfl ?_
   refine at_seq rfl ?_
   refine rg rfl ?_
   obtain ⟨g2, g91, g1, g10, gl, gr⟩ := shaped_of h1
   refine Rq ?_
   refine Rq ?_
   refine Rq ?_
   refine Rq ?_
   have tr : ∀ a b c d e f g h i j k m n o p q r s t u v w x y z A B C D E F G H : AV, let l := lc_check_ok a b c d e f g h i j k m n o p q r s t u v w x y z A B C D; trim ((25,H)::(24,G)::(23,F)::(22,E)::l) l = [(0,a),(1,b),(2,c),(3,d),(4,e),(5,f),(6,g),(7,h),(8,i),(9,j),(10,k),(11,m),(15,n),(20,o),(23,F),(24,G),(25,H),(26,s),(30,t),(31,u),(32,v),(33,w),(67,x),(74,y),(81,z),(82,A),(83,B),(84,C),(118,D)] := by intros; rfl
   refine R_nil (tr ..) ?_; clear tr
   refine then_n ?_
   refine at_block rfl ?_
   refine loop_n rfl (fun mm kv H' => ∃ u : Nat, ∃ x2 x5 x6 x7 x8 x26 x30 x31 x32 x33 x67 : AV, (kv = [(2, x2), (5, x5), (6, x6), (7, x7), (8, x8), (25, AV.i u), (26, x26), (30, x30), (31, x31), (32, x32), (33, x33), (67, x67)]) ∧ (mm = rows.length - u) ∧ (H' = H ++ [some [rowsAV rows]]) ∧ (u ≤ rows.length) ∧ (∀ i, i < u → ∀ w, w < (gt rows i).length → (0 < i → gt (gt rows (i - 1)) w ≤ gt (gt rows i) w) ∧ (w + 1 < (gt rows i).length → gt (gt rows i) (w + 1) ≤ gt (gt rows i) w))) ⟨0, _, _, _, _, _, _, _, _, _, _, _, rfl, rfl, rfl, by omega, by intro i hi; omega⟩ (by rfl) ?_
   rintro mm kv H' ⟨u, x2, x5, x6, x7, x8, x26, x30, x31, x32, x33, x67, rfl, rfl, rfl, hu, hq⟩
   have tr : ∀ a b c d e f g h i j k m n o p q r s t u v w x y z A B C D E F G H I J K L M N O P : AV, upd [(0,a),(1,b),(2,c),(3,d),(4,e),(5,f),(6,g),(7,h),(8,i),(9,j),(10,k),(11,m),(15,n),(20,o),(23,p),(24,q),(25,r),(26,s),(30,t),(31,u),(32,v),(33,w),(67,x),(74,y),(81,z),(82,A),(83,B),(84,C),(118,D)] [(2,E),(5,F),(6,G),(7,H),(8,I),(25,J),(26,K),(30,L),(31,M),(32,N),(33,O),(67,P)] = [(0,a),(1,b),(2,E),(3,d),(4,e),(5,F),(6,G),(7,H),(8,I),(9,j),(10,k),(11,m),(15,n),(20,o),(23,p),(24,q),(25,J),(26,K),(30,L),(31,M),(32,N),(33,O),(67,P),(74,y),(81,z),(82,A),(83,B),(84,C),(118,D)] := by intros; rfl
   refine W_to (tr ..) ?_; clear tr
   refine at_seq rfl ?_
   refine rg rfl ?_
   refine Rq ?_
   have tr : ∀ a b c d e f g h i j k m n o p q r s t u v w x y z A B C D E : AV, let l := lc_check_ok a b c d e f g h i j k m n o p q r s t u v w x y z A B C D; trim ((26,E)::l) l = [(0,a),(1,b),(2,c),(3,d),(4,e),(5,f),(6,g),(7,h),(8,i),(9,j),(10,k),(11,m),(15,n),(20,o),(23,p),(24,q),(25,r),(26,E),(30,t),(31,u),(32,v),(33,w),(67,x),(74,y),(81,z),(82,A),(83,B),(84,C),(118,D)] := by intros; rfl
   refine R_nil (tr ..) ?_; clear tr
   refine then_n ?_
   refine at_seq rfl ?_
   refine cdd (fun h3 => ?_) (fun h3 => ?_)
   ·
    try simp only [decide_eq_true_eq, decide_eq_false_iff_not, Bool.not_eq_true', Bool.not_eq_false', beq_iff_eq, beq_eq_false_iff_ne, ne_eq] at h3
    refine at_skip rfl ?_
    refine then_n ?_
    refine at_seq rfl ?_
    refine at_block rfl ?_
    refine at_seq rfl ?_
    refine rg rfl ?_
    refine Rq ?_
    refine Rq ?_
    refine Rq ?_
    refine Rq ?_
    refine Rq ?_
    have tr : ∀ a b c d e f g h i j k m n o p q r s t u v w x y z A B C D E F G H I : AV, let l := lc_check_ok a b c d e f g h i j k m n o p q r s t u v w x y z A B C D; trim ((6,I)::(5,H)::(29,G)::(28,F)::(27,E)::l) l = [(0,a),(1,b),(2,c),(3,d),(4,e),(5,H),(6,I),(7,h),(8,i),(9,j),(10,k),(11,m),(15,n),(20,o),(23,p),(24,q),(25,r),(26,s),(30,t),(31,u),(32,v),(33,w),(67,x),(74,y),(81,z),(82,A),(83,B),(84,C),(118,D)] := by intros; rfl
    refine R_nil (tr ..) ?_; clear tr
    refine then_n ?_
    refine at_seq rfl ?_
    refine rg rfl ?_
    have hlu := gl u (by omega)
    have hlu1 := gl (u - 1) (by omega)
    refine Rq ?_
    refine Rq ?_
    refine Rq ?_
    have tr : ∀ a b c d e f g h i j k m n o p q r s t u v w x y z A B C D E F G : AV, let l := lc_check_ok a b c d e f g h i j k m n o p q r s t u v w x y z A B C D; trim ((32,G)::(31,F)::(30,E)::l) l = [(0,a),(1,b),(2,c),(3,d),(4,e),(5,f),(6,g),(7,h),(8,i),(9,j),(10,k),(11,m),(15,n),(20,o),(23,p),(24,q),(25,r),(26,s),(30,E),(31,F),(32,G),(33,w),(67,x),(74,y),(81,z),(82,A),(83,B),(84,C),(118,D)] := by intros; rfl
    refine R_nil (tr ..) ?_; clear tr
    refine then_n ?_
    refine at_block rfl ?_
    refine loop_n rfl (fun mm kv H' => ∃ w : Nat, ∃ x2 x7 x8 x33 x67 : AV, (kv = [(2, x2), (7, x7), (8, x8), (32, AV.i w), (33, x33), (67, x67)]) ∧ (mm = (gt rows u).length - w) ∧ (H' = H ++ [some [rowsAV rows]]) ∧ (w ≤ (gt rows u).length) ∧ (∀ j, j < w → (0 < u → gt (gt rows (u - 1)) j ≤ gt (gt rows u) j) ∧ (j + 1 < (gt rows u).length → gt (gt rows u) (j + 1) ≤ gt (gt rows u) j))) ⟨0, _, _, _, _, _, rfl, rfl, rfl, by omega, by intro i hi; omega⟩ (by rfl) ?_
    rintro mm kv H' ⟨w, x2, x7, x8, x33, x67, rfl, rfl, rfl, hw, hs⟩
    have tr : ∀ a b c d e f g h i j k m n o p q r s t u v w x y z A B C D E F G H I J : AV, upd [(0,a),(1,b),(2,c),(3,d),(4,e),(5,f),(6,g),(7,h),(8,i),(9,j),(10,k),(11,m),(15,n),(20,o),(23,p),(24,q),(25,r),(26,s),(30,t),(31,u),(32,v),(33,w),(67,x),(74,y),(81,z),(82,A),(83,B),(84,C),(118,D)] [(2,E),(7,F),(8,G),(32,H),(33,I),(67,J)] = [(0,a),(1,b),(2,E),(3,d),(4,e),(5,f),(6,g),(7,F),(8,G),(9,j),(10,k),(11,m),(15,n),(20,o),(23,p),(24,q),(25,r),(26,s),(30,t),(31,u),(32,H),(33,I),(67,J),(74,y),(81,z),(82,A),(83,B),(84,C),(118,D)] := by intros; rfl
    refine W_to (tr ..) ?_; clear tr
    refine at_seq rfl ?_
    refine rg rfl ?_
    refine Rq ?_
    have tr : ∀ a b c d e f g h i j k m n o p q r s t u v w x y z A B C D E : AV, let l := lc_check_ok a b c d e f g h i j k m n o p q r s t u v w x y z A B C D; trim ((33,E)::l) l = [(0,a),(1,b),(2,c),(3,d),(4,e),(5,f),(6,g),(7,h),(8,i),(9,j),(10,k),(11,m),(15,n),(20,o),(23,p),(24,q),(25,r),(26,s),(30,t),(31,u),(32,v),(33,E),(67,x),(74,y),(81,z),(82,A),(83,B),(84,C),(118,D)] := by intros; rfl
    refine R_nil (tr ..) ?_; clear tr
    refine then_n ?_
    refine at_seq rfl ?_
    refine cdd (fun h4 => ?_) (fun h4 => ?_)
    ·
     try simp only [decide_eq_true_eq, decide_eq_false_iff_not, Bool.not_eq_true', Bool.not_eq_false', beq_iff_eq, beq_eq_false_iff_ne, ne_eq] at h4
     refine at_skip rfl ?_
     refine then_n ?_
     refine at_seq rfl ?_
     refine at_block rfl ?_
     refine at_seq rfl ?_
     refine rg rfl ?_
     refine Rq ?_
     refine Rq ?_
     refine Rq ?_
     refine Rq ?_
     refine Rq ?_
     have tr : ∀ a b c d e f g h i j k m n o p q r s t u v w x y z A B C D E F G H I : AV, let l := lc_check_ok a b c d e f g h i j k m n o p q r s t u v w x y z A B C D; trim ((8,I)::(7,H)::(36,G)::(35,F)::(34,E)::l) l = [(0,a),(1,b),(2,c),(3,d),(4,e),(5,f),(6,g),(7,H),(8,I),(9,j),(10,k),(11,m),(15,n),(20,o),(23,p),(24,q),(25,r),(26,s),(30,t),(31,u),(32,v),(33,w),(67,x),(74,y),(81,z),(82,A),(83,B),(84,C),(118,D)] := by intros; rfl
     refine R_nil (tr ..) ?_; clear tr
     refine then_n ?_
     refine at_seq rfl ?_
     refine rg rfl ?_
     refine Rq ?_
     refine Rq ?_
     refine Rq ?_
     refine Rp_split (fun h5 => ?_) (fun h5 => ?_)
     ·
      try simp only [decide_eq_true_eq, decide_eq_false_iff_not, Bool.not_eq_true', Bool.not_eq_false', beq_iff_eq, beq_eq_false_iff_ne, ne_eq] at h5
      refine Ry ?_
      refine Rq ?_
      refine Ry ?_
      refine Rq ?_
      refine Ry ?_
      refine Rq ?_
      refine Ry ?_
      refine Rq ?_
      refine Ry ?_
      refine Rq ?_
      refine Ry ?_
      refine Rq ?_
      refine Ry ?_
      refine Rq ?_
      refine Ry ?_
      refine Rq ?_
      refine Ry ?_
      refine Rq ?_
      refine Ry ?_
      refine Rq ?_
      refine Ry ?_
      refine Rq ?_
      refine Rq ?_
      refine Rq ?_
      refine Rp_split (fun h6 => ?_) (fun h6 => ?_)
      ·
       try simp only [decide_eq_true_eq, decide_eq_false_iff_not, Bool.not_eq_true', Bool.not_eq_false', beq_iff_eq, beq_eq_false_iff_ne, ne_eq] at h6
       refine Rn ?_
       refine Rn ?_
       refine Rn ?_
       refine Rn ?_
       refine Rn ?_
       refine Rn ?_
       refine Ru ?_
       refine Ru ?_
       refine Ru ?_
       refine Ru ?_
       refine Ru ?_
       refine Ru ?_
       refine Ru ?_
       refine Rn ?_
       refine Rq ?_
       have tr : ∀ a b c d e f g h i j k m n o p q r s t u v w x y z A B C D E F G H I J K L M N O P Q R S T U V W X Y Z a1 b1 c1 d1 e1 f1 g1 h1 i1 : AV, let l := lc_check_ok a b c d e f g h i j k m n o p q r s t u v w x y z A B C D; trim ((67,i1)::(66,h1)::(65,g1)::(64,f1)::(63,e1)::(62,d1)::(61,c1)::(60,b1)::(59,a1)::(58,Z)::(57,Y)::(56,X)::(55,W)::(54,V)::(53,U)::(52,T)::(51,S)::(50,R)::(49,Q)::(48,P)::(47,O)::(46,N)::(45,M)::(44,L)::(43,K)::(42,J)::(41,I)::(40,H)::(39,G)::(38,F)::(37,E)::l) l = [(0,a),(1,b),(2,c),(3,d),(4,e),(5,f),(6,g),(7,h),(8,i),(9,j),(10,k),(11,m),(15,n),(20,o),(23,p),(24,q),(25,r),(26,s),(30,t),(31,u),(32,v),(33,w),(67,i1),(74,y),(81,z),(82,A),(83,B),(84,C),(118,D)] := by intros; rfl
       refine R_nil (tr ..) ?_; clear tr
       refine then_n ?_
       refine cdt ?_
       refine at_seq rfl ?_
       refine rg rfl ?_
       refine Rq ?_
       have tr : ∀ a b c d e f g h i j k m n o p q r s t u v w x y z A B C D E : AV, let l := lc_check_ok a b c d e f g h i j k m n o p q r s t u v w x y z A B C D; trim ((2,E)::l) l = [(0,a),(1,b),(2,E),(3,d),(4,e),(5,f),(6,g),(7,h),(8,i),(9,j),(10,k),(11,m),(15,n),(20,o),(23,p),(24,q),(25,r),(26,s),(30,t),(31,u),(32,v),(33,w),(67,x),(74,y),(81,z),(82,A),(83,B),(84,C),(118,D)] := by intros; rfl
       refine R_nil (tr ..) ?_; clear tr
       refine then_n ?_
       refine at_ret rfl ?_
       refine blk_r ?_
       refine then_r ?_
       refine then_r ?_
       refine blk_r ?_
       refine blk_r ?_
       refine then_r ?_
       refine then_r ?_
       refine blk_r ?_
       refine then_r ?_
       refine fpure ?_
       refine ⟨?_, rfl⟩
       rw [checkS, if_neg (fun hh => hh h1), if_neg (fun hh => hh h2), if_pos (fun hh => absurd ((hh u (by omega) w (by omega)).1 (by omega)) (by omega))]
      ·
       try simp only [decide_eq_true_eq, decide_eq_false_iff_not, Bool.not_eq_true', Bool.not_eq_false', beq_iff_eq, beq_eq_false_iff_ne, ne_eq] at h6
       refine Ry ?_
       refine Rq ?_
       refine Ry ?_
       refine Rq ?_
       refine Ry ?_
       refine Rq ?_
       refine Ry ?_
       refine Rq ?_
       refine Ry ?_
       refine Rq ?_
       refine Ry ?_
       refine Rq ?_
       refine Rp_split (fun h7 => ?_) (fun h7 => ?_)
       ·
        try simp only [decide_eq_true_eq, decide_eq_false_iff_not, Bool.not_eq_true', Bool.not_eq_false', beq_iff_eq, beq_eq_false_iff_ne, ne_eq] at h7
        refine Ry ?_
        refine Rq ?_
        refine Ry ?_
        refine Rq ?_
        refine Ry ?_
        refine Rq ?_
        refine Ry ?_
        refine Rq ?_
        refine Ry ?_
        refine Rq ?_
        refine Ry ?_
        refine Rq ?_
        refine Ry ?_
        refine Rq ?_
        refine Ry ?_
        refine Rq ?_
        refine Rq ?_
        have tr : ∀ a b c d e f g h i j k m n o p q r s t u v w x y z A B C D E F G H I J K L M N O P Q R S T U V W X Y Z a1 b1 c1 d1 e1 f1 g1 h1 i1 : AV, let l := lc_check_ok a b c d e f g h i j k m n o p q r s t u v w x y z A B C D; trim ((67,i1)::(66,h1)::(65,g1)::(64,f1)::(63,e1)::(62,d1)::(61,c1)::(60,b1)::(59,a1)::(58,Z)::(57,Y)::(56,X)::(55,W)::(54,V)::(53,U)::(52,T)::(51,S)::(50,R)::(49,Q)::(48,P)::(47,O)::(46,N)::(45,M)::(44,L)::(43,K)::(42,J)::(41,I)::(40,H)::(39,G)::(38,F)::(37,E)::l) l = [(0,a),(1,b),(2,c),(3,d),(4,e),(5,f),(6,g),(7,h),(8,i),(9,j),(10,k),(11,m),(15,n),(20,o),(23,p),(24,q),(25,r),(26,s),(30,t),(31,u),(32,v),(33,w),(67,i1),(74,y),(81,z),(82,A),(83,B),(84,C),(118,D)] := by intros; rfl
        refine R_nil (tr ..) ?_; clear tr
        refine then_n ?_
        refine cdd (fun h8 => ?_) (fun h8 => ?_)
        ·
         try simp only [decide_eq_true_eq, decide_eq_false_iff_not, Bool.not_eq_true', Bool.not_eq_false', beq_iff_eq, beq_eq_false_iff_ne, ne_eq] at h8
         refine at_seq rfl ?_
         refine rg rfl ?_
         refine Rq ?_
         have tr : ∀ a b c d e f g h i j k m n o p q r s t u v w x y z A B C D E : AV, let l := lc_check_ok a b c d e f g h i j k m n o p q r s t u v w x y z A B C D; trim ((2,E)::l) l = [(0,a),(1,b),(2,E),(3,d),(4,e),(5,f),(6,g),(7,h),(8,i),(9,j),(10,k),(11,m),(15,n),(20,o),(23,p),(24,q),(25,r),(26,s),(30,t),(31,u),(32,v),(33,w),(67,x),(74,y),(81,z),(82,A),(83,B),(84,C),(118,D)] := by intros; rfl
         refine R_nil (tr ..) ?_; clear tr
         refine then_n ?_
         refine at_ret rfl ?_
         refine blk_r ?_
         refine then_r ?_
         refine then_r ?_
         refine blk_r ?_
         refine blk_r ?_
         refine then_r ?_
         refine then_r ?_
         refine blk_r ?_
         refine then_r ?_
         refine fpure ?_
         refine ⟨?_, rfl⟩
         rw [checkS, if_neg (fun hh => hh h1), if_neg (fun hh => hh h2), if_pos (fun hh => absurd ((hh u (by omega) w (by omega)).2 (by omega)) (by omega))]
        ·
         try simp only [decide_eq_true_eq, decide_eq_false_iff_not, Bool.not_eq_true', Bool.not_eq_false', beq_iff_eq, beq_eq_false_iff_ne, ne_eq] at h8
         refine at_skip rfl ?_
         refine blk_n ?_
         refine then_n ?_
         refine rg rfl ?_
         refine Rq ?_
         refine Rq ?_
         have tr : ∀ a b c d e f g h i j k m n o p q r s t u v w x y z A B C D E F : AV, let l := lc_check_ok a b c d e f g h i j k m n o p q r s t u v w x y z A B C D; trim ((32,F)::(68,E)::l) l = [(0,a),(1,b),(2,c),(3,d),(4,e),(5,f),(6,g),(7,h),(8,i),(9,j),(10,k),(11,m),(15,n),(20,o),(23,p),(24,q),(25,r),(26,s),(30,t),(31,u),(32,F),(33,w),(67,x),(74,y),(81,z),(82,A),(83,B),(84,C),(118,D)] := by intros; rfl
         refine R_nil (tr ..) ?_; clear tr
         refine then_n ?_
         exact ⟨_, _, ⟨w + 1, _, _, _, _, _, rfl, rfl, rfl, by omega, by exact all_step hs ⟨fun _ => by omega, fun _ => by omega⟩⟩, by rfl, by omega⟩
       ·
        try simp only [decide_eq_true_eq, decide_eq_false_iff_not, Bool.not_eq_true', Bool.not_eq_false', beq_iff_eq, beq_eq_false_iff_ne, ne_eq] at h7
        refine Rn ?_
        refine Rn ?_
        refine Rn ?_
        refine Rn ?_
        refine Rn ?_
        refine Rn ?_
        refine Rn ?_
        refine Ry ?_
        refine Rq ?_
        refine Rq ?_
        have tr : ∀ a b c d e f g h i j k m n o p q r s t u v w x y z A B C D E F G H I J K L M N O P Q R S T U V W X Y Z a1 b1 c1 d1 e1 f1 g1 h1 i1 : AV, let l := lc_check_ok a b c d e f g h i j k m n o p q r s t u v w x y z A B C D; trim ((67,i1)::(66,h1)::(65,g1)::(64,f1)::(63,e1)::(62,d1)::(61,c1)::(60,b1)::(59,a1)::(58,Z)::(57,Y)::(56,X)::(55,W)::(54,V)::(53,U)::(52,T)::(51,S)::(50,R)::(49,Q)::(48,P)::(47,O)::(46,N)::(45,M)::(44,L)::(43,K)::(42,J)::(41,I)::(40,H)::(39,G)::(38,F)::(37,E)::l) l = [(0,a),(1,b),(2,c),(3,d),(4,e),(5,f),(6,g),(7,h),(8,i),(9,j),(10,k),(11,m),(15,n),(20,o),(23,p),(24,q),(25,r),(26,s),(30,t),(31,u),(32,v),(33,w),(67,i1),(74,y),(81,z),(82,A),(83,B),(84,C),(118,D)] := by intros; rfl
        refine R_nil (tr ..) ?_; clear tr
        refine then_n ?_
        refine cdf ?_
        refine at_skip rfl ?_
        refine blk_n ?_
        refine then_n ?_
        refine rg rfl ?_
        refine Rq ?_
        refine Rq ?_
        have tr : ∀ a b c d e f g h i j k m n o p q r s t u v w x y z A B C D E F : AV, let l := lc_check_ok a b c d e f g h i j k m n o p q r s t u v w x y z A B C D; trim ((32,F)::(68,E)::l) l = [(0,a),(1,b),(2,c),(3,d),(4,e),(5,f),(6,g),(7,h),(8,i),(9,j),(10,k),(11,m),(15,n),(20,o),(23,p),(24,q),(25,r),(26,s),(30,t),(31,u),(32,F),(33,w),(67,x),(74,y),(81,z),(82,A),(83,B),(84,C),(118,D)] := by intros; rfl
        refine R_nil (tr ..) ?_; clear tr
        refine then_n ?_
        exact ⟨_, _, ⟨w + 1, _, _, _, _, _, rfl, rfl, rfl, by omega, by exact all_step hs ⟨fun _ => by omega, fun _ => by omega⟩⟩, by rfl, by omega⟩
     ·
      try simp only [decide_eq_true_eq, decide_eq_false_iff_not, Bool.not_eq_true', Bool.not_eq_false', beq_iff_eq, beq_eq_false_iff_ne, ne_eq] at h5
      refine Rn ?_
      refine Rn ?_
      refine Rn ?_
      refine Rn ?_
      refine Rn ?_
      refine Rn ?_
      refine Rn ?_
      refine Rn ?_
      refine Rn ?_
      refine Rn ?_
      refine Rn ?_
      refine Rq ?_
      refine Rq ?_
      refine Ry ?_
      refine Rq ?_
      refine Ry ?_
      refine Rq ?_
      refine Ry ?_
      refine Rq ?_
      refine Ry ?_
      refine Rq ?_
      refine Ry ?_
      refine Rq ?_
      refine Ry ?_
      refine Rq ?_
      refine Rp_split (fun h9 => ?_) (fun h9 => ?_)
      ·
       try simp only [decide_eq_true_eq, decide_eq_false_iff_not, Bool.not_eq_true', Bool.not_eq_false', beq_iff_eq, beq_eq_false_iff_ne, ne_eq] at h9
       refine Ry ?_
       refine Rq ?_
       refine Ry ?_
       refine Rq ?_
       refine Ry ?_
       refine Rq ?_
       refine Ry ?_
       refine Rq ?_
       refine Ry ?_
       refine Rq ?_
       refine Ry ?_
       refine Rq ?_
       refine Ry ?_
       refine Rq ?_
       refine Ry ?_
       refine Rq ?_
       refine Rq ?_
       have tr : ∀ a b c d e f g h i j k m n o p q r s t u v w x y z A B C D E F G H I J K L M N O P Q R S T U V W X Y Z a1 b1 c1 d1 e1 f1 g1 h1 i1 : AV, let l := lc_check_ok a b c d e f g h i j k m n o p q r s t u v w x y z A B C D; trim ((67,i1)::(66,h1)::(65,g1)::(64,f1)::(63,e1)::(62,d1)::(61,c1)::(60,b1)::(59,a1)::(58,Z)::(57,Y)::(56,X)::(55,W)::(54,V)::(53,U)::(52,T)::(51,S)::(50,R)::(49,Q)::(48,P)::(47,O)::(46,N)::(45,M)::(44,L)::(43,K)::(42,J)::(41,I)::(40,H)::(39,G)::(38,F)::(37,E)::l) l = [(0,a),(1,b),(2,c),(3,d),(4,e),(5,f),(6,g),(7,h),(8,i),(9,j),(10,k),(11,m),(15,n),(20,o),(23,p),(24,q),(25,r),(26,s),(30,t),(31,u),(32,v),(33,w),(67,i1),(74,y),(81,z),(82,A),(83,B),(84,C),(118,D)] := by intros; rfl
       refine R_nil (tr ..) ?_; clear tr
       refine then_n ?_
       refine cdd (fun h10 => ?_) (fun h10 => ?_)
       ·
        try simp only [decide_eq_true_eq, decide_eq_false_iff_not, Bool.not_eq_true', Bool.not_eq_false', beq_iff_eq, beq_eq_false_iff_ne, ne_eq] at h10
        refine at_seq rfl ?_
        refine rg rfl ?_
        refine Rq ?_
        have tr : ∀ a b c d e f g h i j k m n o p q r s t u v w x y z A B C D E : AV, let l := lc_check_ok a b c d e f g h i j k m n o p q r s t u v w x y z A B C D; trim ((2,E)::l) l = [(0,a),(1,b),(2,E),(3,d),(4,e),(5,f),(6,g),(7,h),(8,i),(9,j),(10,k),(11,m),(15,n),(20,o),(23,p),(24,q),(25,r),(26,s),(30,t),(31,u),(32,v),(33,w),(67,x),(74,y),(81,z),(82,A),(83,B),(84,C),(118,D)] := by intros; rfl
        refine R_nil (tr ..) ?_; clear tr
        refine then_n ?_
        refine at_ret rfl ?_
        refine blk_r ?_
        refine then_r ?_
        refine then_r ?_
        refine blk_r ?_
        refine blk_r ?_
        refine then_r ?_
        refine then_r ?_
        refine blk_r ?_
        refine then_r ?_
        refine fpure ?_
        refine ⟨?_, rfl⟩
        rw [checkS, if_neg (fun hh => hh h1), if_neg (fun hh => hh h2), if_pos (fun hh => absurd ((hh u (by omega) w (by omega)).2 (by omega)) (by omega))]
       ·
        try simp only [decide_eq_true_eq, decide_eq_false_iff_not, Bool.not_eq_true', Bool.not_eq_false', beq_iff_eq, beq_eq_false_iff_ne, ne_eq] at h10
        refine at_skip rfl ?_
        refine blk_n ?_
        refine then_n ?_
        refine rg rfl ?_
        refine Rq ?_
        refine Rq ?_
        have tr : ∀ a b c d e f g h i j k m n o p q r s t u v w x y z A B C D E F : AV, let l := lc_check_ok a b c d e f g h i j k m n o p q r s t u v w x y z A B C D; trim ((32,F)::(68,E)::l) l = [(0,a),(1,b),(2,c),(3,d),(4,e),(5,f),(6,g),(7,h),(8,i),(9,j),(10,k),(11,m),(15,n),(20,o),(23,p),(24,q),(25,r),(26,s),(30,t),(31,u),(32,F),(33,w),(67,x),(74,y),(81,z),(82,A),(83,B),(84,C),(118,D)] := by intros; rfl
        refine R_nil (tr ..) ?_; clear tr
        refine then_n ?_
        exact ⟨_, _, ⟨w + 1, _, _, _, _, _, rfl, rfl, rfl, by omega, by exact all_step hs ⟨fun _ => by omega, fun _ => by omega⟩⟩, by rfl, by omega⟩
      ·
       try simp only [decide_eq_true_eq, decide_eq_false_iff_not, Bool.not_eq_true', Bool.not_eq_false', beq_iff_eq, beq_eq_false_iff_ne, ne_eq] at h9
       refine Rn ?_
       refine Rn ?_
       refine Rn ?_
       refine Rn ?_
       refine Rn ?_
       refine Rn ?_
       refine Rn ?_
       refine Ry ?_
       refine Rq ?_
       refine Rq ?_
       have tr : ∀ a b c d e f g h i j k m n o p q r s t u v w x y z A B C D E F G H I J K L M N O P Q R S T U V W X Y Z a1 b1 c1 d1 e1 f1 g1 h1 i1 : AV, let l := lc_check_ok a b c d e f g h i j k m n o p q r s t u v w x y z A B C D; trim ((67,i1)::(66,h1)::(65,g1)::(64,f1)::(63,e1)::(62,d1)::(61,c1)::(60,b1)::(59,a1)::(58,Z)::(57,Y)::(56,X)::(55,W)::(54,V)::(53,U)::(52,T)::(51,S)::(50,R)::(49,Q)::(48,P)::(47,O)::(46,N)::(45,M)::(44,L)::(43,K)::(42,J)::(41,I)::(40,H)::(39,G)::(38,F)::(37,E)::l) l = [(0,a),(1,b),(2,c),(3,d),(4,e),(5,f),(6,g),(7,h),(8,i),(9,j),(10,k),(11,m),(15,n),(20,o),(23,p),(24,q),(25,r),(26,s),(30,t),(31,u),(32,v),(33,w),(67,i1),(74,y),(81,z),(82,A),(83,B),(84,C),(118,D)] := by intros; rfl
       refine R_nil (tr ..) ?_; clear tr
       refine then_n ?_
       refine cdf ?_
       refine at_skip rfl ?_
       refine blk_n ?_
       refine then_n ?_
       refine rg rfl ?_
       refine Rq ?_
       refine Rq ?_
       have tr : ∀ a b c d e f g h i j k m n o p q r s t u v w x y z A B C D E F : AV, let l := lc_check_ok a b c d e f g h i j k m n o p q r s t u v w x y z A B C D; trim ((32,F)::(68,E)::l) l = [(0,a),(1,b),(2,c),(3,d),(4,e),(5,f),(6,g),(7,h),(8,i),(9,j),(10,k),(11,m),(15,n),(20,o),(23,p),(24,q),(25,r),(26,s),(30,t),(31,u),(32,F),(33,w),(67,x),(74,y),(81,z),(82,A),(83,B),(84,C),(118,D)] := by intros; rfl
       refine R_nil (tr ..) ?_; clear tr
       refine then_n ?_
       exact ⟨_, _, ⟨w + 1, _, _, _, _, _, rfl, rfl, rfl, by omega, by exact all_step hs ⟨fun _ => by omega, fun _ => by omega⟩⟩, by rfl, by omega⟩
    ·
     try simp only [decide_eq_true_eq, decide_eq_false_iff_not, Bool.not_eq_true', Bool.not_eq_false', beq_iff_eq, beq_eq_false_iff_ne, ne_eq] at h4
     refine at_exit rfl ?_
     refine then_x ?_
     refine then_x ?_
     refine blk_x ?_
     refine blk_n ?_
     refine then_n ?_
     refine rg rfl ?_
     refine Rq ?_
     refine Rq ?_
     have tr : ∀ a b c d e f g h i j k m n o p q r s t u v w x y z A B C D E F : AV, let l := lc_check_ok a b c d e f g h i j k m n o p q r s t u v w x y z A B C D; trim ((25,F)::(69,E)::l) l = [(0,a),(1,b),(2,c),(3,d),(4,e),(5,f),(6,g),(7,h),(8,i),(9,j),(10,k),(11,m),(15,n),(20,o),(23,p),(24,q),(25,F),(26,s),(30,t),(31,u),(32,v),(33,w),(67,x),(74,y),(81,z),(82,A),(83,B),(84,C),(118,D)] := by intros; rfl
     refine R_nil (tr ..) ?_; clear tr
     refine then_n ?_
     exact ⟨_, _, ⟨u + 1, _, _, _, _, _, _, _, _, _, _, _, rfl, rfl, rfl, by omega, by exact all_step hq fun w hw => hs w (by omega)⟩, by rfl, by omega⟩
   ·
    try simp only [decide_eq_true_eq, decide_eq_false_iff_not, Bool.not_eq_true', Bool.not_eq_false', beq_iff_eq, beq_eq_false_iff_ne, ne_eq] at h3
    refine at_exit rfl ?_
    refine then_x ?_
    refine then_x ?_
    refine blk_x ?_
    refine then_n ?_
    refine at_seq rfl ?_
    refine at_seq rfl ?_
    refine rg rfl ?_
    have hdn : Down rows := fun i hi w hw => hq i (by omega) w hw
    refine Rq ?_
    have tr : ∀ a b c d e f g h i j k m n o p q r s t u v w x y z A B C D E : AV, let l := lc_check_ok a b c d e f g h i j k m n o p q r s t u v w x y z A B C D; trim ((9,E)::l) l = [(0,a),(1,b),(2,c),(3,d),(4,e),(5,f),(6,g),(7,h),(8,i),(9,E),(10,k),(11,m),(15,n),(20,o),(23,p),(24,q),(25,r),(26,s),(30,t),(31,u),(32,v),(33,w),(67,x),(74,y),(81,z),(82,A),(83,B),(84,C),(118,D)] := by intros; rfl
    refine R_nil (tr ..) ?_; clear tr
    refine then_n ?_
    refine at_block rfl ?_
    refine loop_n rfl (fun mm kv H' => ∃ v : Nat, ∃ x2 x10 x11 x74 x81 x82 x83 x84 x118 : AV, (kv = [(2, x2), (9, AV.i v), (10, x10), (11, x11), (74, x74), (81, x81), (82, x82), (83, x83), (84, x84), (118, x118)]) ∧ (mm = rows.length - v) ∧ (H' = H ++ [some [rowsAV rows]]) ∧ (2 ≤ v) ∧ (v ≤ rows.length) ∧ (∀ i, i < v → 2 ≤ i → ∀ w, w < (gt rows i).length → gt (gt rows i) w - gt (gt rows (i - 1)) w ≤ gt (gt rows (i - 1)) w - gt (gt rows (i - 2)) w)) ⟨2, _, _, _, _, _, _, _, _, _, rfl, rfl, rfl, by omega, by omega, by intro i hi; omega⟩ (by rfl) ?_
    rintro mm kv H' ⟨v, x2, x10, x11, x74, x81, x82, x83, x84, x118, rfl, rfl, rfl, h2v, hv, hc⟩
    have tr : ∀ a b c d e f g h i j k m n o p q r s t u v w x y z A B C D E F G H I J K L M N : AV, upd [(0,a),(1,b),(2,c),(3,d),(4,e),(5,f),(6,g),(7,h),(8,i),(9,j),(10,k),(11,m),(15,n),(20,o),(23,p),(24,q),(25,r),(26,s),(30,t),(31,u),(32,v),(33,w),(67,x),(74,y),(81,z),(82,A),(83,B),(84,C),(118,D)] [(2,E),(9,F),(10,G),(11,H),(74,I),(81,J),(82,K),(83,L),(84,M),(118,N)] = [(0,a),(1,b),(2,E),(3,d),(4,e),(5,f),(6,g),(7,h),(8,i),(9,F),(10,G),(11,H),(15,n),(20,o),(23,p),(24,q),(25,r),(26,s),(30,t),(31,u),(32,v),(33,w),(67,x),(74,I),(81,J),(82,K),(83,L),(84,M),(118,N)] := by intros; rfl
    refine W_to (tr ..) ?_; clear tr
    refine at_seq rfl ?_
    refine at_seq rfl ?_
    refine rg rfl ?_
    refine Rq ?_
    refine Rq ?_
    refine Rq ?_
    refine Rq ?_
    refine Rq ?_
    have tr : ∀ a b c d e f g h i j k m n o p q r s t u v w x y z A B C D E F G H I : AV, let l := lc_check_ok a b c d e f g h i j k m n o p q r s t u v w x y z A B C D; trim ((74,I)::(73,H)::(72,G)::(71,F)::(70,E)::l) l = [(0,a),(1,b),(2,c),(3,d),(4,e),(5,f),(6,g),(7,h),(8,i),(9,j),(10,k),(11,m),(15,n),(20,o),(23,p),(24,q),(25,r),(26,s),(30,t),(31,u),(32,v),(33,w),(67,x),(74,I),(81,z),(82,A),(83,B),(84,C),(118,D)] := by intros; rfl
    refine R_nil (tr ..) ?_; clear tr
    refine then_n ?_
    refine cdd (fun h11 => ?_) (fun h11 => ?_)
    ·
     try simp only [decide_eq_true_eq, decide_eq_false_iff_not, Bool.not_eq_true', Bool.not_eq_false', beq_iff_eq, beq_eq_false_iff_ne, ne_eq] at h11
     refine at_skip rfl ?_
     refine then_n ?_
     refine at_seq rfl ?_
     refine at_block rfl ?_
     refine at_seq rfl ?_
     refine rg rfl ?_
     have hlv := gl v (by omega)
     have hlv1 := gl (v - 1) (by omega)
     have hlv2 := gl (v - 2) (by omega)
     refine Rq ?_
     refine Rq ?_
     refine Rq ?_
     refine Rq ?_
     refine Rq ?_
     refine Rq ?_
     refine Rq ?_
     have tr : ∀ a b c d e f g h i j k m n o p q r s t u v w x y z A B C D E F G H I J K : AV, let l := lc_check_ok a b c d e f g h i j k m n o p q r s t u v w x y z A B C D; trim ((83,K)::(82,J)::(81,I)::(80,H)::(79,G)::(78,F)::(77,E)::l) l = [(0,a),(1,b),(2,c),(3,d),(4,e),(5,f),(6,g),(7,h),(8,i),(9,j),(10,k),(11,m),(15,n),(20,o),(23,p),(24,q),(25,r),(26,s),(30,t),(31,u),(32,v),(33,w),(67,x),(74,y),(81,I),(82,J),(83,K),(84,C),(118,D)] := by intros; rfl
     refine R_nil (tr ..) ?_; clear tr
     refine then_n ?_
     refine at_block rfl ?_
     refine loop_n rfl (fun mm kv H' => ∃ w : Nat, ∃ x2 x10 x11 x84 x118 : AV, (kv = [(2, x2), (10, x10), (11, x11), (83, AV.i w), (84, x84), (118, x118)]) ∧ (mm = (gt rows v).length - w) ∧ (H' = H ++ [some [rowsAV rows]]) ∧ (w ≤ (gt rows v).length) ∧ (∀ j, j < w → gt (gt rows v) j - gt (gt rows (v - 1)) j ≤ gt (gt rows (v - 1)) j - gt (gt rows (v - 2)) j)) ⟨0, _, _, _, _, _, rfl, rfl, rfl, by omega, by intro i hi; omega⟩ (by rfl) ?_
     rintro mm kv H' ⟨w, x2, x10, x11, x84, x118, rfl, rfl, rfl, hw, hd⟩
     have tr : ∀ a b c d e f g h i j k m n o p q r s t u v w x y z A B C D E F G H I J : AV, upd [(0,a),(1,b),(2,c),(3,d),(4,e),(5,f),(6,g),(7,h),(8,i),(9,j),(10,k),(11,m),(15,n),(20,o),(23,p),(24,q),(25,r),(26,s),(30,t),(31,u),(32,v),(33,w),(67,x),(74,y),(81,z),(82,A),(83,B),(84,C),(118,D)] [(2,E),(10,F),(11,G),(83,H),(84,I),(118,J)] = [(0,a),(1,b),(2,E),(3,d),(4,e),(5,f),(6,g),(7,h),(8,i),(9,j),(10,F),(11,G),(15,n),(20,o),(23,p),(24,q),(25,r),(26,s),(30,t),(31,u),(32,v),(33,w),(67,x),(74,y),(81,z),(82,A),(83,H),(84,I),(118,J)] := by intros; rfl
     refine W_to (tr ..) ?_; clear tr
     refine at_seq rfl ?_
     refine rg rfl ?_
     refine Rq ?_
     have tr : ∀ a b c d e f g h i j k m n o p q r s t u v w x y z A B C D E : AV, let l := lc_check_ok a b c d e f g h i j k m n o p q r s t u v w x y z A B C D; trim ((84,E)::l) l = [(0,a),(1,b),(2,c),(3,d),(4,e),(5,f),(6,g),(7,h),(8,i),(9,j),(10,k),(11,m),(15,n),(20,o),(23,p),(24,q),(25,r),(26,s),(30,t),(31,u),(32,v),(33,w),(67,x),(74,y),(81,z),(82,A),(83,B),(84,E),(118,D)] := by intros; rfl
     refine R_nil (tr ..) ?_; clear tr
     refine then_n ?_
     refine at_seq rfl ?_
     refine cdd (fun h12 => ?_) (fun h12 => ?_)
     ·
      try simp only [decide_eq_true_eq, decide_eq_false_iff_not, Bool.not_eq_true', Bool.not_eq_false', beq_iff_eq, beq_eq_false_iff_ne, ne_eq] at h12
      refine at_skip rfl ?_
      refine then_n ?_
      refine at_seq rfl ?_
      refine at_block rfl ?_
      refine at_seq rfl ?_
      refine rg rfl ?_
      refine Rq ?_
      refine Rq ?_
      refine Rq ?_
      refine Rq ?_
      refine Rq ?_
      have tr : ∀ a b c d e f g h i j k m n o p q r s t u v w x y z A B C D E F G H I : AV, let l := lc_check_ok a b c d e f g h i j k m n o p q r s t u v w x y z A B C D; trim ((11,I)::(10,H)::(87,G)::(86,F)::(85,E)::l) l = [(0,a),(1,b),(2,c),(3,d),(4,e),(5,f),(6,g),(7,h),(8,i),(9,j),(10,H),(11,I),(15,n),(20,o),(23,p),(24,q),(25,r),(26,s),(30,t),(31,u),(32,v),(33,w),(67,x),(74,y),(81,z),(82,A),(83,B),(84,C),(118,D)] := by intros; rfl
      refine R_nil (tr ..) ?_; clear tr
      refine then_n ?_
      refine at_seq rfl ?_
      refine rd rfl rfl ?_
      have r0 : 0 ≤ gt (gt rows v) w ∧ gt (gt rows v) w ≤ 10000 := gr v (by omega) w (by omega)
      have r1 : 0 ≤ gt (gt rows (v - 1)) w ∧ gt (gt rows (v - 1)) w ≤ 10000 := gr (v - 1) (by omega) w (by omega)
      have r2 : 0 ≤ gt (gt rows (v - 2)) w ∧ gt (gt rows (v - 2)) w ≤ 10000 := gr (v - 2) (by omega) w (by omega)
      refine Qq ?_
      refine Qq ?_
      refine Qq ?_
      refine Qq ?_
      refine Qq ?_
      refine Qq ?_
      refine Qq ?_
      refine Qq ?_
      refine Qq ?_
      refine Qq ?_
      refine Qq ?_
      refine Qq ?_
      refine Qq ?_
      refine Qq ?_
      refine Qq ?_
      refine Qq ?_
      refine Qq ?_
      refine Qq ?_
      refine Qq ?_
      refine Qq ?_
      refine Qq ?_
      refine Qq ?_
      refine Qq ?_
      refine Qq ?_
      refine Qq ?_
      refine Qq ?_
      refine Qq ?_
      refine Qq ?_
      refine Qq ?_
      refine Qq ?_
      refine Qq ?_
      refine Q_nil ?_
      have tr : ∀ a b c d e f g h i j k m n o p q r s t u v w x y z A B C D E F G H I J K L M N O P Q R S T U V W X Y Z a1 b1 c1 d1 e1 f1 g1 h1 i1 : AV, let l := lc_check_ok a b c d e f g h i j k m n o p q r s t u v w x y z A B C D; trim ((118,i1)::(117,h1)::(116,g1)::(115,f1)::(114,e1)::(113,d1)::(112,c1)::(111,b1)::(110,a1)::(109,Z)::(108,Y)::(107,X)::(106,W)::(105,V)::(104,U)::(103,T)::(102,S)::(101,R)::(100,Q)::(99,P)::(98,O)::(97,N)::(96,M)::(95,L)::(94,K)::(93,J)::(92,I)::(91,H)::(90,G)::(89,F)::(88,E)::l) l = [(0,a),(1,b),(2,c),(3,d),(4,e),(5,f),(6,g),(7,h),(8,i),(9,j),(10,k),(11,m),(15,n),(20,o),(23,p),(24,q),(25,r),(26,s),(30,t),(31,u),(32,v),(33,w),(67,x),(74,y),(81,z),(82,A),(83,B),(84,C),(118,i1)] := by intros; rfl
      refine R_nil (tr ..) ?_; clear tr
      refine then_n ?_
      refine cdd (fun h13 => ?_) (fun h13 => ?_)
      ·
       try simp only [decide_eq_true_eq, decide_eq_false_iff_not, Bool.not_eq_true', Bool.not_eq_false', beq_iff_eq, beq_eq_false_iff_ne, ne_eq] at h13
       refine at_seq rfl ?_
       refine rg rfl ?_
       refine Rq ?_
       have tr : ∀ a b c d e f g h i j k m n o p q r s t u v w x y z A B C D E : AV, let l := lc_check_ok a b c d e f g h i j k m n o p q r s t u v w x y z A B C D; trim ((2,E)::l) l = [(0,a),(1,b),(2,E),(3,d),(4,e),(5,f),(6,g),(7,h),(8,i),(9,j),(10,k),(11,m),(15,n),(20,o),(23,p),(24,q),(25,r),(26,s),(30,t),(31,u),(32,v),(33,w),(67,x),(74,y),(81,z),(82,A),(83,B),(84,C),(118,D)] := by intros; rfl
       refine R_nil (tr ..) ?_; clear tr
       refine then_n ?_
       refine at_ret rfl ?_
       refine blk_r ?_
       refine then_r ?_
       refine then_r ?_
       refine blk_r ?_
       refine blk_r ?_
       refine then_r ?_
       refine then_r ?_
       refine blk_r ?_
       refine then_r ?_
       refine fpure ?_
       refine ⟨?_, rfl⟩
       rw [checkS, if_neg (fun hh => hh h1), if_neg (fun hh => hh h2), if_neg (fun hh => hh hdn), if_pos (fun hh => absurd (hh v (by omega) h2v w (by omega)) (by omega))]
      ·
       try simp only [decide_eq_true_eq, decide_eq_false_iff_not, Bool.not_eq_true', Bool.not_eq_false', beq_iff_eq, beq_eq_false_iff_ne, ne_eq] at h13
       refine at_skip rfl ?_
       refine blk_n ?_
       refine then_n ?_
       refine rg rfl ?_
       refine Rq ?_
       refine Rq ?_
       have tr : ∀ a b c d e f g h i j k m n o p q r s t u v w x y z A B C D E F : AV, let l := lc_check_ok a b c d e f g h i j k m n o p q r s t u v w x y z A B C D; trim ((83,F)::(119,E)::l) l = [(0,a),(1,b),(2,c),(3,d),(4,e),(5,f),(6,g),(7,h),(8,i),(9,j),(10,k),(11,m),(15,n),(20,o),(23,p),(24,q),(25,r),(26,s),(30,t),(31,u),(32,v),(33,w),(67,x),(74,y),(81,z),(82,A),(83,F),(84,C),(118,D)] := by intros; rfl
       refine R_nil (tr ..) ?_; clear tr
       refine then_n ?_
       exact ⟨_, _, ⟨w + 1, _, _, _, _, _, rfl, rfl, rfl, by omega, by exact all_step hd (by omega)⟩, by rfl, by omega⟩
     ·
      try simp only [decide_eq_true_eq, decide_eq_false_iff_not, Bool.not_eq_true', Bool.not_eq_false', beq_iff_eq, beq_eq_false_iff_ne, ne_eq] at h12
      refine at_exit rfl ?_
      refine then_x ?_
      refine then_x ?_
      refine blk_x ?_
      refine blk_n ?_
      refine then_n ?_
      refine rg rfl ?_
      refine Rq ?_
      refine Rq ?_
      refine Rq ?_
      have tr : ∀ a b c d e f g h i j k m n o p q r s t u v w x y z A B C D E F G : AV, let l := lc_check_ok a b c d e f g h i j k m n o p q r s t u v w x y z A B C D; trim ((9,G)::(76,F)::(75,E)::l) l = [(0,a),(1,b),(2,c),(3,d),(4,e),(5,f),(6,g),(7,h),(8,i),(9,G),(10,k),(11,m),(15,n),(20,o),(23,p),(24,q),(25,r),(26,s),(30,t),(31,u),(32,v),(33,w),(67,x),(74,y),(81,z),(82,A),(83,B),(84,C),(118,D)] := by intros; rfl
      refine R_nil (tr ..) ?_; clear tr
      refine then_n ?_
      exact ⟨_, _, ⟨v + 1, _, _, _, _, _, _, _, _, _, rfl, rfl, rfl, by omega, by omega, by exact all_step hc fun _ w hw => hd w (by omega)⟩, by rfl, by omega⟩
    ·
     try simp only [decide_eq_true_eq, decide_eq_false_iff_not, Bool.not_eq_true', Bool.not_eq_false', beq_iff_eq, beq_eq_false_iff_ne, ne_eq] at h11
     refine at_exit rfl ?_
     refine then_x ?_
     refine then_x ?_
     refine blk_x ?_
     refine then_n ?_
     refine at_seq rfl ?_
     refine rg rfl ?_
     refine Rq ?_
     have tr : ∀ a b c d e f g h i j k m n o p q r s t u v w x y z A B C D E : AV, let l := lc_check_ok a b c d e f g h i j k m n o p q r s t u v w x y z A B C D; trim ((2,E)::l) l = [(0,a),(1,b),(2,E),(3,d),(4,e),(5,f),(6,g),(7,h),(8,i),(9,j),(10,k),(11,m),(15,n),(20,o),(23,p),(24,q),(25,r),(26,s),(30,t),(31,u),(32,v),(33,w),(67,x),(74,y),(81,z),(82,A),(83,B),(84,C),(118,D)] := by intros; rfl
     refine R_nil (tr ..) ?_; clear tr
     refine then_n ?_
     refine at_ret rfl ?_
     refine fpure ?_
     refine ⟨?_, rfl⟩
     rw [checkS, if_neg (fun hh => hh h1), if_neg (fun hh => hh h2), if_neg (fun hh => hh hdn), if_neg (fun hh => hh fun i hi h2 w hw => hc i (by omega) h2 w hw)]

end Go.Proofs.Ytaoondlakhocnaa
end
section
set_option linter.unusedSimpArgs false
set_option linter.unusedVariables false
set_option maxHeartbeats 40000000
set_option maxRecDepth 4000
namespace Go.Proofs.Ytaoondlakhocnaa
open Go Go.Am

end Go.Proofs.Ytaoondlakhocnaa
end
section
set_option linter.unusedSimpArgs false
set_option linter.unusedVariables false
set_option maxHeartbeats 40000000
set_option maxRecDepth 4000
namespace Go.Proofs.Ytaoondlakhocnaa
open Go Go.Am

end Go.Proofs.Ytaoondlakhocnaa
end
section
set_option linter.unusedSimpArgs false
set_option linter.unusedVariables false
set_option maxHeartbeats 40000000
set_option maxRecDepth 4000
namespace Go.Proofs.Ytaoondlakhocnaa
open Go Go.Am

end Go.Proofs.Ytaoondlakhocnaa
end
section
set_option linter.unusedSimpArgs false
set_option linter.unusedVariables false
set_option maxHeartbeats 40000000
set_option maxRecDepth 4000
namespace Go.Proofs.Ytaoondlakhocnaa
open Go Go.Am

theorem mul_box {a b A B : Int} (ha : 0 ≤ a) (hA : a ≤ A) (hb : 0 ≤ b) (hB : b ≤ B) : 0 ≤ a * b ∧ a * b ≤ A * B :=
  ⟨Int.mul_nonneg ha hb, Int.mul_le_mul hA hB hb (by omega)⟩
def cellI (rows : Tb) (u w : Int) : Int := gt (gt rows u.toNat) w.toNat
def atV (rows : Tb) (per balls w : Int) : Int :=
  cellI rows (balls / per) w * (per - balls % per) + (if 0 < balls % per then cellI rows (balls / per + 1) w * (balls % per) else 0)
def atBad (rows : Tb) (per balls w : Int) : Prop := per < 1 ∨ 8 < per ∨ balls < 0 ∨ ((rows.length : Int) - 1) * per < balls ∨ w < 0 ∨ (gt rows 0).length < w
instance (rows : Tb) (per balls w : Int) : Decidable (atBad rows per balls w) := by unfold atBad; infer_instance
noncomputable def atS (rows : Tb) (per balls w : Int) : Int × Int :=
  if checkS rows ≠ 0 then (0, checkS rows) else if atBad rows per balls w then (0, 2) else if w = (gt rows 0).length then (0, 0) else (atV rows per balls w, 0)
theorem check_zero {r : Tb} (h : checkS r = 0) : rawS r = 0 ∧ Down r ∧ Conc r := by
  unfold checkS at h
  split at h
  · rename_i h1; exact absurd h h1
  · split at h
    · rename_i h1 h2; exact absurd h h2
    · split at h
      · cases h
      · split at h
        · cases h
        · rename_i h1 h2 h3 h4
          exact ⟨by rw [rawS, if_neg h1]; exact Classical.not_not.mp h2, Classical.not_not.mp h3, Classical.not_not.mp h4⟩
theorem check_shaped {r : Tb} (h : checkS r = 0) : Shaped r := shaped_of (raw_zero (check_zero h).1).1
/-- Where a number of balls lies among the overs. -/
theorem at_place {n per balls : Int} (hp : 1 ≤ per) (hb : 0 ≤ balls) (hn : balls ≤ n * per) :
    0 ≤ balls / per ∧ balls / per ≤ n ∧ 0 ≤ balls % per ∧ balls % per < per ∧ (0 < balls % per → balls / per + 1 ≤ n) := by
  have h1 : 0 ≤ balls / per := Int.ediv_nonneg hb (by omega)
  have h2 : 0 ≤ balls % per := Int.emod_nonneg _ (by omega)
  have h3 : balls % per < per := Int.emod_lt_of_pos _ (by omega)
  have h4 : per * (balls / per) + balls % per = balls := Int.mul_ediv_add_emod _ _
  have h5 : balls / per ≤ n := by
    have := Int.ediv_le_ediv (c := per) (by omega) hn
    rwa [Int.mul_ediv_cancel _ (by omega)] at this
  refine ⟨h1, h5, h2, h3, fun h6 => ?_⟩
  by_cases h7 : balls / per = n
  · rw [h7, Int.mul_comm] at h4; omega
  · omega

abbrev lc_at_ok (a b c d e f g h i j k m n o p : AV) : Env := [(0,a),(1,b),(2,c),(3,d),(4,e),(8,f),(9,g),(10,h),(11,i),(12,j),(13,k),(17,m),(46,n),(50,o),(70,p)]
theorem at_ok (lim : Nat) (H : Heap) (rows : Tb) (per balls w : Int) :
    ACall sig lim 42 [.agg [rowsAV rows], AV.i per, AV.i balls, AV.i w] H fun r H' => r = .tup [AV.i (atS rows per balls w).1, AV.i (atS rows per balls w).2] ∧ H' = H := by
 refine ACall_pure (fa := fa42) rfl rfl rfl rfl ?_
 have tr : ∀ a0 a1 a2 a3 : AV, env0 fa42.keep [a0, a1, a2, a3] = [(0,a0),(1,a1),(2,a2),(3,a3),(4,.any),(8,.any),(9,.any),(10,.any),(11,.any),(12,.any),(13,.any),(17,.any),(46,.any),(50,.any),(70,.any)] := fun a0 a1 a2 a3 => rfl
 refine W_to (tr _ _ _ _) ?_; clear tr
 refine at_seq rfl ?_
 refine rg rfl ?_
 refine R_box rfl (by simp (disch := first | omega | (simp only [List.length_map, List.length_append, List.length_set, List.length_cons, List.length_nil]; omega)) only [go_sem, ↓reduceIte, Nat.reduceEqDiff, reduceCtorEq] <;> rfl) rfl rfl ?_
 refine Rq ?_
 refine Rq ?_
 have tr : ∀ a b c d e f g h i j k m n o p q r s : AV, let l := lc_at_ok a b c d e f g h i j k m n o p; trim ((9,s)::(8,r)::(4,q)::l) l = [(0,a),(1,b),(2,c),(3,d),(4,q),(8,r),(9,s),(10,h),(11,i),(12,j),(13,k),(17,m),(46,n),(50,o),(70,p)] := by intros; rfl
 refine R_nil (tr ..) ?_; clear tr
 refine then_n ?_
 refine at_seq rfl ?_
 refine at_seq rfl ?_
 refine rg rfl ?_
 refine Rq ?_
 refine Rcall ?_
 refine ACall_eq (check_ok _ _ _) ?_
 refine Rq ?_
 have tr : ∀ a b c d e f g h i j k m n o p q r s : AV, let l := lc_at_ok a b c d e f g h i j k m n o p; trim ((10,s)::(15,r)::(14,q)::l) l = [(0,a),(1,b),(2,c),(3,d),(4,e),(8,f),(9,g),(10,s),(11,i),(12,j),(13,k),(17,m),(46,n),(50,o),(70,p)] := by intros; rfl
 refine R_nil (tr ..) ?_; clear tr
 refine then_n ?_
 refine at_seq rfl ?_
 refine rg rfl ?_
 refine Rq ?_
 refine Rq ?_
 have tr : ∀ a b c d e f g h i j k m n o p q r : AV, let l := lc_at_ok a b c d e f g h i j k m n o p; trim ((17,r)::(16,q)::l) l = [(0,a),(1,b),(2,c),(3,d),(4,e),(8,f),(9,g),(10,h),(11,i),(12,j),(13,k),(17,r),(46,n),(50,o),(70,p)] := by intros; rfl
 refine R_nil (tr ..) ?_; clear tr
 refine then_n ?_
 refine cdd (fun h1 => ?_) (fun h1 => ?_)
 ·
  try simp only [decide_eq_true_eq, decide_eq_false_iff_not, Bool.not_eq_true', Bool.not_eq_false', beq_iff_eq, beq_eq_false_iff_ne, ne_eq] at h1
  refine at_seq rfl ?_
  refine rg rfl ?_
  refine Rq ?_
  refine Rq ?_
  refine Rq ?_
  have tr : ∀ a b c d e f g h i j k m n o p q r s : AV, let l := lc_at_ok a b c d e f g h i j k m n o p; trim ((9,s)::(8,r)::(18,q)::l) l = [(0,a),(1,b),(2,c),(3,d),(4,e),(8,r),(9,s),(10,h),(11,i),(12,j),(13,k),(17,m),(46,n),(50,o),(70,p)] := by intros; rfl
  refine R_nil (tr ..) ?_; clear tr
  refine then_n ?_
  refine at_ret rfl ?_
  refine then_r ?_
  refine fpure ?_
  refine ⟨?_, rfl⟩
  rw [atS, if_pos (by assumption)]
 ·
  try simp only [decide_eq_true_eq, decide_eq_false_iff_not, Bool.not_eq_true', Bool.not_eq_false', beq_iff_eq, beq_eq_false_iff_ne, ne_eq] at h1
  refine at_skip rfl ?_
  refine then_n ?_
  refine at_seq rfl ?_
  refine at_seq rfl ?_
  refine rg rfl ?_
  refine Rq ?_
  refine Rq ?_
  refine Rq ?_
  refine Rp_split (fun h2 => ?_) (fun h2 => ?_)
  ·
   try simp only [decide_eq_true_eq, decide_eq_false_iff_not, Bool.not_eq_true', Bool.not_eq_false', beq_iff_eq, beq_eq_false_iff_ne, ne_eq] at h2
   refine Rn ?_
   refine Rn ?_
   refine Rq ?_
   refine Rq ?_
   refine Rn ?_
   refine Rn ?_
   refine Rq ?_
   refine Rq ?_
   refine Rn ?_
   refine Rn ?_
   refine Rn ?_
   refine Rn ?_
   refine Rn ?_
   refine Rn ?_
   refine Rq ?_
   refine Rq ?_
   refine Rn ?_
   refine Rn ?_
   refine Rq ?_
   refine Rq ?_
   refine Rn ?_
   refine Rn ?_
   refine Rn ?_
   refine Rn ?_
   refine Rq ?_
   have tr : ∀ a b c d e f g h i j k m n o p q r s t u v w x y z A B C D E F G H I J K L M N O P Q R : AV, let l := lc_at_ok a b c d e f g h i j k m n o p; trim ((46,R)::(45,Q)::(44,P)::(43,O)::(42,N)::(41,M)::(40,L)::(39,K)::(38,J)::(37,I)::(36,H)::(35,G)::(34,F)::(33,E)::(32,D)::(31,C)::(30,B)::(29,A)::(28,z)::(27,y)::(26,x)::(25,w)::(24,v)::(23,u)::(22,t)::(21,s)::(20,r)::(19,q)::l) l = [(0,a),(1,b),(2,c),(3,d),(4,e),(8,f),(9,g),(10,h),(11,i),(12,j),(13,k),(17,m),(46,R),(50,o),(70,p)] := by intros; rfl
   refine R_nil (tr ..) ?_; clear tr
   refine then_n ?_
   refine cdt ?_
   refine at_seq rfl ?_
   refine rg rfl ?_
   refine Rq ?_
   refine Rq ?_
   have tr : ∀ a b c d e f g h i j k m n o p q r : AV, let l := lc_at_ok a b c d e f g h i j k m n o p; trim ((9,r)::(8,q)::l) l = [(0,a),(1,b),(2,c),(3,d),(4,e),(8,q),(9,r),(10,h),(11,i),(12,j),(13,k),(17,m),(46,n),(50,o),(70,p)] := by intros; rfl
   refine R_nil (tr ..) ?_; clear tr
   refine then_n ?_
   refine at_ret rfl ?_
   refine then_r ?_
   refine fpure ?_
   refine ⟨?_, rfl⟩
   rw [atS, if_neg (by omega), if_pos (by unfold atBad; omega)]
  ·
   try simp only [decide_eq_true_eq, decide_eq_false_iff_not, Bool.not_eq_true', Bool.not_eq_false', beq_iff_eq, beq_eq_false_iff_ne, ne_eq] at h2
   refine Ry ?_
   refine Rq ?_
   refine Ry ?_
   refine Rq ?_
   refine Rq ?_
   refine Rq ?_
   refine Rp_split (fun h3 => ?_) (fun h3 => ?_)
   ·
    try simp only [decide_eq_true_eq, decide_eq_false_iff_not, Bool.not_eq_true', Bool.not_eq_false', beq_iff_eq, beq_eq_false_iff_ne, ne_eq] at h3
    refine Rn ?_
    refine Rn ?_
    refine Rq ?_
    refine Rq ?_
    refine Rn ?_
    refine Rn ?_
    refine Rn ?_
    refine Rn ?_
    refine Rn ?_
    refine Rn ?_
    refine Rq ?_
    refine Rq ?_
    refine Rn ?_
    refine Rn ?_
    refine Rq ?_
    refine Rq ?_
    refine Rn ?_
    refine Rn ?_
    refine Rn ?_
    refine Rn ?_
    refine Rq ?_
    have tr : ∀ a b c d e f g h i j k m n o p q r s t u v w x y z A B C D E F G H I J K L M N O P Q R : AV, let l := lc_at_ok a b c d e f g h i j k m n o p; trim ((46,R)::(45,Q)::(44,P)::(43,O)::(42,N)::(41,M)::(40,L)::(39,K)::(38,J)::(37,I)::(36,H)::(35,G)::(34,F)::(33,E)::(32,D)::(31,C)::(30,B)::(29,A)::(28,z)::(27,y)::(26,x)::(25,w)::(24,v)::(23,u)::(22,t)::(21,s)::(20,r)::(19,q)::l) l = [(0,a),(1,b),(2,c),(3,d),(4,e),(8,f),(9,g),(10,h),(11,i),(12,j),(13,k),(17,m),(46,R),(50,o),(70,p)] := by intros; rfl
    refine R_nil (tr ..) ?_; clear tr
    refine then_n ?_
    refine cdt ?_
    refine at_seq rfl ?_
    refine rg rfl ?_
    refine Rq ?_
    refine Rq ?_
    have tr : ∀ a b c d e f g h i j k m n o p q r : AV, let l := lc_at_ok a b c d e f g h i j k m n o p; trim ((9,r)::(8,q)::l) l = [(0,a),(1,b),(2,c),(3,d),(4,e),(8,q),(9,r),(10,h),(11,i),(12,j),(13,k),(17,m),(46,n),(50,o),(70,p)] := by intros; rfl
    refine R_nil (tr ..) ?_; clear tr
    refine then_n ?_
    refine at_ret rfl ?_
    refine then_r ?_
    refine fpure ?_
    refine ⟨?_, rfl⟩
    rw [atS, if_neg (by omega), if_pos (by unfold atBad; omega)]
   ·
    try simp only [decide_eq_true_eq, decide_eq_false_iff_not, Bool.not_eq_true', Bool.not_eq_false', beq_iff_eq, beq_eq_false_iff_ne, ne_eq] at h3
    refine Ry ?_
    refine Rq ?_
    refine Ry ?_
    refine Rq ?_
    refine Rq ?_
    refine Rq ?_
    refine Rp_split (fun h4 => ?_) (fun h4 => ?_)
    ·
     try simp only [decide_eq_true_eq, decide_eq_false_iff_not, Bool.not_eq_true', Bool.not_eq_false', beq_iff_eq, beq_eq_false_iff_ne, ne_eq] at h4
     refine Rn ?_
     refine Rn ?_
     refine Rn ?_
     refine Rn ?_
     refine Rn ?_
     refine Rn ?_
     refine Rq ?_
     refine Rq ?_
     refine Rn ?_
     refine Rn ?_
     refine Rq ?_
     refine Rq ?_
     refine Rn ?_
     refine Rn ?_
     refine Rn ?_
     refine Rn ?_
     refine Rq ?_
     have tr : ∀ a b c d e f g h i j k m n o p q r s t u v w x y z A B C D E F G H I J K L M N O P Q R : AV, let l := lc_at_ok a b c d e f g h i j k m n o p; trim ((46,R)::(45,Q)::(44,P)::(43,O)::(42,N)::(41,M)::(40,L)::(39,K)::(38,J)::(37,I)::(36,H)::(35,G)::(34,F)::(33,E)::(32,D)::(31,C)::(30,B)::(29,A)::(28,z)::(27,y)::(26,x)::(25,w)::(24,v)::(23,u)::(22,t)::(21,s)::(20,r)::(19,q)::l) l = [(0,a),(1,b),(2,c),(3,d),(4,e),(8,f),(9,g),(10,h),(11,i),(12,j),(13,k),(17,m),(46,R),(50,o),(70,p)] := by intros; rfl
     refine R_nil (tr ..) ?_; clear tr
     refine then_n ?_
     refine cdt ?_
     refine at_seq rfl ?_
     refine rg rfl ?_
     refine Rq ?_
     refine Rq ?_
     have tr : ∀ a b c d e f g h i j k m n o p q r : AV, let l := lc_at_ok a b c d e f g h i j k m n o p; trim ((9,r)::(8,q)::l) l = [(0,a),(1,b),(2,c),(3,d),(4,e),(8,q),(9,r),(10,h),(11,i),(12,j),(13,k),(17,m),(46,n),(50,o),(70,p)] := by intros; rfl
     refine R_nil (tr ..) ?_; clear tr
     refine then_n ?_
     refine at_ret rfl ?_
     refine then_r ?_
     refine fpure ?_
     refine ⟨?_, rfl⟩
     rw [atS, if_neg (by omega), if_pos (by unfold atBad; omega)]
    ·
     try simp only [decide_eq_true_eq, decide_eq_false_iff_not, Bool.not_eq_true', Bool.not_eq_false', beq_iff_eq, beq_eq_false_iff_ne, ne_eq] at h4
     refine Ry ?_
     refine Rq ?_
     refine Ry ?_
     refine Rq ?_
     refine Ry ?_
     refine Rcall ?_
     have s := check_shaped (by assumption : checkS rows = 0)
     have g2 := s.two
     have g91 := s.most
     refine ACall_eq (overs_ok _ _ rows g91 g2) ?_
     have hpm := mul_box (a := (rows.length : Int) - 1) (b := per) (A := 90) (B := 8) (by omega) (by omega) (by omega) (by omega)
     refine Ry ?_
     refine Rq ?_
     refine Ry ?_
     refine Rq ?_
     refine Ry ?_
     refine Rq ?_
     refine Rq ?_
     refine Rq ?_
     refine Rp_split (fun h5 => ?_) (fun h5 => ?_)
     ·
      try simp only [decide_eq_true_eq, decide_eq_false_iff_not, Bool.not_eq_true', Bool.not_eq_false', beq_iff_eq, beq_eq_false_iff_ne, ne_eq] at h5
      refine Rn ?_
      refine Rn ?_
      refine Rq ?_
      refine Rq ?_
      refine Rn ?_
      refine Rn ?_
      refine Rn ?_
      refine Rn ?_
      refine Rq ?_
      have tr : ∀ a b c d e f g h i j k m n o p q r s t u v w x y z A B C D E F G H I J K L M N O P Q R : AV, let l := lc_at_ok a b c d e f g h i j k m n o p; trim ((46,R)::(45,Q)::(44,P)::(43,O)::(42,N)::(41,M)::(40,L)::(39,K)::(38,J)::(37,I)::(36,H)::(35,G)::(34,F)::(33,E)::(32,D)::(31,C)::(30,B)::(29,A)::(28,z)::(27,y)::(26,x)::(25,w)::(24,v)::(23,u)::(22,t)::(21,s)::(20,r)::(19,q)::l) l = [(0,a),(1,b),(2,c),(3,d),(4,e),(8,f),(9,g),(10,h),(11,i),(12,j),(13,k),(17,m),(46,R),(50,o),(70,p)] := by intros; rfl
      refine R_nil (tr ..) ?_; clear tr
      refine then_n ?_
      refine cdt ?_
      refine at_seq rfl ?_
      refine rg rfl ?_
      refine Rq ?_
      refine Rq ?_
      have tr : ∀ a b c d e f g h i j k m n o p q r : AV, let l := lc_at_ok a b c d e f g h i j k m n o p; trim ((9,r)::(8,q)::l) l = [(0,a),(1,b),(2,c),(3,d),(4,e),(8,q),(9,r),(10,h),(11,i),(12,j),(13,k),(17,m),(46,n),(50,o),(70,p)] := by intros; rfl
      refine R_nil (tr ..) ?_; clear tr
      refine then_n ?_
      refine at_ret rfl ?_
      refine then_r ?_
      refine fpure ?_
      refine ⟨?_, rfl⟩
      rw [atS, if_neg (by omega), if_pos (by unfold atBad; omega)]
     ·
      try simp only [decide_eq_true_eq, decide_eq_false_iff_not, Bool.not_eq_true', Bool.not_eq_false', beq_iff_eq, beq_eq_false_iff_ne, ne_eq] at h5
      refine Ry ?_
      refine Rq ?_
      refine Ry ?_
      refine Rq ?_
      refine Rq ?_
      refine Rq ?_
      refine Rp_split (fun h6 => ?_) (fun h6 => ?_)
      ·
       try simp only [decide_eq_true_eq, decide_eq_false_iff_not, Bool.not_eq_true', Bool.not_eq_false', beq_iff_eq, beq_eq_false_iff_ne, ne_eq] at h6
       refine Rn ?_
       refine Rn ?_
       refine Rn ?_
       refine Rn ?_
       refine Rq ?_
       have tr : ∀ a b c d e f g h i j k m n o p q r s t u v w x y z A B C D E F G H I J K L M N O P Q R : AV, let l := lc_at_ok a b c d e f g h i j k m n o p; trim ((46,R)::(45,Q)::(44,P)::(43,O)::(42,N)::(41,M)::(40,L)::(39,K)::(38,J)::(37,I)::(36,H)::(35,G)::(34,F)::(33,E)::(32,D)::(31,C)::(30,B)::(29,A)::(28,z)::(27,y)::(26,x)::(25,w)::(24,v)::(23,u)::(22,t)::(21,s)::(20,r)::(19,q)::l) l = [(0,a),(1,b),(2,c),(3,d),(4,e),(8,f),(9,g),(10,h),(11,i),(12,j),(13,k),(17,m),(46,R),(50,o),(70,p)] := by intros; rfl
       refine R_nil (tr ..) ?_; clear tr
       refine then_n ?_
       refine cdt ?_
       refine at_seq rfl ?_
       refine rg rfl ?_
       refine Rq ?_
       refine Rq ?_
       have tr : ∀ a b c d e f g h i j k m n o p q r : AV, let l := lc_at_ok a b c d e f g h i j k m n o p; trim ((9,r)::(8,q)::l) l = [(0,a),(1,b),(2,c),(3,d),(4,e),(8,q),(9,r),(10,h),(11,i),(12,j),(13,k),(17,m),(46,n),(50,o),(70,p)] := by intros; rfl
       refine R_nil (tr ..) ?_; clear tr
       refine then_n ?_
       refine at_ret rfl ?_
       refine then_r ?_
       refine fpure ?_
       refine ⟨?_, rfl⟩
       rw [atS, if_neg (by omega), if_pos (by unfold atBad; omega)]
      ·
       try simp only [decide_eq_true_eq, decide_eq_false_iff_not, Bool.not_eq_true', Bool.not_eq_false', beq_iff_eq, beq_eq_false_iff_ne, ne_eq] at h6
       refine Ry ?_
       refine Rq ?_
       refine Ry ?_
       refine Rq ?_
       refine Ry ?_
       refine Rcall ?_
       refine ACall_eq (wickets_ok _ _ rows g2) ?_
       refine Ry ?_
       refine Rq ?_
       refine Rq ?_
       have tr : ∀ a b c d e f g h i j k m n o p q r s t u v w x y z A B C D E F G H I J K L M N O P Q R : AV, let l := lc_at_ok a b c d e f g h i j k m n o p; trim ((46,R)::(45,Q)::(44,P)::(43,O)::(42,N)::(41,M)::(40,L)::(39,K)::(38,J)::(37,I)::(36,H)::(35,G)::(34,F)::(33,E)::(32,D)::(31,C)::(30,B)::(29,A)::(28,z)::(27,y)::(26,x)::(25,w)::(24,v)::(23,u)::(22,t)::(21,s)::(20,r)::(19,q)::l) l = [(0,a),(1,b),(2,c),(3,d),(4,e),(8,f),(9,g),(10,h),(11,i),(12,j),(13,k),(17,m),(46,R),(50,o),(70,p)] := by intros; rfl
       refine R_nil (tr ..) ?_; clear tr
       refine then_n ?_
       refine cdd (fun h7 => ?_) (fun h7 => ?_)
       ·
        try simp only [decide_eq_true_eq, decide_eq_false_iff_not, Bool.not_eq_true', Bool.not_eq_false', beq_iff_eq, beq_eq_false_iff_ne, ne_eq] at h7
        refine at_seq rfl ?_
        refine rg rfl ?_
        refine Rq ?_
        refine Rq ?_
        have tr : ∀ a b c d e f g h i j k m n o p q r : AV, let l := lc_at_ok a b c d e f g h i j k m n o p; trim ((9,r)::(8,q)::l) l = [(0,a),(1,b),(2,c),(3,d),(4,e),(8,q),(9,r),(10,h),(11,i),(12,j),(13,k),(17,m),(46,n),(50,o),(70,p)] := by intros; rfl
        refine R_nil (tr ..) ?_; clear tr
        refine then_n ?_
        refine at_ret rfl ?_
        refine then_r ?_
        refine fpure ?_
        refine ⟨?_, rfl⟩
        rw [atS, if_neg (by omega), if_pos (by unfold atBad; omega)]
       ·
        try simp only [decide_eq_true_eq, decide_eq_false_iff_not, Bool.not_eq_true', Bool.not_eq_false', beq_iff_eq, beq_eq_false_iff_ne, ne_eq] at h7
        refine at_skip rfl ?_
        refine then_n ?_
        refine at_seq rfl ?_
        refine at_seq rfl ?_
        refine rg rfl ?_
        refine Rq ?_
        refine Rq ?_
        refine Rcall ?_
        refine ACall_eq (wickets_ok _ _ rows g2) ?_
        refine Rq ?_
        have tr : ∀ a b c d e f g h i j k m n o p q r s t : AV, let l := lc_at_ok a b c d e f g h i j k m n o p; trim ((50,t)::(49,s)::(48,r)::(47,q)::l) l = [(0,a),(1,b),(2,c),(3,d),(4,e),(8,f),(9,g),(10,h),(11,i),(12,j),(13,k),(17,m),(46,n),(50,t),(70,p)] := by intros; rfl
        refine R_nil (tr ..) ?_; clear tr
        refine then_n ?_
        refine cdd (fun h8 => ?_) (fun h8 => ?_)
        ·
         try simp only [decide_eq_true_eq, decide_eq_false_iff_not, Bool.not_eq_true', Bool.not_eq_false', beq_iff_eq, beq_eq_false_iff_ne, ne_eq] at h8
         refine at_seq rfl ?_
         refine rg rfl ?_
         refine Rq ?_
         refine Rq ?_
         have tr : ∀ a b c d e f g h i j k m n o p q r : AV, let l := lc_at_ok a b c d e f g h i j k m n o p; trim ((9,r)::(8,q)::l) l = [(0,a),(1,b),(2,c),(3,d),(4,e),(8,q),(9,r),(10,h),(11,i),(12,j),(13,k),(17,m),(46,n),(50,o),(70,p)] := by intros; rfl
         refine R_nil (tr ..) ?_; clear tr
         refine then_n ?_
         refine at_ret rfl ?_
         refine then_r ?_
         refine fpure ?_
         refine ⟨?_, rfl⟩
         rw [atS, if_neg (by omega), if_neg (by unfold atBad; omega), if_pos (by omega)]
        ·
         try simp only [decide_eq_true_eq, decide_eq_false_iff_not, Bool.not_eq_true', Bool.not_eq_false', beq_iff_eq, beq_eq_false_iff_ne, ne_eq] at h8
         refine at_skip rfl ?_
         refine then_n ?_
         refine at_seq rfl ?_
         refine rd rfl rfl ?_
         have hat := at_place (n := (rows.length : Int) - 1) (per := per) (balls := balls) (by omega) (by omega) (by omega)
         obtain ⟨q0, q1, r0, r1, q2⟩ := hat
         have gl := s.len
         have gr := s.rng
         have hl1 := gl (balls / per).toNat (by omega)
         have k1 : 0 ≤ gt (gt rows (balls / per).toNat) w.toNat ∧ gt (gt rows (balls / per).toNat) w.toNat ≤ 10000 := gr _ (by omega) _ (by omega)
         have k2 := mul_box (b := per - balls % per) (B := 8) k1.1 k1.2 (by omega) (by omega)
         refine Qq ?_
         refine Qq ?_
         refine Qq ?_
         refine Qq ?_
         refine Qq ?_
         refine Qq ?_
         refine Qq ?_
         refine Qq ?_
         refine Q_nil ?_
         have tr : ∀ a b c d e f g h i j k m n o p q r s t u v w x : AV, let l := lc_at_ok a b c d e f g h i j k m n o p; trim ((12,x)::(11,w)::(56,v)::(55,u)::(54,t)::(53,s)::(52,r)::(51,q)::l) l = [(0,a),(1,b),(2,c),(3,d),(4,e),(8,f),(9,g),(10,h),(11,w),(12,x),(13,k),(17,m),(46,n),(50,o),(70,p)] := by intros; rfl
         refine R_nil (tr ..) ?_; clear tr
         refine then_n ?_
         refine at_seq rfl ?_
         refine rg rfl ?_
         refine Rq ?_
         refine Rq ?_
         refine Rq ?_
         refine Rq ?_
         refine Rq ?_
         refine Rq ?_
         refine Rq ?_
         refine Rq ?_
         refine Rq ?_
         refine Rq ?_
         refine Rq ?_
         refine Rq ?_
         refine Rq ?_
         have tr : ∀ a b c d e f g h i j k m n o p q r s t u v w x y z A B C : AV, let l := lc_at_ok a b c d e f g h i j k m n o p; trim ((13,C)::(68,B)::(67,A)::(66,z)::(65,y)::(64,x)::(63,w)::(62,v)::(61,u)::(60,t)::(59,s)::(58,r)::(57,q)::l) l = [(0,a),(1,b),(2,c),(3,d),(4,e),(8,f),(9,g),(10,h),(11,i),(12,j),(13,C),(17,m),(46,n),(50,o),(70,p)] := by intros; rfl
         refine R_nil (tr ..) ?_; clear tr
         refine then_n ?_
         refine at_seq rfl ?_
         refine at_seq rfl ?_
         refine rg rfl ?_
         refine Rq ?_
         refine Rq ?_
         have tr : ∀ a b c d e f g h i j k m n o p q r : AV, let l := lc_at_ok a b c d e f g h i j k m n o p; trim ((70,r)::(69,q)::l) l = [(0,a),(1,b),(2,c),(3,d),(4,e),(8,f),(9,g),(10,h),(11,i),(12,j),(13,k),(17,m),(46,n),(50,o),(70,r)] := by intros; rfl
         refine R_nil (tr ..) ?_; clear tr
         refine then_n ?_
         refine cdd (fun h9 => ?_) (fun h9 => ?_)
         ·
          try simp only [decide_eq_true_eq, decide_eq_false_iff_not, Bool.not_eq_true', Bool.not_eq_false', beq_iff_eq, beq_eq_false_iff_ne, ne_eq] at h9
          refine rg rfl ?_
          have q3 := q2 (by assumption)
          have hl2 := gl (balls / per + 1).toNat (by omega)
          have k3 : 0 ≤ gt (gt rows (balls / per + 1).toNat) w.toNat ∧ gt (gt rows (balls / per + 1).toNat) w.toNat ≤ 10000 := gr _ (by omega) _ (by omega)
          have k4 := mul_box (b := balls % per) (B := 8) k3.1 k3.2 (by omega) (by omega)
          refine Rq ?_
          refine Rq ?_
          refine Rq ?_
          refine Rq ?_
          refine Rq ?_
          refine Rq ?_
          refine Rq ?_
          refine Rq ?_
          refine Rq ?_
          refine Rq ?_
          refine Rq ?_
          refine Rq ?_
          refine Rq ?_
          refine Rq ?_
          have tr : ∀ a b c d e f g h i j k m n o p q r s t u v w x y z A B C D : AV, let l := lc_at_ok a b c d e f g h i j k m n o p; trim ((13,D)::(83,C)::(82,B)::(81,A)::(80,z)::(79,y)::(78,x)::(77,w)::(76,v)::(75,u)::(74,t)::(73,s)::(72,r)::(71,q)::l) l = [(0,a),(1,b),(2,c),(3,d),(4,e),(8,f),(9,g),(10,h),(11,i),(12,j),(13,D),(17,m),(46,n),(50,o),(70,p)] := by intros; rfl
          refine R_nil (tr ..) ?_; clear tr
          refine then_n ?_
          refine at_seq rfl ?_
          refine rg rfl ?_
          refine Rq ?_
          refine Rq ?_
          refine Rq ?_
          have tr : ∀ a b c d e f g h i j k m n o p q r s : AV, let l := lc_at_ok a b c d e f g h i j k m n o p; trim ((9,s)::(8,r)::(84,q)::l) l = [(0,a),(1,b),(2,c),(3,d),(4,e),(8,r),(9,s),(10,h),(11,i),(12,j),(13,k),(17,m),(46,n),(50,o),(70,p)] := by intros; rfl
          refine R_nil (tr ..) ?_; clear tr
          refine then_n ?_
          refine at_ret rfl ?_
          refine fpure ?_
          refine ⟨?_, rfl⟩
          rw [atS, if_neg (by omega), if_neg (by unfold atBad; omega), if_neg (by omega), atV, cellI, cellI, if_pos (by omega)]
         ·
          try simp only [decide_eq_true_eq, decide_eq_false_iff_not, Bool.not_eq_true', Bool.not_eq_false', beq_iff_eq, beq_eq_false_iff_ne, ne_eq] at h9
          refine at_skip rfl ?_
          refine then_n ?_
          refine at_seq rfl ?_
          refine rg rfl ?_
          refine Rq ?_
          refine Rq ?_
          refine Rq ?_
          have tr : ∀ a b c d e f g h i j k m n o p q r s : AV, let l := lc_at_ok a b c d e f g h i j k m n o p; trim ((9,s)::(8,r)::(84,q)::l) l = [(0,a),(1,b),(2,c),(3,d),(4,e),(8,r),(9,s),(10,h),(11,i),(12,j),(13,k),(17,m),(46,n),(50,o),(70,p)] := by intros; rfl
          refine R_nil (tr ..) ?_; clear tr
          refine then_n ?_
          refine at_ret rfl ?_
          refine fpure ?_
          refine ⟨?_, rfl⟩
          rw [atS, if_neg (by omega), if_neg (by unfold atBad; omega), if_neg (by omega), atV, cellI, cellI, if_neg (by omega), Int.add_zero]

end Go.Proofs.Ytaoondlakhocnaa
end
section
set_option linter.unusedSimpArgs false
set_option linter.unusedVariables false
set_option maxHeartbeats 40000000
set_option maxRecDepth 4000
namespace Go.Proofs.Ytaoondlakhocnaa
open Go Go.Am

end Go.Proofs.Ytaoondlakhocnaa
end
section
set_option linter.unusedSimpArgs false
set_option linter.unusedVariables false
set_option maxHeartbeats 40000000
set_option maxRecDepth 4000
namespace Go.Proofs.Ytaoondlakhocnaa
open Go Go.Am

structure Stp where
  b : Int
  a : Int
  w : Int
deriving DecidableEq
instance : Inhabited Stp := ⟨⟨0, 0, 0⟩⟩
abbrev stC (s : Stp) : List AV := [AV.i s.b, AV.i s.a, AV.i s.w]
def flatS (l : List Stp) : List AV := (l.map stC).flatten
abbrev stopsAV (l : List Stp) : AV := .sl l.length (flatS l)
theorem flat_get : ∀ (l : List Stp) (u k : Nat), u < l.length → k < 3 → (flatS l)[u * 3 + k]? = (stC (gt l u))[k]?
  | [], u, k, h, _ => by simp at h
  | s :: l, 0, k, _, hk => by
    unfold flatS
    rw [List.map_cons, List.flatten_cons, Nat.zero_mul, Nat.zero_add, List.getElem?_append_left (by simpa using hk)]
    rfl
  | s :: l, u + 1, k, h, hk => by
    have ih := flat_get l u k (by simpa using h) hk
    unfold flatS at ih ⊢
    rw [List.map_cons, List.flatten_cons, List.getElem?_append_right (by simp; omega)]
    rw [show (u + 1) * 3 + k - (stC s).length = u * 3 + k by simp; omega, ih]
    rfl
theorem flat_len (l : List Stp) : (flatS l).length = l.length * 3 := by
  induction l with
  | nil => rfl
  | cons s l ih => unfold flatS at ih ⊢; rw [List.map_cons, List.flatten_cons, List.length_append, ih]; simp; omega
theorem flat0 (l : List Stp) (u : Nat) (h : u < l.length) : (flatS l)[u * 3]? = some (AV.i (gt l u).b) := flat_get l u 0 h (by omega)
theorem flat1 (l : List Stp) (u : Nat) (h : u < l.length) : (flatS l)[u * 3 + 1]? = some (AV.i (gt l u).a) := flat_get l u 1 h (by omega)
theorem flat2 (l : List Stp) (u : Nat) (h : u < l.length) : (flatS l)[u * 3 + 2]? = some (AV.i (gt l u).w) := flat_get l u 2 h (by omega)
theorem ld_stop (l : List Stp) (u : Nat) (h : u < l.length) : partL { size := 3, bytes := 24, agg := true, k := TyK.struct [(0, 2), (1, 2), (2, 3)], zero := some [.int .i64 0, .int .i64 0, .int .i64 0] } (flatS l) (u * 3) = some (.agg (stC (gt l u))) := by
  rw [pl56 _ _ (by rw [flat_len]; omega)]
  congr 2
  apply List.ext_getElem?
  intro j
  rw [List.getElem?_take, List.getElem?_drop]
  by_cases hj : j < 3
  · rw [if_pos hj, flat_get l u j h hj]
  · rw [if_neg hj, List.getElem?_eq_none (by simp; omega)]
attribute [go_sem] flat0 flat1 flat2 ld_stop

/-- The first error of some that come in order. -/
def ferr (f : Nat → Int) : Nat → Int
  | 0 => 0
  | n + 1 => if ferr f n ≠ 0 then ferr f n else f n
theorem ferr_at {f : Nat → Int} {u : Nat} (h : ferr f u = 0) (hf : f u ≠ 0) : ∀ n, u < n → ferr f n = f u
  | 0, hn => by omega
  | n + 1, hn => by
    unfold ferr
    by_cases hu : u = n
    · subst hu; rw [if_neg (by omega)]
    · rw [ferr_at h hf n (by omega), if_pos hf]
theorem ferr_ok {f : Nat → Int} {u : Nat} (h : ferr f u = 0) (hf : f u = 0) : ferr f (u + 1) = 0 := by
  unfold ferr
  rw [if_neg (by omega), hf]
theorem ferr_all {f : Nat → Int} : ∀ {n : Nat}, ferr f n = 0 → ∀ i, i < n → f i = 0
  | 0, _, i, hi => by omega
  | n + 1, h, i, hi => by
    unfold ferr at h
    by_cases h0 : ferr f n ≠ 0
    · rw [if_pos h0] at h; omega
    · rw [if_neg h0] at h
      by_cases hn : i = n
      · subst hn; exact h
      · exact ferr_all (Decidable.not_not.mp h0) i (by omega)
def stopErr (rows : Tb) (balls : Int) (l : List Stp) (i : Nat) : Int :=
  if balls < (gt l i).b ∨ (gt l i).a < 0 ∨ (gt l i).w < 0 ∨ (gt rows 0).length < (gt l i).w then 2 else
  if (gt l i).b < (gt l i).a then 1 else
  if 0 < i ∧ ((gt l (i - 1)).a < (gt l i).b ∨ (gt l i).w < (gt l (i - 1)).w) then 8 else 0
def chkBad (rows : Tb) (per balls : Int) : Prop := per < 1 ∨ 8 < per ∨ balls < 1 ∨ ((rows.length : Int) - 1) * per < balls
instance (rows : Tb) (per balls : Int) : Decidable (chkBad rows per balls) := by unfold chkBad; infer_instance
noncomputable def chkS (rows : Tb) (per balls : Int) (l : List Stp) : Int :=
  if checkS rows ≠ 0 then checkS rows else if chkBad rows per balls then 2 else if 20 < l.length then 9 else ferr (stopErr rows balls l) l.length

abbrev lc_chk_ok (a b c d e f g h i j k m n o p q r s t : AV) : Env := [(0,a),(1,b),(2,c),(3,d),(4,e),(8,f),(9,g),(10,h),(11,i),(15,j),(34,k),(37,m),(38,n),(39,o),(40,p),(41,q),(45,r),(67,s),(73,t)]
theorem chk_ok (lim : Nat) (H : Heap) (rows : Tb) (per balls : Int) (l : List Stp) :
    ACall sig lim 38 [.agg [rowsAV rows], AV.i per, AV.i balls, stopsAV l] H fun r H' => r = AV.i (chkS rows per balls l) ∧ H' = H := by
 refine ACall_pure (fa := fa38) rfl rfl rfl rfl ?_
 have tr : ∀ a0 a1 a2 a3 : AV, env0 fa38.keep [a0, a1, a2, a3] = [(0,a0),(1,a1),(2,a2),(3,a3),(4,.any),(8,.any),(9,.any),(10,.any),(11,.any),(15,.any),(34,.any),(37,.any),(38,.any),(39,.any),(40,.any),(41,.any),(45,.any),(67,.any),(73,.any)] := fun a0 a1 a2 a3 => rfl
 refine W_to (tr _ _ _ _) ?_; clear tr
 refine at_seq rfl ?_
 refine rg rfl ?_
 refine R_box rfl (by simp (disch := first | omega | (simp only [List.length_map, List.length_append, List.length_set, List.length_cons, List.length_nil]; omega)) only [go_sem, ↓reduceIte, Nat.reduceEqDiff, reduceCtorEq] <;> rfl) rfl rfl ?_
 refine Rq ?_
 have tr : ∀ a b c d e f g h i j k m n o p q r s t u v : AV, let l := lc_chk_ok a b c d e f g h i j k m n o p q r s t; trim ((8,v)::(4,u)::l) l = [(0,a),(1,b),(2,c),(3,d),(4,u),(8,v),(9,g),(10,h),(11,i),(15,j),(34,k),(37,m),(38,n),(39,o),(40,p),(41,q),(45,r),(67,s),(73,t)] := by intros; rfl
 refine R_nil (tr ..) ?_; clear tr
 refine then_n ?_
 refine at_seq rfl ?_
 refine at_seq rfl ?_
 refine rg rfl ?_
 refine Rq ?_
 refine Rcall ?_
 refine ACall_eq (check_ok _ _ _) ?_
 refine Rq ?_
 have tr : ∀ a b c d e f g h i j k m n o p q r s t u v w : AV, let l := lc_chk_ok a b c d e f g h i j k m n o p q r s t; trim ((9,w)::(13,v)::(12,u)::l) l = [(0,a),(1,b),(2,c),(3,d),(4,e),(8,f),(9,w),(10,h),(11,i),(15,j),(34,k),(37,m),(38,n),(39,o),(40,p),(41,q),(45,r),(67,s),(73,t)] := by intros; rfl
 refine R_nil (tr ..) ?_; clear tr
 refine then_n ?_
 refine at_seq rfl ?_
 refine rg rfl ?_
 refine Rq ?_
 refine Rq ?_
 have tr : ∀ a b c d e f g h i j k m n o p q r s t u v : AV, let l := lc_chk_ok a b c d e f g h i j k m n o p q r s t; trim ((15,v)::(14,u)::l) l = [(0,a),(1,b),(2,c),(3,d),(4,e),(8,f),(9,g),(10,h),(11,i),(15,v),(34,k),(37,m),(38,n),(39,o),(40,p),(41,q),(45,r),(67,s),(73,t)] := by intros; rfl
 refine R_nil (tr ..) ?_; clear tr
 refine then_n ?_
 refine cdd (fun h1 => ?_) (fun h1 => ?_)
 ·
  try simp only [decide_eq_true_eq, decide_eq_false_iff_not, Bool.not_eq_true', Bool.not_eq_false', beq_iff_eq, beq_eq_false_iff_ne, ne_eq] at h1
  refine at_seq rfl ?_
  refine rg rfl ?_
  refine Rq ?_
  refine Rq ?_
  have tr : ∀ a b c d e f g h i j k m n o p q r s t u v : AV, let l := lc_chk_ok a b c d e f g h i j k m n o p q r s t; trim ((8,v)::(16,u)::l) l = [(0,a),(1,b),(2,c),(3,d),(4,e),(8,v),(9,g),(10,h),(11,i),(15,j),(34,k),(37,m),(38,n),(39,o),(40,p),(41,q),(45,r),(67,s),(73,t)] := by intros; rfl
  refine R_nil (tr ..) ?_; clear tr
  refine then_n ?_
  refine at_ret rfl ?_
  refine then_r ?_
  refine fpure ?_
  refine ⟨?_, rfl⟩
  rw [chkS, if_pos (by assumption)]
 ·
  try simp only [decide_eq_true_eq, decide_eq_false_iff_not, Bool.not_eq_true', Bool.not_eq_false', beq_iff_eq, beq_eq_false_iff_ne, ne_eq] at h1
  refine at_skip rfl ?_
  refine then_n ?_
  refine at_seq rfl ?_
  refine at_seq rfl ?_
  refine rg rfl ?_
  refine Rq ?_
  refine Rq ?_
  refine Rq ?_
  refine Rp_split (fun h2 => ?_) (fun h2 => ?_)
  ·
   try simp only [decide_eq_true_eq, decide_eq_false_iff_not, Bool.not_eq_true', Bool.not_eq_false', beq_iff_eq, beq_eq_false_iff_ne, ne_eq] at h2
   refine Rn ?_
   refine Rn ?_
   refine Rq ?_
   refine Rq ?_
   refine Rn ?_
   refine Rn ?_
   refine Rq ?_
   refine Rq ?_
   refine Rn ?_
   refine Rn ?_
   refine Rn ?_
   refine Rn ?_
   refine Rn ?_
   refine Rn ?_
   refine Rq ?_
   have tr : ∀ a b c d e f g h i j k m n o p q r s t u v w x y z A B C D E F G H I J K L : AV, let l := lc_chk_ok a b c d e f g h i j k m n o p q r s t; trim ((34,L)::(33,K)::(32,J)::(31,I)::(30,H)::(29,G)::(28,F)::(27,E)::(26,D)::(25,C)::(24,B)::(23,A)::(22,z)::(21,y)::(20,x)::(19,w)::(18,v)::(17,u)::l) l = [(0,a),(1,b),(2,c),(3,d),(4,e),(8,f),(9,g),(10,h),(11,i),(15,j),(34,L),(37,m),(38,n),(39,o),(40,p),(41,q),(45,r),(67,s),(73,t)] := by intros; rfl
   refine R_nil (tr ..) ?_; clear tr
   refine then_n ?_
   refine cdt ?_
   refine at_seq rfl ?_
   refine rg rfl ?_
   refine Rq ?_
   have tr : ∀ a b c d e f g h i j k m n o p q r s t u : AV, let l := lc_chk_ok a b c d e f g h i j k m n o p q r s t; trim ((8,u)::l) l = [(0,a),(1,b),(2,c),(3,d),(4,e),(8,u),(9,g),(10,h),(11,i),(15,j),(34,k),(37,m),(38,n),(39,o),(40,p),(41,q),(45,r),(67,s),(73,t)] := by intros; rfl
   refine R_nil (tr ..) ?_; clear tr
   refine then_n ?_
   refine at_ret rfl ?_
   refine then_r ?_
   refine fpure ?_
   refine ⟨?_, rfl⟩
   rw [chkS, if_neg (by omega), if_pos (by unfold chkBad; omega)]
  ·
   try simp only [decide_eq_true_eq, decide_eq_false_iff_not, Bool.not_eq_true', Bool.not_eq_false', beq_iff_eq, beq_eq_false_iff_ne, ne_eq] at h2
   refine Ry ?_
   refine Rq ?_
   refine Ry ?_
   refine Rq ?_
   refine Rq ?_
   refine Rq ?_
   refine Rp_split (fun h3 => ?_) (fun h3 => ?_)
   ·
    try simp only [decide_eq_true_eq, decide_eq_false_iff_not, Bool.not_eq_true', Bool.not_eq_false', beq_iff_eq, beq_eq_false_iff_ne, ne_eq] at h3
    refine Rn ?_
    refine Rn ?_
    refine Rq ?_
    refine Rq ?_
    refine Rn ?_
    refine Rn ?_
    refine Rn ?_
    refine Rn ?_
    refine Rn ?_
    refine Rn ?_
    refine Rq ?_
    have tr : ∀ a b c d e f g h i j k m n o p q r s t u v w x y z A B C D E F G H I J K L : AV, let l := lc_chk_ok a b c d e f g h i j k m n o p q r s t; trim ((34,L)::(33,K)::(32,J)::(31,I)::(30,H)::(29,G)::(28,F)::(27,E)::(26,D)::(25,C)::(24,B)::(23,A)::(22,z)::(21,y)::(20,x)::(19,w)::(18,v)::(17,u)::l) l = [(0,a),(1,b),(2,c),(3,d),(4,e),(8,f),(9,g),(10,h),(11,i),(15,j),(34,L),(37,m),(38,n),(39,o),(40,p),(41,q),(45,r),(67,s),(73,t)] := by intros; rfl
    refine R_nil (tr ..) ?_; clear tr
    refine then_n ?_
    refine cdt ?_
    refine at_seq rfl ?_
    refine rg rfl ?_
    refine Rq ?_
    have tr : ∀ a b c d e f g h i j k m n o p q r s t u : AV, let l := lc_chk_ok a b c d e f g h i j k m n o p q r s t; trim ((8,u)::l) l = [(0,a),(1,b),(2,c),(3,d),(4,e),(8,u),(9,g),(10,h),(11,i),(15,j),(34,k),(37,m),(38,n),(39,o),(40,p),(41,q),(45,r),(67,s),(73,t)] := by intros; rfl
    refine R_nil (tr ..) ?_; clear tr
    refine then_n ?_
    refine at_ret rfl ?_
    refine then_r ?_
    refine fpure ?_
    refine ⟨?_, rfl⟩
    rw [chkS, if_neg (by omega), if_pos (by unfold chkBad; omega)]
   ·
    try simp only [decide_eq_true_eq, decide_eq_false_iff_not, Bool.not_eq_true', Bool.not_eq_false', beq_iff_eq, beq_eq_false_iff_ne, ne_eq] at h3
    refine Ry ?_
    refine Rq ?_
    refine Ry ?_
    refine Rq ?_
    refine Rq ?_
    refine Rq ?_
    refine Rp_split (fun h4 => ?_) (fun h4 => ?_)
    ·
     try simp only [decide_eq_true_eq, decide_eq_false_iff_not, Bool.not_eq_true', Bool.not_eq_false', beq_iff_eq, beq_eq_false_iff_ne, ne_eq] at h4
     refine Rn ?_
     refine Rn ?_
     refine Rn ?_
     refine Rn ?_
     refine Rn ?_
     refine Rn ?_
     refine Rq ?_
     have tr : ∀ a b c d e f g h i j k m n o p q r s t u v w x y z A B C D E F G H I J K L : AV, let l := lc_chk_ok a b c d e f g h i j k m n o p q r s t; trim ((34,L)::(33,K)::(32,J)::(31,I)::(30,H)::(29,G)::(28,F)::(27,E)::(26,D)::(25,C)::(24,B)::(23,A)::(22,z)::(21,y)::(20,x)::(19,w)::(18,v)::(17,u)::l) l = [(0,a),(1,b),(2,c),(3,d),(4,e),(8,f),(9,g),(10,h),(11,i),(15,j),(34,L),(37,m),(38,n),(39,o),(40,p),(41,q),(45,r),(67,s),(73,t)] := by intros; rfl
     refine R_nil (tr ..) ?_; clear tr
     refine then_n ?_
     refine cdt ?_
     refine at_seq rfl ?_
     refine rg rfl ?_
     refine Rq ?_
     have tr : ∀ a b c d e f g h i j k m n o p q r s t u : AV, let l := lc_chk_ok a b c d e f g h i j k m n o p q r s t; trim ((8,u)::l) l = [(0,a),(1,b),(2,c),(3,d),(4,e),(8,u),(9,g),(10,h),(11,i),(15,j),(34,k),(37,m),(38,n),(39,o),(40,p),(41,q),(45,r),(67,s),(73,t)] := by intros; rfl
     refine R_nil (tr ..) ?_; clear tr
     refine then_n ?_
     refine at_ret rfl ?_
     refine then_r ?_
     refine fpure ?_
     refine ⟨?_, rfl⟩
     rw [chkS, if_neg (by omega), if_pos (by unfold chkBad; omega)]
    ·
     try simp only [decide_eq_true_eq, decide_eq_false_iff_not, Bool.not_eq_true', Bool.not_eq_false', beq_iff_eq, beq_eq_false_iff_ne, ne_eq] at h4
     refine Ry ?_
     refine Rq ?_
     refine Ry ?_
     refine Rq ?_
     refine Ry ?_
     refine Rcall ?_
     have s := check_shaped (by assumption : checkS rows = 0)
     have g2 := s.two
     have g91 := s.most
     refine ACall_eq (overs_ok _ _ rows g91 g2) ?_
     have hpm := mul_box (a := (rows.length : Int) - 1) (b := per) (A := 90) (B := 8) (by omega) (by omega) (by omega) (by omega)
     refine Ry ?_
     refine Rq ?_
     refine Ry ?_
     refine Rq ?_
     refine Ry ?_
     refine Rq ?_
     refine Rq ?_
     have tr : ∀ a b c d e f g h i j k m n o p q r s t u v w x y z A B C D E F G H I J K L : AV, let l := lc_chk_ok a b c d e f g h i j k m n o p q r s t; trim ((34,L)::(33,K)::(32,J)::(31,I)::(30,H)::(29,G)::(28,F)::(27,E)::(26,D)::(25,C)::(24,B)::(23,A)::(22,z)::(21,y)::(20,x)::(19,w)::(18,v)::(17,u)::l) l = [(0,a),(1,b),(2,c),(3,d),(4,e),(8,f),(9,g),(10,h),(11,i),(15,j),(34,L),(37,m),(38,n),(39,o),(40,p),(41,q),(45,r),(67,s),(73,t)] := by intros; rfl
     refine R_nil (tr ..) ?_; clear tr
     refine then_n ?_
     refine cdd (fun h5 => ?_) (fun h5 => ?_)
     ·
      try simp only [decide_eq_true_eq, decide_eq_false_iff_not, Bool.not_eq_true', Bool.not_eq_false', beq_iff_eq, beq_eq_false_iff_ne, ne_eq] at h5
      refine at_seq rfl ?_
      refine rg rfl ?_
      refine Rq ?_
      have tr : ∀ a b c d e f g h i j k m n o p q r s t u : AV, let l := lc_chk_ok a b c d e f g h i j k m n o p q r s t; trim ((8,u)::l) l = [(0,a),(1,b),(2,c),(3,d),(4,e),(8,u),(9,g),(10,h),(11,i),(15,j),(34,k),(37,m),(38,n),(39,o),(40,p),(41,q),(45,r),(67,s),(73,t)] := by intros; rfl
      refine R_nil (tr ..) ?_; clear tr
      refine then_n ?_
      refine at_ret rfl ?_
      refine then_r ?_
      refine fpure ?_
      refine ⟨?_, rfl⟩
      rw [chkS, if_neg (by omega), if_pos (by unfold chkBad; omega)]
     ·
      try simp only [decide_eq_true_eq, decide_eq_false_iff_not, Bool.not_eq_true', Bool.not_eq_false', beq_iff_eq, beq_eq_false_iff_ne, ne_eq] at h5
      refine at_skip rfl ?_
      refine then_n ?_
      refine at_seq rfl ?_
      refine at_seq rfl ?_
      refine rg rfl ?_
      refine Rq ?_
      refine Rq ?_
      refine Rq ?_
      have tr : ∀ a b c d e f g h i j k m n o p q r s t u v w : AV, let l := lc_chk_ok a b c d e f g h i j k m n o p q r s t; trim ((37,w)::(36,v)::(35,u)::l) l = [(0,a),(1,b),(2,c),(3,d),(4,e),(8,f),(9,g),(10,h),(11,i),(15,j),(34,k),(37,w),(38,n),(39,o),(40,p),(41,q),(45,r),(67,s),(73,t)] := by intros; rfl
      refine R_nil (tr ..) ?_; clear tr
      refine then_n ?_
      refine cdd (fun h6 => ?_) (fun h6 => ?_)
      ·
       try simp only [decide_eq_true_eq, decide_eq_false_iff_not, Bool.not_eq_true', Bool.not_eq_false', beq_iff_eq, beq_eq_false_iff_ne, ne_eq] at h6
       refine at_seq rfl ?_
       refine rg rfl ?_
       refine Rq ?_
       have tr : ∀ a b c d e f g h i j k m n o p q r s t u : AV, let l := lc_chk_ok a b c d e f g h i j k m n o p q r s t; trim ((8,u)::l) l = [(0,a),(1,b),(2,c),(3,d),(4,e),(8,u),(9,g),(10,h),(11,i),(15,j),(34,k),(37,m),(38,n),(39,o),(40,p),(41,q),(45,r),(67,s),(73,t)] := by intros; rfl
       refine R_nil (tr ..) ?_; clear tr
       refine then_n ?_
       refine at_ret rfl ?_
       refine then_r ?_
       refine fpure ?_
       refine ⟨?_, rfl⟩
       rw [chkS, if_neg (by omega), if_neg (by unfold chkBad; omega), if_pos (by omega)]
      ·
       try simp only [decide_eq_true_eq, decide_eq_false_iff_not, Bool.not_eq_true', Bool.not_eq_false', beq_iff_eq, beq_eq_false_iff_ne, ne_eq] at h6
       refine at_skip rfl ?_
       refine then_n ?_
       refine at_seq rfl ?_
       refine at_seq rfl ?_
       refine rg rfl ?_
       refine Rq ?_
       refine Rq ?_
       refine Rq ?_
       have tr : ∀ a b c d e f g h i j k m n o p q r s t u v w : AV, let l := lc_chk_ok a b c d e f g h i j k m n o p q r s t; trim ((40,w)::(39,v)::(38,u)::l) l = [(0,a),(1,b),(2,c),(3,d),(4,e),(8,f),(9,g),(10,h),(11,i),(15,j),(34,k),(37,m),(38,u),(39,v),(40,w),(41,q),(45,r),(67,s),(73,t)] := by intros; rfl
       refine R_nil (tr ..) ?_; clear tr
       refine then_n ?_
       refine at_block rfl ?_
       refine loop_n rfl (fun mm kv H' => ∃ u : Nat, ∃ X : Heap, ∃ x8 x10 x11 x41 x45 x67 x73 : AV, (kv = [(8, x8), (10, x10), (11, x11), (40, AV.i u), (41, x41), (45, x45), (67, x67), (73, x73)]) ∧ (mm = l.length - u) ∧ (H' = H ++ [some [rowsAV rows]] ++ X) ∧ (u ≤ l.length) ∧ (ferr (stopErr rows balls l) u = 0)) ⟨0, [], _, _, _, _, _, _, _, rfl, rfl, by simp, by omega, by rfl⟩ (by rfl) ?_
       rintro mm kv H1 ⟨u, X, x8, x10, x11, x41, x45, x67, x73, rfl, rfl, hX, hu, hz⟩
       have tr : ∀ a b c d e f g h i j k m n o p q r s t u v w x y z A B : AV, upd [(0,a),(1,b),(2,c),(3,d),(4,e),(8,f),(9,g),(10,h),(11,i),(15,j),(34,k),(37,m),(38,n),(39,o),(40,p),(41,q),(45,r),(67,s),(73,t)] [(8,u),(10,v),(11,w),(40,x),(41,y),(45,z),(67,A),(73,B)] = [(0,a),(1,b),(2,c),(3,d),(4,e),(8,u),(9,g),(10,v),(11,w),(15,j),(34,k),(37,m),(38,n),(39,o),(40,x),(41,y),(45,z),(67,A),(73,B)] := by intros; rfl
       refine W_to (tr ..) ?_; clear tr
       subst hX
       refine at_seq rfl ?_
       refine rg rfl ?_
       refine Rq ?_
       have tr : ∀ a b c d e f g h i j k m n o p q r s t u : AV, let l := lc_chk_ok a b c d e f g h i j k m n o p q r s t; trim ((41,u)::l) l = [(0,a),(1,b),(2,c),(3,d),(4,e),(8,f),(9,g),(10,h),(11,i),(15,j),(34,k),(37,m),(38,n),(39,o),(40,p),(41,u),(45,r),(67,s),(73,t)] := by intros; rfl
       refine R_nil (tr ..) ?_; clear tr
       refine then_n ?_
       refine at_seq rfl ?_
       refine cdd (fun h7 => ?_) (fun h7 => ?_)
       ·
        try simp only [decide_eq_true_eq, decide_eq_false_iff_not, Bool.not_eq_true', Bool.not_eq_false', beq_iff_eq, beq_eq_false_iff_ne, ne_eq] at h7
        refine at_skip rfl ?_
        refine then_n ?_
        refine at_seq rfl ?_
        refine at_block rfl ?_
        refine at_seq rfl ?_
        refine rg rfl ?_
        refine Rq ?_
        refine Rq ?_
        refine Rq ?_
        refine R_alloc (by simp (disch := first | omega | (simp only [List.length_map, List.length_append, List.length_set, List.length_cons, List.length_nil]; omega)) only [go_sem, ↓reduceIte, Nat.reduceEqDiff, reduceCtorEq] <;> rfl) rfl (by simp only [List.map_cons, List.map_nil]; rfl) ?_
        refine Rq ?_
        refine R_store ty56 (by simp (disch := first | omega | (simp only [List.length_map, List.length_append, List.length_set, List.length_cons, List.length_nil]; omega)) only [go_sem, ↓reduceIte, Nat.reduceEqDiff, reduceCtorEq] <;> rfl) (by simp (disch := first | omega | (simp only [List.length_map, List.length_append, List.length_set, List.length_cons, List.length_nil]; omega)) only [go_sem, ↓reduceIte, Nat.reduceEqDiff, reduceCtorEq] <;> rfl) (by simp (disch := first | omega | (simp only [List.length_map, List.length_append, List.length_set, List.length_cons, List.length_nil]; omega)) only [go_sem, ↓reduceIte, Nat.reduceEqDiff, reduceCtorEq] <;> rfl) (by simp) (by rfl) (by simp (disch := first | omega | (simp only [List.length_map, List.length_append, List.length_set, List.length_cons, List.length_nil]; omega)) only [go_sem, ↓reduceIte, Nat.reduceEqDiff, reduceCtorEq] <;> rfl) ?_
        have tr : ∀ a b c d e f g h i j k m n o p q r s t u v w x y : AV, let l := lc_chk_ok a b c d e f g h i j k m n o p q r s t; trim ((10,y)::(11,x)::(44,w)::(43,v)::(42,u)::l) l = [(0,a),(1,b),(2,c),(3,d),(4,e),(8,f),(9,g),(10,y),(11,x),(15,j),(34,k),(37,m),(38,n),(39,o),(40,p),(41,q),(45,r),(67,s),(73,t)] := by intros; rfl
        refine R_nil (tr ..) ?_; clear tr
        refine then_n ?_
        refine at_block rfl ?_
        refine at_seq rfl ?_
        refine rd rfl rfl ?_
        refine Qq ?_
        refine Qq ?_
        refine Qq ?_
        refine Qq ?_
        refine Qq ?_
        refine Qp_split (fun h8 => ?_) (fun h8 => ?_)
        ·
         try simp only [decide_eq_true_eq, decide_eq_false_iff_not, Bool.not_eq_true', Bool.not_eq_false', beq_iff_eq, beq_eq_false_iff_ne, ne_eq] at h8
         refine Qn ?_
         refine Qn ?_
         refine Qn ?_
         refine Qq ?_
         refine Qq ?_
         refine Qn ?_
         refine Qn ?_
         refine Qn ?_
         refine Qq ?_
         refine Qq ?_
         refine Qn ?_
         refine Qn ?_
         refine Qn ?_
         refine Qn ?_
         refine Qn ?_
         refine Qq ?_
         refine Qq ?_
         refine Q_nil ?_
         have tr : ∀ a b c d e f g h i j k m n o p q r s t u v w x y z A B C D E F G H I J K L M N O P : AV, let l := lc_chk_ok a b c d e f g h i j k m n o p q r s t; trim ((45,P)::(66,O)::(65,N)::(64,M)::(63,L)::(62,K)::(61,J)::(60,I)::(59,H)::(58,G)::(57,F)::(56,E)::(55,D)::(54,C)::(53,B)::(52,A)::(51,z)::(50,y)::(49,x)::(48,w)::(47,v)::(46,u)::l) l = [(0,a),(1,b),(2,c),(3,d),(4,e),(8,f),(9,g),(10,h),(11,i),(15,j),(34,k),(37,m),(38,n),(39,o),(40,p),(41,q),(45,P),(67,s),(73,t)] := by intros; rfl
         refine R_nil (tr ..) ?_; clear tr
         refine then_n ?_
         refine cdt ?_
         refine at_seq rfl ?_
         refine rg rfl ?_
         refine Rq ?_
         have tr : ∀ a b c d e f g h i j k m n o p q r s t u : AV, let l := lc_chk_ok a b c d e f g h i j k m n o p q r s t; trim ((8,u)::l) l = [(0,a),(1,b),(2,c),(3,d),(4,e),(8,u),(9,g),(10,h),(11,i),(15,j),(34,k),(37,m),(38,n),(39,o),(40,p),(41,q),(45,r),(67,s),(73,t)] := by intros; rfl
         refine R_nil (tr ..) ?_; clear tr
         refine then_n ?_
         refine at_ret rfl ?_
         refine blk_r ?_
         refine blk_r ?_
         refine then_r ?_
         refine then_r ?_
         refine blk_r ?_
         refine then_r ?_
         refine fpure ?_
         refine ⟨?_, rfl⟩
         have hse : stopErr rows balls l u = 2 := by unfold stopErr; rw [if_pos (by omega)]
         rw [chkS, if_neg (by omega), if_neg (by unfold chkBad; omega), if_neg (by omega), ferr_at hz (by omega) _ (by omega), hse]
        ·
         try simp only [decide_eq_true_eq, decide_eq_false_iff_not, Bool.not_eq_true', Bool.not_eq_false', beq_iff_eq, beq_eq_false_iff_ne, ne_eq] at h8
         refine Qy ?_
         refine Qq ?_
         refine Qy ?_
         refine Qq ?_
         refine Qy ?_
         refine Qq ?_
         refine Qq ?_
         refine Qq ?_
         refine Qp_split (fun h9 => ?_) (fun h9 => ?_)
         ·
          try simp only [decide_eq_true_eq, decide_eq_false_iff_not, Bool.not_eq_true', Bool.not_eq_false', beq_iff_eq, beq_eq_false_iff_ne, ne_eq] at h9
          refine Qn ?_
          refine Qn ?_
          refine Qn ?_
          refine Qq ?_
          refine Qq ?_
          refine Qn ?_
          refine Qn ?_
          refine Qn ?_
          refine Qn ?_
          refine Qn ?_
          refine Qq ?_
          refine Qq ?_
          refine Q_nil ?_
          have tr : ∀ a b c d e f g h i j k m n o p q r s t u v w x y z A B C D E F G H I J K L M N O P : AV, let l := lc_chk_ok a b c d e f g h i j k m n o p q r s t; trim ((45,P)::(66,O)::(65,N)::(64,M)::(63,L)::(62,K)::(61,J)::(60,I)::(59,H)::(58,G)::(57,F)::(56,E)::(55,D)::(54,C)::(53,B)::(52,A)::(51,z)::(50,y)::(49,x)::(48,w)::(47,v)::(46,u)::l) l = [(0,a),(1,b),(2,c),(3,d),(4,e),(8,f),(9,g),(10,h),(11,i),(15,j),(34,k),(37,m),(38,n),(39,o),(40,p),(41,q),(45,P),(67,s),(73,t)] := by intros; rfl
          refine R_nil (tr ..) ?_; clear tr
          refine then_n ?_
          refine cdt ?_
          refine at_seq rfl ?_
          refine rg rfl ?_
          refine Rq ?_
          have tr : ∀ a b c d e f g h i j k m n o p q r s t u : AV, let l := lc_chk_ok a b c d e f g h i j k m n o p q r s t; trim ((8,u)::l) l = [(0,a),(1,b),(2,c),(3,d),(4,e),(8,u),(9,g),(10,h),(11,i),(15,j),(34,k),(37,m),(38,n),(39,o),(40,p),(41,q),(45,r),(67,s),(73,t)] := by intros; rfl
          refine R_nil (tr ..) ?_; clear tr
          refine then_n ?_
          refine at_ret rfl ?_
          refine blk_r ?_
          refine blk_r ?_
          refine then_r ?_
          refine then_r ?_
          refine blk_r ?_
          refine then_r ?_
          refine fpure ?_
          refine ⟨?_, rfl⟩
          have hse : stopErr rows balls l u = 2 := by unfold stopErr; rw [if_pos (by omega)]
          rw [chkS, if_neg (by omega), if_neg (by unfold chkBad; omega), if_neg (by omega), ferr_at hz (by omega) _ (by omega), hse]
         ·
          try simp only [decide_eq_true_eq, decide_eq_false_iff_not, Bool.not_eq_true', Bool.not_eq_false', beq_iff_eq, beq_eq_false_iff_ne, ne_eq] at h9
          refine Qy ?_
          refine Qq ?_
          refine Qy ?_
          refine Qq ?_
          refine Qy ?_
          refine Qq ?_
          refine Qq ?_
          refine Qq ?_
          refine Qp_split (fun h10 => ?_) (fun h10 => ?_)
          ·
           try simp only [decide_eq_true_eq, decide_eq_false_iff_not, Bool.not_eq_true', Bool.not_eq_false', beq_iff_eq, beq_eq_false_iff_ne, ne_eq] at h10
           refine Qn ?_
           refine Qn ?_
           refine Qn ?_
           refine Qn ?_
           refine Qn ?_
           refine Qq ?_
           refine Qq ?_
           refine Q_nil ?_
           have tr : ∀ a b c d e f g h i j k m n o p q r s t u v w x y z A B C D E F G H I J K L M N O P : AV, let l := lc_chk_ok a b c d e f g h i j k m n o p q r s t; trim ((45,P)::(66,O)::(65,N)::(64,M)::(63,L)::(62,K)::(61,J)::(60,I)::(59,H)::(58,G)::(57,F)::(56,E)::(55,D)::(54,C)::(53,B)::(52,A)::(51,z)::(50,y)::(49,x)::(48,w)::(47,v)::(46,u)::l) l = [(0,a),(1,b),(2,c),(3,d),(4,e),(8,f),(9,g),(10,h),(11,i),(15,j),(34,k),(37,m),(38,n),(39,o),(40,p),(41,q),(45,P),(67,s),(73,t)] := by intros; rfl
           refine R_nil (tr ..) ?_; clear tr
           refine then_n ?_
           refine cdt ?_
           refine at_seq rfl ?_
           refine rg rfl ?_
           refine Rq ?_
           have tr : ∀ a b c d e f g h i j k m n o p q r s t u : AV, let l := lc_chk_ok a b c d e f g h i j k m n o p q r s t; trim ((8,u)::l) l = [(0,a),(1,b),(2,c),(3,d),(4,e),(8,u),(9,g),(10,h),(11,i),(15,j),(34,k),(37,m),(38,n),(39,o),(40,p),(41,q),(45,r),(67,s),(73,t)] := by intros; rfl
           refine R_nil (tr ..) ?_; clear tr
           refine then_n ?_
           refine at_ret rfl ?_
           refine blk_r ?_
           refine blk_r ?_
           refine then_r ?_
           refine then_r ?_
           refine blk_r ?_
           refine then_r ?_
           refine fpure ?_
           refine ⟨?_, rfl⟩
           have hse : stopErr rows balls l u = 2 := by unfold stopErr; rw [if_pos (by omega)]
           rw [chkS, if_neg (by omega), if_neg (by unfold chkBad; omega), if_neg (by omega), ferr_at hz (by omega) _ (by omega), hse]
          ·
           try simp only [decide_eq_true_eq, decide_eq_false_iff_not, Bool.not_eq_true', Bool.not_eq_false', beq_iff_eq, beq_eq_false_iff_ne, ne_eq] at h10
           refine Qy ?_
           refine Qq ?_
           refine Qy ?_
           refine Qq ?_
           refine Qy ?_
           refine Qq ?_
           refine Qy ?_
           refine Qcall ?_
           have s := check_shaped (by assumption : checkS rows = 0)
           have g2 := s.two
           refine ACall_eq (wickets_ok _ _ rows g2) ⟨rfl, ?_⟩
           refine Qy ?_
           refine Qq ?_
           refine Qq ?_
           refine Qq ?_
           refine Q_nil ?_
           have tr : ∀ a b c d e f g h i j k m n o p q r s t u v w x y z A B C D E F G H I J K L M N O P : AV, let l := lc_chk_ok a b c d e f g h i j k m n o p q r s t; trim ((45,P)::(66,O)::(65,N)::(64,M)::(63,L)::(62,K)::(61,J)::(60,I)::(59,H)::(58,G)::(57,F)::(56,E)::(55,D)::(54,C)::(53,B)::(52,A)::(51,z)::(50,y)::(49,x)::(48,w)::(47,v)::(46,u)::l) l = [(0,a),(1,b),(2,c),(3,d),(4,e),(8,f),(9,g),(10,h),(11,i),(15,j),(34,k),(37,m),(38,n),(39,o),(40,p),(41,q),(45,P),(67,s),(73,t)] := by intros; rfl
           refine R_nil (tr ..) ?_; clear tr
           refine then_n ?_
           refine cdd (fun h11 => ?_) (fun h11 => ?_)
           ·
            try simp only [decide_eq_true_eq, decide_eq_false_iff_not, Bool.not_eq_true', Bool.not_eq_false', beq_iff_eq, beq_eq_false_iff_ne, ne_eq] at h11
            refine at_seq rfl ?_
            refine rg rfl ?_
            refine Rq ?_
            have tr : ∀ a b c d e f g h i j k m n o p q r s t u : AV, let l := lc_chk_ok a b c d e f g h i j k m n o p q r s t; trim ((8,u)::l) l = [(0,a),(1,b),(2,c),(3,d),(4,e),(8,u),(9,g),(10,h),(11,i),(15,j),(34,k),(37,m),(38,n),(39,o),(40,p),(41,q),(45,r),(67,s),(73,t)] := by intros; rfl
            refine R_nil (tr ..) ?_; clear tr
            refine then_n ?_
            refine at_ret rfl ?_
            refine blk_r ?_
            refine blk_r ?_
            refine then_r ?_
            refine then_r ?_
            refine blk_r ?_
            refine then_r ?_
            refine fpure ?_
            refine ⟨?_, rfl⟩
            have hse : stopErr rows balls l u = 2 := by unfold stopErr; rw [if_pos (by omega)]
            rw [chkS, if_neg (by omega), if_neg (by unfold chkBad; omega), if_neg (by omega), ferr_at hz (by omega) _ (by omega), hse]
           ·
            try simp only [decide_eq_true_eq, decide_eq_false_iff_not, Bool.not_eq_true', Bool.not_eq_false', beq_iff_eq, beq_eq_false_iff_ne, ne_eq] at h11
            refine at_seq rfl ?_
            refine rg rfl ?_
            refine Rq ?_
            refine Rq ?_
            refine Rq ?_
            refine Rq ?_
            refine Rq ?_
            refine Rq ?_
            have tr : ∀ a b c d e f g h i j k m n o p q r s t u v w x y z : AV, let l := lc_chk_ok a b c d e f g h i j k m n o p q r s t; trim ((67,z)::(72,y)::(71,x)::(70,w)::(69,v)::(68,u)::l) l = [(0,a),(1,b),(2,c),(3,d),(4,e),(8,f),(9,g),(10,h),(11,i),(15,j),(34,k),(37,m),(38,n),(39,o),(40,p),(41,q),(45,r),(67,z),(73,t)] := by intros; rfl
            refine R_nil (tr ..) ?_; clear tr
            refine then_n ?_
            refine cdd (fun h12 => ?_) (fun h12 => ?_)
            ·
             try simp only [decide_eq_true_eq, decide_eq_false_iff_not, Bool.not_eq_true', Bool.not_eq_false', beq_iff_eq, beq_eq_false_iff_ne, ne_eq] at h12
             refine at_seq rfl ?_
             refine rg rfl ?_
             refine Rq ?_
             have tr : ∀ a b c d e f g h i j k m n o p q r s t u : AV, let l := lc_chk_ok a b c d e f g h i j k m n o p q r s t; trim ((8,u)::l) l = [(0,a),(1,b),(2,c),(3,d),(4,e),(8,u),(9,g),(10,h),(11,i),(15,j),(34,k),(37,m),(38,n),(39,o),(40,p),(41,q),(45,r),(67,s),(73,t)] := by intros; rfl
             refine R_nil (tr ..) ?_; clear tr
             refine then_n ?_
             refine at_ret rfl ?_
             refine blk_r ?_
             refine blk_r ?_
             refine then_r ?_
             refine then_r ?_
             refine blk_r ?_
             refine then_r ?_
             refine fpure ?_
             refine ⟨?_, rfl⟩
             have hse : stopErr rows balls l u = 1 := by unfold stopErr; rw [if_neg (by omega), if_pos (by omega)]
             rw [chkS, if_neg (by omega), if_neg (by unfold chkBad; omega), if_neg (by omega), ferr_at hz (by omega) _ (by omega), hse]
            ·
             try simp only [decide_eq_true_eq, decide_eq_false_iff_not, Bool.not_eq_true', Bool.not_eq_false', beq_iff_eq, beq_eq_false_iff_ne, ne_eq] at h12
             refine at_seq rfl ?_
             refine rd rfl rfl ?_
             refine Qq ?_
             refine Qq ?_
             refine Qq ?_
             refine Qp_split (fun h13 => ?_) (fun h13 => ?_)
             ·
              try simp only [decide_eq_true_eq, decide_eq_false_iff_not, Bool.not_eq_true', Bool.not_eq_false', beq_iff_eq, beq_eq_false_iff_ne, ne_eq] at h13
              refine Qy ?_
              refine Qq ?_
              refine Qy ?_
              refine Qq ?_
              refine Qy ?_
              refine Qq ?_
              refine Qy ?_
              refine Qq ?_
              refine Qy ?_
              refine Qq ?_
              refine Qy ?_
              refine Qq ?_
              refine Qy ?_
              refine Qq ?_
              refine Qy ?_
              refine Qq ?_
              refine Qy ?_
              refine Qq ?_
              refine Qy ?_
              refine Qq ?_
              refine Qp_split (fun h14 => ?_) (fun h14 => ?_)
              ·
               try simp only [decide_eq_true_eq, decide_eq_false_iff_not, Bool.not_eq_true', Bool.not_eq_false', beq_iff_eq, beq_eq_false_iff_ne, ne_eq] at h14
               refine Qn ?_
               refine Qn ?_
               refine Qn ?_
               refine Qn ?_
               refine Qn ?_
               refine Qn ?_
               refine Qn ?_
               refine Qn ?_
               refine Qn ?_
               refine Qy ?_
               refine Qq ?_
               refine Qq ?_
               refine Qq ?_
               refine Q_nil ?_
               have tr : ∀ a b c d e f g h i j k m n o p q r s t u v w x y z A B C D E F G H I J K L M N O P Q R S : AV, let l := lc_chk_ok a b c d e f g h i j k m n o p q r s t; trim ((73,S)::(97,R)::(96,Q)::(95,P)::(94,O)::(93,N)::(92,M)::(91,L)::(90,K)::(89,J)::(88,I)::(87,H)::(86,G)::(85,F)::(84,E)::(83,D)::(82,C)::(81,B)::(80,A)::(79,z)::(78,y)::(77,x)::(76,w)::(75,v)::(74,u)::l) l = [(0,a),(1,b),(2,c),(3,d),(4,e),(8,f),(9,g),(10,h),(11,i),(15,j),(34,k),(37,m),(38,n),(39,o),(40,p),(41,q),(45,r),(67,s),(73,S)] := by intros; rfl
               refine R_nil (tr ..) ?_; clear tr
               refine then_n ?_
               refine cdt ?_
               refine at_seq rfl ?_
               refine rg rfl ?_
               refine Rq ?_
               have tr : ∀ a b c d e f g h i j k m n o p q r s t u : AV, let l := lc_chk_ok a b c d e f g h i j k m n o p q r s t; trim ((8,u)::l) l = [(0,a),(1,b),(2,c),(3,d),(4,e),(8,u),(9,g),(10,h),(11,i),(15,j),(34,k),(37,m),(38,n),(39,o),(40,p),(41,q),(45,r),(67,s),(73,t)] := by intros; rfl
               refine R_nil (tr ..) ?_; clear tr
               refine then_n ?_
               refine at_ret rfl ?_
               refine blk_r ?_
               refine blk_r ?_
               refine then_r ?_
               refine then_r ?_
               refine blk_r ?_
               refine then_r ?_
               refine fpure ?_
               refine ⟨?_, rfl⟩
               have hse : stopErr rows balls l u = 8 := by unfold stopErr; rw [if_neg (by omega), if_neg (by omega), if_pos (by omega)]
               rw [chkS, if_neg (by omega), if_neg (by unfold chkBad; omega), if_neg (by omega), ferr_at hz (by omega) _ (by omega), hse]
              ·
               try simp only [decide_eq_true_eq, decide_eq_false_iff_not, Bool.not_eq_true', Bool.not_eq_false', beq_iff_eq, beq_eq_false_iff_ne, ne_eq] at h14
               refine Qy ?_
               refine Qq ?_
               refine Qy ?_
               refine Qq ?_
               refine Qy ?_
               refine Qq ?_
               refine Qy ?_
               refine Qq ?_
               refine Qy ?_
               refine Qq ?_
               refine Qy ?_
               refine Qq ?_
               refine Qy ?_
               refine Qq ?_
               refine Qy ?_
               refine Qq ?_
               refine Qy ?_
               refine Qq ?_
               refine Qy ?_
               refine Qq ?_
               refine Qq ?_
               refine Qq ?_
               refine Q_nil ?_
               have tr : ∀ a b c d e f g h i j k m n o p q r s t u v w x y z A B C D E F G H I J K L M N O P Q R S : AV, let l := lc_chk_ok a b c d e f g h i j k m n o p q r s t; trim ((73,S)::(97,R)::(96,Q)::(95,P)::(94,O)::(93,N)::(92,M)::(91,L)::(90,K)::(89,J)::(88,I)::(87,H)::(86,G)::(85,F)::(84,E)::(83,D)::(82,C)::(81,B)::(80,A)::(79,z)::(78,y)::(77,x)::(76,w)::(75,v)::(74,u)::l) l = [(0,a),(1,b),(2,c),(3,d),(4,e),(8,f),(9,g),(10,h),(11,i),(15,j),(34,k),(37,m),(38,n),(39,o),(40,p),(41,q),(45,r),(67,s),(73,S)] := by intros; rfl
               refine R_nil (tr ..) ?_; clear tr
               refine then_n ?_
               refine cdd (fun h15 => ?_) (fun h15 => ?_)
               ·
                try simp only [decide_eq_true_eq, decide_eq_false_iff_not, Bool.not_eq_true', Bool.not_eq_false', beq_iff_eq, beq_eq_false_iff_ne, ne_eq] at h15
                refine at_seq rfl ?_
                refine rg rfl ?_
                refine Rq ?_
                have tr : ∀ a b c d e f g h i j k m n o p q r s t u : AV, let l := lc_chk_ok a b c d e f g h i j k m n o p q r s t; trim ((8,u)::l) l = [(0,a),(1,b),(2,c),(3,d),(4,e),(8,u),(9,g),(10,h),(11,i),(15,j),(34,k),(37,m),(38,n),(39,o),(40,p),(41,q),(45,r),(67,s),(73,t)] := by intros; rfl
                refine R_nil (tr ..) ?_; clear tr
                refine then_n ?_
                refine at_ret rfl ?_
                refine blk_r ?_
                refine blk_r ?_
                refine then_r ?_
                refine then_r ?_
                refine blk_r ?_
                refine then_r ?_
                refine fpure ?_
                refine ⟨?_, rfl⟩
                have hse : stopErr rows balls l u = 8 := by unfold stopErr; rw [if_neg (by omega), if_neg (by omega), if_pos (by omega)]
                rw [chkS, if_neg (by omega), if_neg (by unfold chkBad; omega), if_neg (by omega), ferr_at hz (by omega) _ (by omega), hse]
               ·
                try simp only [decide_eq_true_eq, decide_eq_false_iff_not, Bool.not_eq_true', Bool.not_eq_false', beq_iff_eq, beq_eq_false_iff_ne, ne_eq] at h15
                refine at_skip rfl ?_
                refine blk_n ?_
                refine blk_n ?_
                refine then_n ?_
                refine rg rfl ?_
                refine Rq ?_
                refine Rq ?_
                have tr : ∀ a b c d e f g h i j k m n o p q r s t u v : AV, let l := lc_chk_ok a b c d e f g h i j k m n o p q r s t; trim ((40,v)::(98,u)::l) l = [(0,a),(1,b),(2,c),(3,d),(4,e),(8,f),(9,g),(10,h),(11,i),(15,j),(34,k),(37,m),(38,n),(39,o),(40,v),(41,q),(45,r),(67,s),(73,t)] := by intros; rfl
                refine R_nil (tr ..) ?_; clear tr
                refine then_n ?_
                have hok : stopErr rows balls l u = 0 := by unfold stopErr; rw [if_neg (by omega), if_neg (by omega), if_neg (by omega)]
                exact ⟨_, _, ⟨u + 1, X ++ [some (stC (gt l u))], _, _, _, _, _, _, _, rfl, rfl, by simp; rfl, by omega, by exact ferr_ok hz hok⟩, by rfl, by omega⟩
             ·
              try simp only [decide_eq_true_eq, decide_eq_false_iff_not, Bool.not_eq_true', Bool.not_eq_false', beq_iff_eq, beq_eq_false_iff_ne, ne_eq] at h13
              refine Qn ?_
              refine Qn ?_
              refine Qn ?_
              refine Qn ?_
              refine Qn ?_
              refine Qn ?_
              refine Qn ?_
              refine Qn ?_
              refine Qn ?_
              refine Qn ?_
              refine Qu ?_
              refine Qu ?_
              refine Qu ?_
              refine Qu ?_
              refine Qu ?_
              refine Qu ?_
              refine Qu ?_
              refine Qu ?_
              refine Qu ?_
              refine Qn ?_
              refine Qq ?_
              refine Qq ?_
              refine Q_nil ?_
              have tr : ∀ a b c d e f g h i j k m n o p q r s t u v w x y z A B C D E F G H I J K L M N O P Q R S : AV, let l := lc_chk_ok a b c d e f g h i j k m n o p q r s t; trim ((73,S)::(97,R)::(96,Q)::(95,P)::(94,O)::(93,N)::(92,M)::(91,L)::(90,K)::(89,J)::(88,I)::(87,H)::(86,G)::(85,F)::(84,E)::(83,D)::(82,C)::(81,B)::(80,A)::(79,z)::(78,y)::(77,x)::(76,w)::(75,v)::(74,u)::l) l = [(0,a),(1,b),(2,c),(3,d),(4,e),(8,f),(9,g),(10,h),(11,i),(15,j),(34,k),(37,m),(38,n),(39,o),(40,p),(41,q),(45,r),(67,s),(73,S)] := by intros; rfl
              refine R_nil (tr ..) ?_; clear tr
              refine then_n ?_
              refine cdf ?_
              refine at_skip rfl ?_
              refine blk_n ?_
              refine blk_n ?_
              refine then_n ?_
              refine rg rfl ?_
              refine Rq ?_
              refine Rq ?_
              have tr : ∀ a b c d e f g h i j k m n o p q r s t u v : AV, let l := lc_chk_ok a b c d e f g h i j k m n o p q r s t; trim ((40,v)::(98,u)::l) l = [(0,a),(1,b),(2,c),(3,d),(4,e),(8,f),(9,g),(10,h),(11,i),(15,j),(34,k),(37,m),(38,n),(39,o),(40,v),(41,q),(45,r),(67,s),(73,t)] := by intros; rfl
              refine R_nil (tr ..) ?_; clear tr
              refine then_n ?_
              have hok : stopErr rows balls l u = 0 := by unfold stopErr; rw [if_neg (by omega), if_neg (by omega), if_neg (by omega)]
              exact ⟨_, _, ⟨u + 1, X ++ [some (stC (gt l u))], _, _, _, _, _, _, _, rfl, rfl, by simp; rfl, by omega, by exact ferr_ok hz hok⟩, by rfl, by omega⟩
       ·
        try simp only [decide_eq_true_eq, decide_eq_false_iff_not, Bool.not_eq_true', Bool.not_eq_false', beq_iff_eq, beq_eq_false_iff_ne, ne_eq] at h7
        refine at_exit rfl ?_
        refine then_x ?_
        refine then_x ?_
        refine blk_x ?_
        refine then_n ?_
        refine at_seq rfl ?_
        refine rg rfl ?_
        refine Rq ?_
        have tr : ∀ a b c d e f g h i j k m n o p q r s t u : AV, let l := lc_chk_ok a b c d e f g h i j k m n o p q r s t; trim ((8,u)::l) l = [(0,a),(1,b),(2,c),(3,d),(4,e),(8,u),(9,g),(10,h),(11,i),(15,j),(34,k),(37,m),(38,n),(39,o),(40,p),(41,q),(45,r),(67,s),(73,t)] := by intros; rfl
        refine R_nil (tr ..) ?_; clear tr
        refine then_n ?_
        refine at_ret rfl ?_
        refine fpure ?_
        refine ⟨?_, rfl⟩
        rw [chkS, if_neg (by omega), if_neg (by unfold chkBad; omega), if_neg (by omega), show ferr (stopErr rows balls l) l.length = 0 by rw [show l.length = u by omega]; exact hz]

end Go.Proofs.Ytaoondlakhocnaa
end
