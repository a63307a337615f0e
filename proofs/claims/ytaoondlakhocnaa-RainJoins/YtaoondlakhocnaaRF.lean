/-
  Walks of chapters 37, 39 and 40. The steps are written by program (walk.py).
-/
import Derived.Test.YtaoondlakhocnaaRD
set_option linter.unusedSimpArgs false
set_option linter.unusedVariables false
set_option maxHeartbeats 40000000
set_option maxRecDepth 4000
namespace Go.Proofs.Ytaoondlakhocnaa
open Go Go.Am

abbrev lc_check_ok (a b c d e f g h i j k m n o p q r s t u v w x y z A B C D : AV) : Env := [(0,a),(1,b),(2,c),(3,d),(4,e),(5,f),(6,g),(7,h),(8,i),(9,j),(10,k),(11,m),(15,n),(20,o),(23,p),(24,q),(25,r),(26,s),(30,t),(31,u),(32,v),(33,w),(67,x),(74,y),(81,z),(82,A),(83,B),(84,C),(118,D)]
theorem check_ok (lim : Nat) (H : Heap) (rows : Tb) :
    ACall sig lim 55 [.agg [rowsAV rows]] H fun r H' => r = AV.i (checkS rows) ∧ H' = H := by
 refine ACall_pure (fa := fa55) rfl rfl rfl rfl ?_
 have tr : ∀ a0 : AV, env0 fa55.keep [a0] = [(0,a0),(1,.any),(2,.any),(3,.any),(4,.any),(5,.any),(6,.any),(7,.any),(8,.any),(9,.any),(10,.any),(11,.any),(15,.any),(20,.any),(23,.any),(24,.any),(25,.any),(26,.any),(30,.any),(31,.any),(32,.any),(33,.any),(67,.any),(74,.any),(81,.any),(82,.any),(83,.any),(84,.any),(118,.any)] := fun a0 => rfl
 refine W_to (tr _) ?_; clear tr
 refine at_seq rfl ?_
 refine rg rfl ?_
 refine R_box rfl (by simp (disch := first | omega | (simp only [List.length_map, List.length_append, List.length_set, List.length_cons, List.length_nil]; omega)) only [go_sem, ↓reduceIte, Nat.reduceEqDiff, reduceCtorEq]; rfl) rfl rfl ?_
 refine Rq ?_
 have tr : ∀ a b c d e f g h i j k m n o p q r s t u v w x y z A B C D E F : AV, let l := lc_check_ok a b c d e f g h i j k m n o p q r s t u v w x y z A B C D; trim ((2,F)::(1,E)::l) l = [(0,a),(1,E),(2,F),(3,d),(4,e),(5,f),(6,g),(7,h),(8,i),(9,j),(10,k),(11,m),(15,n),(20,o),(23,p),(24,q),(25,r),(26,s),(30,t),(31,u),(32,v),(33,w),(67,x),(74,y),(81,z),(82,A),(83,B),(84,C),(118,D)] := by intros; rfl
 refine R_nil (tr ..) ?_; clear tr
 refine then_n ?_
 refine at_seq rfl ?_
 refine at_seq rfl ?_
 refine rg rfl ?_
 refine Rq ?_
 refine Rcall ?_
 refine ACall_eq (shape_ok _ _ _) ?_
 refine Rq ?_
 have tr : ∀ a b c d e f g h i j k m n o p q r s t u v w x y z A B C D E F G : AV, let l := lc_check_ok a b c d e f g h i j k m n o p q r s t u v w x y z A B C D; trim ((3,G)::(13,F)::(12,E)::l) l = [(0,a),(1,b),(2,c),(3,G),(4,e),(5,f),(6,g),(7,h),(8,i),(9,j),(10,k),(11,m),(15,n),(20,o),(23,p),(24,q),(25,r),(26,s),(30,t),(31,u),(32,v),(33,w),(67,x),(74,y),(81,z),(82,A),(83,B),(84,C),(118,D)] := by intros; rfl
 refine R_nil (tr ..) ?_; clear tr
 refine then_n ?_
 refine at_seq rfl ?_
 refine rg rfl ?_
 refine Rq ?_
 refine Rq ?_
 have tr : ∀ a b c d e f g h i j k m n o p q r s t u v w x y z A B C D E F : AV, let l := lc_check_ok a b c d e f g h i j k m n o p q r s t u v w x y z A B C D; trim ((15,F)::(14,E)::l) l = [(0,a),(1,b),(2,c),(3,d),(4,e),(5,f),(6,g),(7,h),(8,i),(9,j),(10,k),(11,m),(15,F),(20,o),(23,p),(24,q),(25,r),(26,s),(30,t),(31,u),(32,v),(33,w),(67,x),(74,y),(81,z),(82,A),(83,B),(84,C),(118,D)] := by intros; rfl
 refine R_nil (tr ..) ?_; clear tr
 refine then_n ?_
 refine cdd (fun h1 => ?_) (fun h1 => ?_)
 ·
  try simp only [decide_eq_true_eq, decide_eq_false_iff_not, Bool.not_eq_true', Bool.not_eq_false', beq_iff_eq, beq_eq_false_iff_ne, ne_eq] at h1
  refine at_seq rfl ?_
  refine rg rfl ?_
  refine Rq ?_
  refine Rq ?_
  have tr : ∀ a b c d e f g h i j k m n o p q r s t u v w x y z A B C D E F : AV, let l := lc_check_ok a b c d e f g h i j k m n o p q r s t u v w x y z A B C D; trim ((2,F)::(16,E)::l) l = [(0,a),(1,b),(2,F),(3,d),(4,e),(5,f),(6,g),(7,h),(8,i),(9,j),(10,k),(11,m),(15,n),(20,o),(23,p),(24,q),(25,r),(26,s),(30,t),(31,u),(32,v),(33,w),(67,x),(74,y),(81,z),(82,A),(83,B),(84,C),(118,D)] := by intros; rfl
  refine R_nil (tr ..) ?_; clear tr
  refine then_n ?_
  refine at_ret rfl ?_
  refine then_r ?_
  refine fpure ?_
  refine ⟨?_, rfl⟩
  rw [checkS, if_pos h1]
 ·
  try simp only [decide_eq_true_eq, decide_eq_false_iff_not, Bool.not_eq_true', Bool.not_eq_false', beq_iff_eq, beq_eq_false_iff_ne, ne_eq] at h1
  refine at_skip rfl ?_
  refine then_n ?_
  refine at_seq rfl ?_
  refine at_seq rfl ?_
  refine rg rfl ?_
  refine Rq ?_
  refine Rcall ?_
  refine ACall_eq (ends_ok _ _ _ (shaped_of h1)) ?_
  refine Rq ?_
  have tr : ∀ a b c d e f g h i j k m n o p q r s t u v w x y z A B C D E F G : AV, let l := lc_check_ok a b c d e f g h i j k m n o p q r s t u v w x y z A B C D; trim ((4,G)::(18,F)::(17,E)::l) l = [(0,a),(1,b),(2,c),(3,d),(4,G),(5,f),(6,g),(7,h),(8,i),(9,j),(10,k),(11,m),(15,n),(20,o),(23,p),(24,q),(25,r),(26,s),(30,t),(31,u),(32,v),(33,w),(67,x),(74,y),(81,z),(82,A),(83,B),(84,C),(118,D)] := by intros; rfl
  refine R_nil (tr ..) ?_; clear tr
  refine then_n ?_
  refine at_seq rfl ?_
  refine rg rfl ?_
  refine Rq ?_
  refine Rq ?_
  have tr : ∀ a b c d e f g h i j k m n o p q r s t u v w x y z A B C D E F : AV, let l := lc_check_ok a b c d e f g h i j k m n o p q r s t u v w x y z A B C D; trim ((20,F)::(19,E)::l) l = [(0,a),(1,b),(2,c),(3,d),(4,e),(5,f),(6,g),(7,h),(8,i),(9,j),(10,k),(11,m),(15,n),(20,F),(23,p),(24,q),(25,r),(26,s),(30,t),(31,u),(32,v),(33,w),(67,x),(74,y),(81,z),(82,A),(83,B),(84,C),(118,D)] := by intros; rfl
  refine R_nil (tr ..) ?_; clear tr
  refine then_n ?_
  refine cdd (fun h2 => ?_) (fun h2 => ?_)
  ·
   try simp only [decide_eq_true_eq, decide_eq_false_iff_not, Bool.not_eq_true', Bool.not_eq_false', beq_iff_eq, beq_eq_false_iff_ne, ne_eq] at h2
   refine at_seq rfl ?_
   refine rg rfl ?_
   refine Rq ?_
   refine Rq ?_
   have tr : ∀ a b c d e f g h i j k m n o p q r s t u v w x y z A B C D E F : AV, let l := lc_check_ok a b c d e f g h i j k m n o p q r s t u v w x y z A B C D; trim ((2,F)::(21,E)::l) l = [(0,a),(1,b),(2,F),(3,d),(4,e),(5,f),(6,g),(7,h),(8,i),(9,j),(10,k),(11,m),(15,n),(20,o),(23,p),(24,q),(25,r),(26,s),(30,t),(31,u),(32,v),(33,w),(67,x),(74,y),(81,z),(82,A),(83,B),(84,C),(118,D)] := by intros; rfl
   refine R_nil (tr ..) ?_; clear tr
   refine then_n ?_
   refine at_ret rfl ?_
   refine then_r ?_
   refine fpure ?_
   refine ⟨?_, rfl⟩
   rw [checkS, if_neg (fun hh => hh h1), if_pos h2]
  ·
   try simp only [decide_eq_true_eq, decide_eq_false_iff_not, Bool.not_eq_true', Bool.not_eq_false', beq_iff_eq, beq_eq_false_iff_ne, ne_eq] at h2
   refine at_skip rfl ?_
   refine then_n ?_
   refine at_seq rfl ?_
   refine at_seq rfl ?_
   refine rg rfl ?_
   obtain ⟨g2, g91, g1, g10, gl, gr⟩ := shaped_of h1
   refine Rq ?_
   refine Rq ?_
   refine Rq ?_
   refine Rq ?_
   have tr : ∀ a b c d e f g h i j k m n o p q r s t u v w x y z A B C D E F G H : AV, let l := lc_check_ok a b c d e f g h i j k m n o p q r s t u v w x y z A B C D; trim ((25,H)::(24,G)::(23,F)::(22,E)::l) l = [(0,a),(1,b),(2,c),(3,d),(4,e),(5,f),(6,g),(7,h),(8,i),(9,j),(10,k),(11,m),(15,n),(20,o),(23,F),(24,G),(25,H),(26,s),(30,t),(31,u),(32,v),(33,w),(67,x),(74,y),(81,z),(82,A),(83,B),(84,C),(118,D)] := by intros; rfl
   refine R_nil (tr ..) ?_; clear tr
   refine then_n ?_
   refine at_block rfl ?_
   refine loop_n rfl (fun mm kv H' => ∃ u : Nat, ∃ x2 x5 x6 x7 x8 x26 x30 x31 x32 x33 x67 : AV, (kv = [(2, x2), (5, x5), (6, x6), (7, x7), (8, x8), (25, AV.i u), (26, x26), (30, x30), (31, x31), (32, x32), (33, x33), (67, x67)]) ∧ (mm = rows.length - u) ∧ (H' = H ++ [some [rowsAV rows]]) ∧ (u ≤ rows.length) ∧ (∀ i, i < u → ∀ w, w < (gt rows i).length → (0 < i → gt (gt rows (i - 1)) w ≤ gt (gt rows i) w) ∧ (w + 1 < (gt rows i).length → gt (gt rows i) (w + 1) ≤ gt (gt rows i) w))) ⟨0, _, _, _, _, _, _, _, _, _, _, _, rfl, rfl, rfl, by omega, by intro i hi; omega⟩ (by rfl) ?_
   rintro mm kv H' ⟨u, x2, x5, x6, x7, x8, x26, x30, x31, x32, x33, x67, rfl, rfl, rfl, hu, hq⟩
   have tr : ∀ a b c d e f g h i j k m n o p q r s t u v w x y z A B C D E F G H I J K L M N O P : AV, upd [(0,a),(1,b),(2,c),(3,d),(4,e),(5,f),(6,g),(7,h),(8,i),(9,j),(10,k),(11,m),(15,n),(20,o),(23,p),(24,q),(25,r),(26,s),(30,t),(31,u),(32,v),(33,w),(67,x),(74,y),(81,z),(82,A),(83,B),(84,C),(118,D)] [(2,E),(5,F),(6,G),(7,H),(8,I),(25,J),(26,K),(30,L),(31,M),(32,N),(33,O),(67,P)] = [(0,a),(1,b),(2,E),(3,d),(4,e),(5,F),(6,G),(7,H),(8,I),(9,j),(10,k),(11,m),(15,n),(20,o),(23,p),(24,q),(25,J),(26,K),(30,L),(31,M),(32,N),(33,O),(67,P),(74,y),(81,z),(82,A),(83,B),(84,C),(118,D)] := by intros; rfl
   refine W_to (tr ..) ?_; clear tr
   refine at_seq rfl ?_
   refine rg rfl ?_
   refine Rq ?_
   have tr : ∀ a b c d e f g h i j k m n o p q r s t u v w x y z A B C D E : AV, let l := lc_check_ok a b c d e f g h i j k m n o p q r s t u v w x y z A B C D; trim ((26,E)::l) l = [(0,a),(1,b),(2,c),(3,d),(4,e),(5,f),(6,g),(7,h),(8,i),(9,j),(10,k),(11,m),(15,n),(20,o),(23,p),(24,q),(25,r),(26,E),(30,t),(31,u),(32,v),(33,w),(67,x),(74,y),(81,z),(82,A),(83,B),(84,C),(118,D)] := by intros; rfl
   refine R_nil (tr ..) ?_; clear tr
   refine then_n ?_
   refine at_seq rfl ?_
   refine cdd (fun h3 => ?_) (fun h3 => ?_)
   ·
    try simp only [decide_eq_true_eq, decide_eq_false_iff_not, Bool.not_eq_true', Bool.not_eq_false', beq_iff_eq, beq_eq_false_iff_ne, ne_eq] at h3
    refine at_skip rfl ?_
    refine then_n ?_
    refine at_seq rfl ?_
    refine at_block rfl ?_
    refine at_seq rfl ?_
    refine rg rfl ?_
    refine Rq ?_
    refine Rq ?_
    refine Rq ?_
    refine Rq ?_
    refine Rq ?_
    have tr : ∀ a b c d e f g h i j k m n o p q r s t u v w x y z A B C D E F G H I : AV, let l := lc_check_ok a b c d e f g h i j k m n o p q r s t u v w x y z A B C D; trim ((6,I)::(5,H)::(29,G)::(28,F)::(27,E)::l) l = [(0,a),(1,b),(2,c),(3,d),(4,e),(5,H),(6,I),(7,h),(8,i),(9,j),(10,k),(11,m),(15,n),(20,o),(23,p),(24,q),(25,r),(26,s),(30,t),(31,u),(32,v),(33,w),(67,x),(74,y),(81,z),(82,A),(83,B),(84,C),(118,D)] := by intros; rfl
    refine R_nil (tr ..) ?_; clear tr
    refine then_n ?_
    refine at_seq rfl ?_
    refine rg rfl ?_
    have hlu := gl u (by omega)
    have hlu1 := gl (u - 1) (by omega)
    refine Rq ?_
    refine Rq ?_
    refine Rq ?_
    have tr : ∀ a b c d e f g h i j k m n o p q r s t u v w x y z A B C D E F G : AV, let l := lc_check_ok a b c d e f g h i j k m n o p q r s t u v w x y z A B C D; trim ((32,G)::(31,F)::(30,E)::l) l = [(0,a),(1,b),(2,c),(3,d),(4,e),(5,f),(6,g),(7,h),(8,i),(9,j),(10,k),(11,m),(15,n),(20,o),(23,p),(24,q),(25,r),(26,s),(30,E),(31,F),(32,G),(33,w),(67,x),(74,y),(81,z),(82,A),(83,B),(84,C),(118,D)] := by intros; rfl
    refine R_nil (tr ..) ?_; clear tr
    refine then_n ?_
    refine at_block rfl ?_
    refine loop_n rfl (fun mm kv H' => ∃ w : Nat, ∃ x2 x7 x8 x33 x67 : AV, (kv = [(2, x2), (7, x7), (8, x8), (32, AV.i w), (33, x33), (67, x67)]) ∧ (mm = (gt rows u).length - w) ∧ (H' = H ++ [some [rowsAV rows]]) ∧ (w ≤ (gt rows u).length) ∧ (∀ j, j < w → (0 < u → gt (gt rows (u - 1)) j ≤ gt (gt rows u) j) ∧ (j + 1 < (gt rows u).length → gt (gt rows u) (j + 1) ≤ gt (gt rows u) j))) ⟨0, _, _, _, _, _, rfl, rfl, rfl, by omega, by intro i hi; omega⟩ (by rfl) ?_
    rintro mm kv H' ⟨w, x2, x7, x8, x33, x67, rfl, rfl, rfl, hw, hs⟩
    have tr : ∀ a b c d e f g h i j k m n o p q r s t u v w x y z A B C D E F G H I J : AV, upd [(0,a),(1,b),(2,c),(3,d),(4,e),(5,f),(6,g),(7,h),(8,i),(9,j),(10,k),(11,m),(15,n),(20,o),(23,p),(24,q),(25,r),(26,s),(30,t),(31,u),(32,v),(33,w),(67,x),(74,y),(81,z),(82,A),(83,B),(84,C),(118,D)] [(2,E),(7,F),(8,G),(32,H),(33,I),(67,J)] = [(0,a),(1,b),(2,E),(3,d),(4,e),(5,f),(6,g),(7,F),(8,G),(9,j),(10,k),(11,m),(15,n),(20,o),(23,p),(24,q),(25,r),(26,s),(30,t),(31,u),(32,H),(33,I),(67,J),(74,y),(81,z),(82,A),(83,B),(84,C),(118,D)] := by intros; rfl
    refine W_to (tr ..) ?_; clear tr
    refine at_seq rfl ?_
    refine rg rfl ?_
    refine Rq ?_
    have tr : ∀ a b c d e f g h i j k m n o p q r s t u v w x y z A B C D E : AV, let l := lc_check_ok a b c d e f g h i j k m n o p q r s t u v w x y z A B C D; trim ((33,E)::l) l = [(0,a),(1,b),(2,c),(3,d),(4,e),(5,f),(6,g),(7,h),(8,i),(9,j),(10,k),(11,m),(15,n),(20,o),(23,p),(24,q),(25,r),(26,s),(30,t),(31,u),(32,v),(33,E),(67,x),(74,y),(81,z),(82,A),(83,B),(84,C),(118,D)] := by intros; rfl
    refine R_nil (tr ..) ?_; clear tr
    refine then_n ?_
    refine at_seq rfl ?_
    refine cdd (fun h4 => ?_) (fun h4 => ?_)
    ·
     try simp only [decide_eq_true_eq, decide_eq_false_iff_not, Bool.not_eq_true', Bool.not_eq_false', beq_iff_eq, beq_eq_false_iff_ne, ne_eq] at h4
     refine at_skip rfl ?_
     refine then_n ?_
     refine at_seq rfl ?_
     refine at_block rfl ?_
     refine at_seq rfl ?_
     refine rg rfl ?_
     refine Rq ?_
     refine Rq ?_
     refine Rq ?_
     refine Rq ?_
     refine Rq ?_
     have tr : ∀ a b c d e f g h i j k m n o p q r s t u v w x y z A B C D E F G H I : AV, let l := lc_check_ok a b c d e f g h i j k m n o p q r s t u v w x y z A B C D; trim ((8,I)::(7,H)::(36,G)::(35,F)::(34,E)::l) l = [(0,a),(1,b),(2,c),(3,d),(4,e),(5,f),(6,g),(7,H),(8,I),(9,j),(10,k),(11,m),(15,n),(20,o),(23,p),(24,q),(25,r),(26,s),(30,t),(31,u),(32,v),(33,w),(67,x),(74,y),(81,z),(82,A),(83,B),(84,C),(118,D)] := by intros; rfl
     refine R_nil (tr ..) ?_; clear tr
     refine then_n ?_
     refine at_seq rfl ?_
     refine rg rfl ?_
     refine Rq ?_
     refine Rq ?_
     refine Rq ?_
     refine Rp_split (fun h5 => ?_) (fun h5 => ?_)
     ·
      try simp only [decide_eq_true_eq, decide_eq_false_iff_not, Bool.not_eq_true', Bool.not_eq_false', beq_iff_eq, beq_eq_false_iff_ne, ne_eq] at h5
      refine Ry ?_
      refine Rq ?_
      refine Ry ?_
      refine Rq ?_
      refine Ry ?_
      refine Rq ?_
      refine Ry ?_
      refine Rq ?_
      refine Ry ?_
      refine Rq ?_
      refine Ry ?_
      refine Rq ?_
      refine Ry ?_
      refine Rq ?_
      refine Ry ?_
      refine Rq ?_
      refine Ry ?_
      refine Rq ?_
      refine Ry ?_
      refine Rq ?_
      refine Ry ?_
      refine Rq ?_
      refine Rq ?_
      refine Rq ?_
      refine Rp_split (fun h6 => ?_) (fun h6 => ?_)
      ·
       try simp only [decide_eq_true_eq, decide_eq_false_iff_not, Bool.not_eq_true', Bool.not_eq_false', beq_iff_eq, beq_eq_false_iff_ne, ne_eq] at h6
       refine Rn ?_
       refine Rn ?_
       refine Rn ?_
       refine Rn ?_
       refine Rn ?_
       refine Rn ?_
       refine Ru ?_
       refine Ru ?_
       refine Ru ?_
       refine Ru ?_
       refine Ru ?_
       refine Ru ?_
       refine Ru ?_
       refine Rn ?_
       refine Rq ?_
       have tr : ∀ a b c d e f g h i j k m n o p q r s t u v w x y z A B C D E F G H I J K L M N O P Q R S T U V W X Y Z a1 b1 c1 d1 e1 f1 g1 h1 i1 : AV, let l := lc_check_ok a b c d e f g h i j k m n o p q r s t u v w x y z A B C D; trim ((67,i1)::(66,h1)::(65,g1)::(64,f1)::(63,e1)::(62,d1)::(61,c1)::(60,b1)::(59,a1)::(58,Z)::(57,Y)::(56,X)::(55,W)::(54,V)::(53,U)::(52,T)::(51,S)::(50,R)::(49,Q)::(48,P)::(47,O)::(46,N)::(45,M)::(44,L)::(43,K)::(42,J)::(41,I)::(40,H)::(39,G)::(38,F)::(37,E)::l) l = [(0,a),(1,b),(2,c),(3,d),(4,e),(5,f),(6,g),(7,h),(8,i),(9,j),(10,k),(11,m),(15,n),(20,o),(23,p),(24,q),(25,r),(26,s),(30,t),(31,u),(32,v),(33,w),(67,i1),(74,y),(81,z),(82,A),(83,B),(84,C),(118,D)] := by intros; rfl
       refine R_nil (tr ..) ?_; clear tr
       refine then_n ?_
       refine cdt ?_
       refine at_seq rfl ?_
       refine rg rfl ?_
       refine Rq ?_
       have tr : ∀ a b c d e f g h i j k m n o p q r s t u v w x y z A B C D E : AV, let l := lc_check_ok a b c d e f g h i j k m n o p q r s t u v w x y z A B C D; trim ((2,E)::l) l = [(0,a),(1,b),(2,E),(3,d),(4,e),(5,f),(6,g),(7,h),(8,i),(9,j),(10,k),(11,m),(15,n),(20,o),(23,p),(24,q),(25,r),(26,s),(30,t),(31,u),(32,v),(33,w),(67,x),(74,y),(81,z),(82,A),(83,B),(84,C),(118,D)] := by intros; rfl
       refine R_nil (tr ..) ?_; clear tr
       refine then_n ?_
       refine at_ret rfl ?_
       refine blk_r ?_
       refine then_r ?_
       refine then_r ?_
       refine blk_r ?_
       refine blk_r ?_
       refine then_r ?_
       refine then_r ?_
       refine blk_r ?_
       refine then_r ?_
       refine fpure ?_
       refine ⟨?_, rfl⟩
       rw [checkS, if_neg (fun hh => hh h1), if_neg (fun hh => hh h2), if_pos (fun hh => absurd ((hh u (by omega) w (by omega)).1 (by omega)) (by omega))]
      ·
       try simp only [decide_eq_true_eq, decide_eq_false_iff_not, Bool.not_eq_true', Bool.not_eq_false', beq_iff_eq, beq_eq_false_iff_ne, ne_eq] at h6
       refine Ry ?_
       refine Rq ?_
       refine Ry ?_
       refine Rq ?_
       refine Ry ?_
       refine Rq ?_
       refine Ry ?_
       refine Rq ?_
       refine Ry ?_
       refine Rq ?_
       refine Ry ?_
       refine Rq ?_
       refine Rp_split (fun h7 => ?_) (fun h7 => ?_)
       ·
        try simp only [decide_eq_true_eq, decide_eq_false_iff_not, Bool.not_eq_true', Bool.not_eq_false', beq_iff_eq, beq_eq_false_iff_ne, ne_eq] at h7
        refine Ry ?_
        refine Rq ?_
        refine Ry ?_
        refine Rq ?_
        refine Ry ?_
        refine Rq ?_
        refine Ry ?_
        refine Rq ?_
        refine Ry ?_
        refine Rq ?_
        refine Ry ?_
        refine Rq ?_
        refine Ry ?_
        refine Rq ?_
        refine Ry ?_
        refine Rq ?_
        refine Rq ?_
        have tr : ∀ a b c d e f g h i j k m n o p q r s t u v w x y z A B C D E F G H I J K L M N O P Q R S T U V W X Y Z a1 b1 c1 d1 e1 f1 g1 h1 i1 : AV, let l := lc_check_ok a b c d e f g h i j k m n o p q r s t u v w x y z A B C D; trim ((67,i1)::(66,h1)::(65,g1)::(64,f1)::(63,e1)::(62,d1)::(61,c1)::(60,b1)::(59,a1)::(58,Z)::(57,Y)::(56,X)::(55,W)::(54,V)::(53,U)::(52,T)::(51,S)::(50,R)::(49,Q)::(48,P)::(47,O)::(46,N)::(45,M)::(44,L)::(43,K)::(42,J)::(41,I)::(40,H)::(39,G)::(38,F)::(37,E)::l) l = [(0,a),(1,b),(2,c),(3,d),(4,e),(5,f),(6,g),(7,h),(8,i),(9,j),(10,k),(11,m),(15,n),(20,o),(23,p),(24,q),(25,r),(26,s),(30,t),(31,u),(32,v),(33,w),(67,i1),(74,y),(81,z),(82,A),(83,B),(84,C),(118,D)] := by intros; rfl
        refine R_nil (tr ..) ?_; clear tr
        refine then_n ?_
        refine cdd (fun h8 => ?_) (fun h8 => ?_)
        ·
         try simp only [decide_eq_true_eq, decide_eq_false_iff_not, Bool.not_eq_true', Bool.not_eq_false', beq_iff_eq, beq_eq_false_iff_ne, ne_eq] at h8
         refine at_seq rfl ?_
         refine rg rfl ?_
         refine Rq ?_
         have tr : ∀ a b c d e f g h i j k m n o p q r s t u v w x y z A B C D E : AV, let l := lc_check_ok a b c d e f g h i j k m n o p q r s t u v w x y z A B C D; trim ((2,E)::l) l = [(0,a),(1,b),(2,E),(3,d),(4,e),(5,f),(6,g),(7,h),(8,i),(9,j),(10,k),(11,m),(15,n),(20,o),(23,p),(24,q),(25,r),(26,s),(30,t),(31,u),(32,v),(33,w),(67,x),(74,y),(81,z),(82,A),(83,B),(84,C),(118,D)] := by intros; rfl
         refine R_nil (tr ..) ?_; clear tr
         refine then_n ?_
         refine at_ret rfl ?_
         refine blk_r ?_
         refine then_r ?_
         refine then_r ?_
         refine blk_r ?_
         refine blk_r ?_
         refine then_r ?_
         refine then_r ?_
         refine blk_r ?_
         refine then_r ?_
         refine fpure ?_
         refine ⟨?_, rfl⟩
         rw [checkS, if_neg (fun hh => hh h1), if_neg (fun hh => hh h2), if_pos (fun hh => absurd ((hh u (by omega) w (by omega)).2 (by omega)) (by omega))]
        ·
         try simp only [decide_eq_true_eq, decide_eq_false_iff_not, Bool.not_eq_true', Bool.not_eq_false', beq_iff_eq, beq_eq_false_iff_ne, ne_eq] at h8
         refine at_skip rfl ?_
         refine blk_n ?_
         refine then_n ?_
         refine rg rfl ?_
         refine Rq ?_
         refine Rq ?_
         have tr : ∀ a b c d e f g h i j k m n o p q r s t u v w x y z A B C D E F : AV, let l := lc_check_ok a b c d e f g h i j k m n o p q r s t u v w x y z A B C D; trim ((32,F)::(68,E)::l) l = [(0,a),(1,b),(2,c),(3,d),(4,e),(5,f),(6,g),(7,h),(8,i),(9,j),(10,k),(11,m),(15,n),(20,o),(23,p),(24,q),(25,r),(26,s),(30,t),(31,u),(32,F),(33,w),(67,x),(74,y),(81,z),(82,A),(83,B),(84,C),(118,D)] := by intros; rfl
         refine R_nil (tr ..) ?_; clear tr
         refine then_n ?_
         exact ⟨_, _, ⟨w + 1, _, _, _, _, _, rfl, rfl, rfl, by omega, by exact all_step hs ⟨fun _ => by omega, fun _ => by omega⟩⟩, by rfl, by omega⟩
       ·
        try simp only [decide_eq_true_eq, decide_eq_false_iff_not, Bool.not_eq_true', Bool.not_eq_false', beq_iff_eq, beq_eq_false_iff_ne, ne_eq] at h7
        refine Rn ?_
        refine Rn ?_
        refine Rn ?_
        refine Rn ?_
        refine Rn ?_
        refine Rn ?_
        refine Rn ?_
        refine Ry ?_
        refine Rq ?_
        refine Rq ?_
        have tr : ∀ a b c d e f g h i j k m n o p q r s t u v w x y z A B C D E F G H I J K L M N O P Q R S T U V W X Y Z a1 b1 c1 d1 e1 f1 g1 h1 i1 : AV, let l := lc_check_ok a b c d e f g h i j k m n o p q r s t u v w x y z A B C D; trim ((67,i1)::(66,h1)::(65,g1)::(64,f1)::(63,e1)::(62,d1)::(61,c1)::(60,b1)::(59,a1)::(58,Z)::(57,Y)::(56,X)::(55,W)::(54,V)::(53,U)::(52,T)::(51,S)::(50,R)::(49,Q)::(48,P)::(47,O)::(46,N)::(45,M)::(44,L)::(43,K)::(42,J)::(41,I)::(40,H)::(39,G)::(38,F)::(37,E)::l) l = [(0,a),(1,b),(2,c),(3,d),(4,e),(5,f),(6,g),(7,h),(8,i),(9,j),(10,k),(11,m),(15,n),(20,o),(23,p),(24,q),(25,r),(26,s),(30,t),(31,u),(32,v),(33,w),(67,i1),(74,y),(81,z),(82,A),(83,B),(84,C),(118,D)] := by intros; rfl
        refine R_nil (tr ..) ?_; clear tr
        refine then_n ?_
        refine cdf ?_
        refine at_skip rfl ?_
        refine blk_n ?_
        refine then_n ?_
        refine rg rfl ?_
        refine Rq ?_
        refine Rq ?_
        have tr : ∀ a b c d e f g h i j k m n o p q r s t u v w x y z A B C D E F : AV, let l := lc_check_ok a b c d e f g h i j k m n o p q r s t u v w x y z A B C D; trim ((32,F)::(68,E)::l) l = [(0,a),(1,b),(2,c),(3,d),(4,e),(5,f),(6,g),(7,h),(8,i),(9,j),(10,k),(11,m),(15,n),(20,o),(23,p),(24,q),(25,r),(26,s),(30,t),(31,u),(32,F),(33,w),(67,x),(74,y),(81,z),(82,A),(83,B),(84,C),(118,D)] := by intros; rfl
        refine R_nil (tr ..) ?_; clear tr
        refine then_n ?_
        exact ⟨_, _, ⟨w + 1, _, _, _, _, _, rfl, rfl, rfl, by omega, by exact all_step hs ⟨fun _ => by omega, fun _ => by omega⟩⟩, by rfl, by omega⟩
     ·
      try simp only [decide_eq_true_eq, decide_eq_false_iff_not, Bool.not_eq_true', Bool.not_eq_false', beq_iff_eq, beq_eq_false_iff_ne, ne_eq] at h5
      refine Rn ?_
      refine Rn ?_
      refine Rn ?_
      refine Rn ?_
      refine Rn ?_
      refine Rn ?_
      refine Rn ?_
      refine Rn ?_
      refine Rn ?_
      refine Rn ?_
      refine Rn ?_
      refine Rq ?_
      refine Rq ?_
      refine Ry ?_
      refine Rq ?_
      refine Ry ?_
      refine Rq ?_
      refine Ry ?_
      refine Rq ?_
      refine Ry ?_
      refine Rq ?_
      refine Ry ?_
      refine Rq ?_
      refine Ry ?_
      refine Rq ?_
      refine Rp_split (fun h9 => ?_) (fun h9 => ?_)
      ·
       try simp only [decide_eq_true_eq, decide_eq_false_iff_not, Bool.not_eq_true', Bool.not_eq_false', beq_iff_eq, beq_eq_false_iff_ne, ne_eq] at h9
       refine Ry ?_
       refine Rq ?_
       refine Ry ?_
       refine Rq ?_
       refine Ry ?_
       refine Rq ?_
       refine Ry ?_
       refine Rq ?_
       refine Ry ?_
       refine Rq ?_
       refine Ry ?_
       refine Rq ?_
       refine Ry ?_
       refine Rq ?_
       refine Ry ?_
       refine Rq ?_
       refine Rq ?_
       have tr : ∀ a b c d e f g h i j k m n o p q r s t u v w x y z A B C D E F G H I J K L M N O P Q R S T U V W X Y Z a1 b1 c1 d1 e1 f1 g1 h1 i1 : AV, let l := lc_check_ok a b c d e f g h i j k m n o p q r s t u v w x y z A B C D; trim ((67,i1)::(66,h1)::(65,g1)::(64,f1)::(63,e1)::(62,d1)::(61,c1)::(60,b1)::(59,a1)::(58,Z)::(57,Y)::(56,X)::(55,W)::(54,V)::(53,U)::(52,T)::(51,S)::(50,R)::(49,Q)::(48,P)::(47,O)::(46,N)::(45,M)::(44,L)::(43,K)::(42,J)::(41,I)::(40,H)::(39,G)::(38,F)::(37,E)::l) l = [(0,a),(1,b),(2,c),(3,d),(4,e),(5,f),(6,g),(7,h),(8,i),(9,j),(10,k),(11,m),(15,n),(20,o),(23,p),(24,q),(25,r),(26,s),(30,t),(31,u),(32,v),(33,w),(67,i1),(74,y),(81,z),(82,A),(83,B),(84,C),(118,D)] := by intros; rfl
       refine R_nil (tr ..) ?_; clear tr
       refine then_n ?_
       refine cdd (fun h10 => ?_) (fun h10 => ?_)
       ·
        try simp only [decide_eq_true_eq, decide_eq_false_iff_not, Bool.not_eq_true', Bool.not_eq_false', beq_iff_eq, beq_eq_false_iff_ne, ne_eq] at h10
        refine at_seq rfl ?_
        refine rg rfl ?_
        refine Rq ?_
        have tr : ∀ a b c d e f g h i j k m n o p q r s t u v w x y z A B C D E : AV, let l := lc_check_ok a b c d e f g h i j k m n o p q r s t u v w x y z A B C D; trim ((2,E)::l) l = [(0,a),(1,b),(2,E),(3,d),(4,e),(5,f),(6,g),(7,h),(8,i),(9,j),(10,k),(11,m),(15,n),(20,o),(23,p),(24,q),(25,r),(26,s),(30,t),(31,u),(32,v),(33,w),(67,x),(74,y),(81,z),(82,A),(83,B),(84,C),(118,D)] := by intros; rfl
        refine R_nil (tr ..) ?_; clear tr
        refine then_n ?_
        refine at_ret rfl ?_
        refine blk_r ?_
        refine then_r ?_
        refine then_r ?_
        refine blk_r ?_
        refine blk_r ?_
        refine then_r ?_
        refine then_r ?_
        refine blk_r ?_
        refine then_r ?_
        refine fpure ?_
        refine ⟨?_, rfl⟩
        rw [checkS, if_neg (fun hh => hh h1), if_neg (fun hh => hh h2), if_pos (fun hh => absurd ((hh u (by omega) w (by omega)).2 (by omega)) (by omega))]
       ·
        try simp only [decide_eq_true_eq, decide_eq_false_iff_not, Bool.not_eq_true', Bool.not_eq_false', beq_iff_eq, beq_eq_false_iff_ne, ne_eq] at h10
        refine at_skip rfl ?_
        refine blk_n ?_
        refine then_n ?_
        refine rg rfl ?_
        refine Rq ?_
        refine Rq ?_
        have tr : ∀ a b c d e f g h i j k m n o p q r s t u v w x y z A B C D E F : AV, let l := lc_check_ok a b c d e f g h i j k m n o p q r s t u v w x y z A B C D; trim ((32,F)::(68,E)::l) l = [(0,a),(1,b),(2,c),(3,d),(4,e),(5,f),(6,g),(7,h),(8,i),(9,j),(10,k),(11,m),(15,n),(20,o),(23,p),(24,q),(25,r),(26,s),(30,t),(31,u),(32,F),(33,w),(67,x),(74,y),(81,z),(82,A),(83,B),(84,C),(118,D)] := by intros; rfl
        refine R_nil (tr ..) ?_; clear tr
        refine then_n ?_
        exact ⟨_, _, ⟨w + 1, _, _, _, _, _, rfl, rfl, rfl, by omega, by exact all_step hs ⟨fun _ => by omega, fun _ => by omega⟩⟩, by rfl, by omega⟩
      ·
       try simp only [decide_eq_true_eq, decide_eq_false_iff_not, Bool.not_eq_true', Bool.not_eq_false', beq_iff_eq, beq_eq_false_iff_ne, ne_eq] at h9
       refine Rn ?_
       refine Rn ?_
       refine Rn ?_
       refine Rn ?_
       refine Rn ?_
       refine Rn ?_
       refine Rn ?_
       refine Ry ?_
       refine Rq ?_
       refine Rq ?_
       have tr : ∀ a b c d e f g h i j k m n o p q r s t u v w x y z A B C D E F G H I J K L M N O P Q R S T U V W X Y Z a1 b1 c1 d1 e1 f1 g1 h1 i1 : AV, let l := lc_check_ok a b c d e f g h i j k m n o p q r s t u v w x y z A B C D; trim ((67,i1)::(66,h1)::(65,g1)::(64,f1)::(63,e1)::(62,d1)::(61,c1)::(60,b1)::(59,a1)::(58,Z)::(57,Y)::(56,X)::(55,W)::(54,V)::(53,U)::(52,T)::(51,S)::(50,R)::(49,Q)::(48,P)::(47,O)::(46,N)::(45,M)::(44,L)::(43,K)::(42,J)::(41,I)::(40,H)::(39,G)::(38,F)::(37,E)::l) l = [(0,a),(1,b),(2,c),(3,d),(4,e),(5,f),(6,g),(7,h),(8,i),(9,j),(10,k),(11,m),(15,n),(20,o),(23,p),(24,q),(25,r),(26,s),(30,t),(31,u),(32,v),(33,w),(67,i1),(74,y),(81,z),(82,A),(83,B),(84,C),(118,D)] := by intros; rfl
       refine R_nil (tr ..) ?_; clear tr
       refine then_n ?_
       refine cdf ?_
       refine at_skip rfl ?_
       refine blk_n ?_
       refine then_n ?_
       refine rg rfl ?_
       refine Rq ?_
       refine Rq ?_
       have tr : ∀ a b c d e f g h i j k m n o p q r s t u v w x y z A B C D E F : AV, let l := lc_check_ok a b c d e f g h i j k m n o p q r s t u v w x y z A B C D; trim ((32,F)::(68,E)::l) l = [(0,a),(1,b),(2,c),(3,d),(4,e),(5,f),(6,g),(7,h),(8,i),(9,j),(10,k),(11,m),(15,n),(20,o),(23,p),(24,q),(25,r),(26,s),(30,t),(31,u),(32,F),(33,w),(67,x),(74,y),(81,z),(82,A),(83,B),(84,C),(118,D)] := by intros; rfl
       refine R_nil (tr ..) ?_; clear tr
       refine then_n ?_
       exact ⟨_, _, ⟨w + 1, _, _, _, _, _, rfl, rfl, rfl, by omega, by exact all_step hs ⟨fun _ => by omega, fun _ => by omega⟩⟩, by rfl, by omega⟩
    ·
     try simp only [decide_eq_true_eq, decide_eq_false_iff_not, Bool.not_eq_true', Bool.not_eq_false', beq_iff_eq, beq_eq_false_iff_ne, ne_eq] at h4
     refine at_exit rfl ?_
     refine then_x ?_
     refine then_x ?_
     refine blk_x ?_
     refine blk_n ?_
     refine then_n ?_
     refine rg rfl ?_
     refine Rq ?_
     refine Rq ?_
     have tr : ∀ a b c d e f g h i j k m n o p q r s t u v w x y z A B C D E F : AV, let l := lc_check_ok a b c d e f g h i j k m n o p q r s t u v w x y z A B C D; trim ((25,F)::(69,E)::l) l = [(0,a),(1,b),(2,c),(3,d),(4,e),(5,f),(6,g),(7,h),(8,i),(9,j),(10,k),(11,m),(15,n),(20,o),(23,p),(24,q),(25,F),(26,s),(30,t),(31,u),(32,v),(33,w),(67,x),(74,y),(81,z),(82,A),(83,B),(84,C),(118,D)] := by intros; rfl
     refine R_nil (tr ..) ?_; clear tr
     refine then_n ?_
     exact ⟨_, _, ⟨u + 1, _, _, _, _, _, _, _, _, _, _, _, rfl, rfl, rfl, by omega, by exact all_step hq fun w hw => hs w (by omega)⟩, by rfl, by omega⟩
   ·
    try simp only [decide_eq_true_eq, decide_eq_false_iff_not, Bool.not_eq_true', Bool.not_eq_false', beq_iff_eq, beq_eq_false_iff_ne, ne_eq] at h3
    refine at_exit rfl ?_
    refine then_x ?_
    refine then_x ?_
    refine blk_x ?_
    refine then_n ?_
    refine at_seq rfl ?_
    refine at_seq rfl ?_
    refine rg rfl ?_
    have hdn : Down rows := fun i hi w hw => hq i (by omega) w hw
    refine Rq ?_
    have tr : ∀ a b c d e f g h i j k m n o p q r s t u v w x y z A B C D E : AV, let l := lc_check_ok a b c d e f g h i j k m n o p q r s t u v w x y z A B C D; trim ((9,E)::l) l = [(0,a),(1,b),(2,c),(3,d),(4,e),(5,f),(6,g),(7,h),(8,i),(9,E),(10,k),(11,m),(15,n),(20,o),(23,p),(24,q),(25,r),(26,s),(30,t),(31,u),(32,v),(33,w),(67,x),(74,y),(81,z),(82,A),(83,B),(84,C),(118,D)] := by intros; rfl
    refine R_nil (tr ..) ?_; clear tr
    refine then_n ?_
    refine at_block rfl ?_
    refine loop_n rfl (fun mm kv H' => ∃ v : Nat, ∃ x2 x10 x11 x74 x81 x82 x83 x84 x118 : AV, (kv = [(2, x2), (9, AV.i v), (10, x10), (11, x11), (74, x74), (81, x81), (82, x82), (83, x83), (84, x84), (118, x118)]) ∧ (mm = rows.length - v) ∧ (H' = H ++ [some [rowsAV rows]]) ∧ (2 ≤ v) ∧ (v ≤ rows.length) ∧ (∀ i, i < v → 2 ≤ i → ∀ w, w < (gt rows i).length → gt (gt rows i) w - gt (gt rows (i - 1)) w ≤ gt (gt rows (i - 1)) w - gt (gt rows (i - 2)) w)) ⟨2, _, _, _, _, _, _, _, _, _, rfl, rfl, rfl, by omega, by omega, by intro i hi; omega⟩ (by rfl) ?_
    rintro mm kv H' ⟨v, x2, x10, x11, x74, x81, x82, x83, x84, x118, rfl, rfl, rfl, h2v, hv, hc⟩
    have tr : ∀ a b c d e f g h i j k m n o p q r s t u v w x y z A B C D E F G H I J K L M N : AV, upd [(0,a),(1,b),(2,c),(3,d),(4,e),(5,f),(6,g),(7,h),(8,i),(9,j),(10,k),(11,m),(15,n),(20,o),(23,p),(24,q),(25,r),(26,s),(30,t),(31,u),(32,v),(33,w),(67,x),(74,y),(81,z),(82,A),(83,B),(84,C),(118,D)] [(2,E),(9,F),(10,G),(11,H),(74,I),(81,J),(82,K),(83,L),(84,M),(118,N)] = [(0,a),(1,b),(2,E),(3,d),(4,e),(5,f),(6,g),(7,h),(8,i),(9,F),(10,G),(11,H),(15,n),(20,o),(23,p),(24,q),(25,r),(26,s),(30,t),(31,u),(32,v),(33,w),(67,x),(74,I),(81,J),(82,K),(83,L),(84,M),(118,N)] := by intros; rfl
    refine W_to (tr ..) ?_; clear tr
    refine at_seq rfl ?_
    refine at_seq rfl ?_
    refine rg rfl ?_
    refine Rq ?_
    refine Rq ?_
    refine Rq ?_
    refine Rq ?_
    refine Rq ?_
    have tr : ∀ a b c d e f g h i j k m n o p q r s t u v w x y z A B C D E F G H I : AV, let l := lc_check_ok a b c d e f g h i j k m n o p q r s t u v w x y z A B C D; trim ((74,I)::(73,H)::(72,G)::(71,F)::(70,E)::l) l = [(0,a),(1,b),(2,c),(3,d),(4,e),(5,f),(6,g),(7,h),(8,i),(9,j),(10,k),(11,m),(15,n),(20,o),(23,p),(24,q),(25,r),(26,s),(30,t),(31,u),(32,v),(33,w),(67,x),(74,I),(81,z),(82,A),(83,B),(84,C),(118,D)] := by intros; rfl
    refine R_nil (tr ..) ?_; clear tr
    refine then_n ?_
    refine cdd (fun h11 => ?_) (fun h11 => ?_)
    ·
     try simp only [decide_eq_true_eq, decide_eq_false_iff_not, Bool.not_eq_true', Bool.not_eq_false', beq_iff_eq, beq_eq_false_iff_ne, ne_eq] at h11
     refine at_skip rfl ?_
     refine then_n ?_
     refine at_seq rfl ?_
     refine at_block rfl ?_
     refine at_seq rfl ?_
     refine rg rfl ?_
     have hlv := gl v (by omega)
     have hlv1 := gl (v - 1) (by omega)
     have hlv2 := gl (v - 2) (by omega)
     refine Rq ?_
     refine Rq ?_
     refine Rq ?_
     refine Rq ?_
     refine Rq ?_
     refine Rq ?_
     refine Rq ?_
     have tr : ∀ a b c d e f g h i j k m n o p q r s t u v w x y z A B C D E F G H I J K : AV, let l := lc_check_ok a b c d e f g h i j k m n o p q r s t u v w x y z A B C D; trim ((83,K)::(82,J)::(81,I)::(80,H)::(79,G)::(78,F)::(77,E)::l) l = [(0,a),(1,b),(2,c),(3,d),(4,e),(5,f),(6,g),(7,h),(8,i),(9,j),(10,k),(11,m),(15,n),(20,o),(23,p),(24,q),(25,r),(26,s),(30,t),(31,u),(32,v),(33,w),(67,x),(74,y),(81,I),(82,J),(83,K),(84,C),(118,D)] := by intros; rfl
     refine R_nil (tr ..) ?_; clear tr
     refine then_n ?_
     refine at_block rfl ?_
     refine loop_n rfl (fun mm kv H' => ∃ w : Nat, ∃ x2 x10 x11 x84 x118 : AV, (kv = [(2, x2), (10, x10), (11, x11), (83, AV.i w), (84, x84), (118, x118)]) ∧ (mm = (gt rows v).length - w) ∧ (H' = H ++ [some [rowsAV rows]]) ∧ (w ≤ (gt rows v).length) ∧ (∀ j, j < w → gt (gt rows v) j - gt (gt rows (v - 1)) j ≤ gt (gt rows (v - 1)) j - gt (gt rows (v - 2)) j)) ⟨0, _, _, _, _, _, rfl, rfl, rfl, by omega, by intro i hi; omega⟩ (by rfl) ?_
     rintro mm kv H' ⟨w, x2, x10, x11, x84, x118, rfl, rfl, rfl, hw, hd⟩
     have tr : ∀ a b c d e f g h i j k m n o p q r s t u v w x y z A B C D E F G H I J : AV, upd [(0,a),(1,b),(2,c),(3,d),(4,e),(5,f),(6,g),(7,h),(8,i),(9,j),(10,k),(11,m),(15,n),(20,o),(23,p),(24,q),(25,r),(26,s),(30,t),(31,u),(32,v),(33,w),(67,x),(74,y),(81,z),(82,A),(83,B),(84,C),(118,D)] [(2,E),(10,F),(11,G),(83,H),(84,I),(118,J)] = [(0,a),(1,b),(2,E),(3,d),(4,e),(5,f),(6,g),(7,h),(8,i),(9,j),(10,F),(11,G),(15,n),(20,o),(23,p),(24,q),(25,r),(26,s),(30,t),(31,u),(32,v),(33,w),(67,x),(74,y),(81,z),(82,A),(83,H),(84,I),(118,J)] := by intros; rfl
     refine W_to (tr ..) ?_; clear tr
     refine at_seq rfl ?_
     refine rg rfl ?_
     refine Rq ?_
     have tr : ∀ a b c d e f g h i j k m n o p q r s t u v w x y z A B C D E : AV, let l := lc_check_ok a b c d e f g h i j k m n o p q r s t u v w x y z A B C D; trim ((84,E)::l) l = [(0,a),(1,b),(2,c),(3,d),(4,e),(5,f),(6,g),(7,h),(8,i),(9,j),(10,k),(11,m),(15,n),(20,o),(23,p),(24,q),(25,r),(26,s),(30,t),(31,u),(32,v),(33,w),(67,x),(74,y),(81,z),(82,A),(83,B),(84,E),(118,D)] := by intros; rfl
     refine R_nil (tr ..) ?_; clear tr
     refine then_n ?_
     refine at_seq rfl ?_
     refine cdd (fun h12 => ?_) (fun h12 => ?_)
     ·
      try simp only [decide_eq_true_eq, decide_eq_false_iff_not, Bool.not_eq_true', Bool.not_eq_false', beq_iff_eq, beq_eq_false_iff_ne, ne_eq] at h12
      refine at_skip rfl ?_
      refine then_n ?_
      refine at_seq rfl ?_
      refine at_block rfl ?_
      refine at_seq rfl ?_
      refine rg rfl ?_
      refine Rq ?_
      refine Rq ?_
      refine Rq ?_
      refine Rq ?_
      refine Rq ?_
      have tr : ∀ a b c d e f g h i j k m n o p q r s t u v w x y z A B C D E F G H I : AV, let l := lc_check_ok a b c d e f g h i j k m n o p q r s t u v w x y z A B C D; trim ((11,I)::(10,H)::(87,G)::(86,F)::(85,E)::l) l = [(0,a),(1,b),(2,c),(3,d),(4,e),(5,f),(6,g),(7,h),(8,i),(9,j),(10,H),(11,I),(15,n),(20,o),(23,p),(24,q),(25,r),(26,s),(30,t),(31,u),(32,v),(33,w),(67,x),(74,y),(81,z),(82,A),(83,B),(84,C),(118,D)] := by intros; rfl
      refine R_nil (tr ..) ?_; clear tr
      refine then_n ?_
      refine at_seq rfl ?_
      refine rd rfl rfl ?_
      have r0 : 0 ≤ gt (gt rows v) w ∧ gt (gt rows v) w ≤ 10000 := gr v (by omega) w (by omega)
      have r1 : 0 ≤ gt (gt rows (v - 1)) w ∧ gt (gt rows (v - 1)) w ≤ 10000 := gr (v - 1) (by omega) w (by omega)
      have r2 : 0 ≤ gt (gt rows (v - 2)) w ∧ gt (gt rows (v - 2)) w ≤ 10000 := gr (v - 2) (by omega) w (by omega)
      refine Qq ?_
      refine Qq ?_
      refine Qq ?_
      refine Qq ?_
      refine Qq ?_
      refine Qq ?_
      refine Qq ?_
      refine Qq ?_
      refine Qq ?_
      refine Qq ?_
      refine Qq ?_
      refine Qq ?_
      refine Qq ?_
      refine Qq ?_
      refine Qq ?_
      refine Qq ?_
      refine Qq ?_
      refine Qq ?_
      refine Qq ?_
      refine Qq ?_
      refine Qq ?_
      refine Qq ?_
      refine Qq ?_
      refine Qq ?_
      refine Qq ?_
      refine Qq ?_
      refine Qq ?_
      refine Qq ?_
      refine Qq ?_
      refine Qq ?_
      refine Qq ?_
      refine Q_nil ?_
      have tr : ∀ a b c d e f g h i j k m n o p q r s t u v w x y z A B C D E F G H I J K L M N O P Q R S T U V W X Y Z a1 b1 c1 d1 e1 f1 g1 h1 i1 : AV, let l := lc_check_ok a b c d e f g h i j k m n o p q r s t u v w x y z A B C D; trim ((118,i1)::(117,h1)::(116,g1)::(115,f1)::(114,e1)::(113,d1)::(112,c1)::(111,b1)::(110,a1)::(109,Z)::(108,Y)::(107,X)::(106,W)::(105,V)::(104,U)::(103,T)::(102,S)::(101,R)::(100,Q)::(99,P)::(98,O)::(97,N)::(96,M)::(95,L)::(94,K)::(93,J)::(92,I)::(91,H)::(90,G)::(89,F)::(88,E)::l) l = [(0,a),(1,b),(2,c),(3,d),(4,e),(5,f),(6,g),(7,h),(8,i),(9,j),(10,k),(11,m),(15,n),(20,o),(23,p),(24,q),(25,r),(26,s),(30,t),(31,u),(32,v),(33,w),(67,x),(74,y),(81,z),(82,A),(83,B),(84,C),(118,i1)] := by intros; rfl
      refine R_nil (tr ..) ?_; clear tr
      refine then_n ?_
      refine cdd (fun h13 => ?_) (fun h13 => ?_)
      ·
       try simp only [decide_eq_true_eq, decide_eq_false_iff_not, Bool.not_eq_true', Bool.not_eq_false', beq_iff_eq, beq_eq_false_iff_ne, ne_eq] at h13
       refine at_seq rfl ?_
       refine rg rfl ?_
       refine Rq ?_
       have tr : ∀ a b c d e f g h i j k m n o p q r s t u v w x y z A B C D E : AV, let l := lc_check_ok a b c d e f g h i j k m n o p q r s t u v w x y z A B C D; trim ((2,E)::l) l = [(0,a),(1,b),(2,E),(3,d),(4,e),(5,f),(6,g),(7,h),(8,i),(9,j),(10,k),(11,m),(15,n),(20,o),(23,p),(24,q),(25,r),(26,s),(30,t),(31,u),(32,v),(33,w),(67,x),(74,y),(81,z),(82,A),(83,B),(84,C),(118,D)] := by intros; rfl
       refine R_nil (tr ..) ?_; clear tr
       refine then_n ?_
       refine at_ret rfl ?_
       refine blk_r ?_
       refine then_r ?_
       refine then_r ?_
       refine blk_r ?_
       refine blk_r ?_
       refine then_r ?_
       refine then_r ?_
       refine blk_r ?_
       refine then_r ?_
       refine fpure ?_
       refine ⟨?_, rfl⟩
       rw [checkS, if_neg (fun hh => hh h1), if_neg (fun hh => hh h2), if_neg (fun hh => hh hdn), if_pos (fun hh => absurd (hh v (by omega) h2v w (by omega)) (by omega))]
      ·
       try simp only [decide_eq_true_eq, decide_eq_false_iff_not, Bool.not_eq_true', Bool.not_eq_false', beq_iff_eq, beq_eq_false_iff_ne, ne_eq] at h13
       refine at_skip rfl ?_
       refine blk_n ?_
       refine then_n ?_
       refine rg rfl ?_
       refine Rq ?_
       refine Rq ?_
       have tr : ∀ a b c d e f g h i j k m n o p q r s t u v w x y z A B C D E F : AV, let l := lc_check_ok a b c d e f g h i j k m n o p q r s t u v w x y z A B C D; trim ((83,F)::(119,E)::l) l = [(0,a),(1,b),(2,c),(3,d),(4,e),(5,f),(6,g),(7,h),(8,i),(9,j),(10,k),(11,m),(15,n),(20,o),(23,p),(24,q),(25,r),(26,s),(30,t),(31,u),(32,v),(33,w),(67,x),(74,y),(81,z),(82,A),(83,F),(84,C),(118,D)] := by intros; rfl
       refine R_nil (tr ..) ?_; clear tr
       refine then_n ?_
       exact ⟨_, _, ⟨w + 1, _, _, _, _, _, rfl, rfl, rfl, by omega, by exact all_step hd (by omega)⟩, by rfl, by omega⟩
     ·
      try simp only [decide_eq_true_eq, decide_eq_false_iff_not, Bool.not_eq_true', Bool.not_eq_false', beq_iff_eq, beq_eq_false_iff_ne, ne_eq] at h12
      refine at_exit rfl ?_
      refine then_x ?_
      refine then_x ?_
      refine blk_x ?_
      refine blk_n ?_
      refine then_n ?_
      refine rg rfl ?_
      refine Rq ?_
      refine Rq ?_
      refine Rq ?_
      have tr : ∀ a b c d e f g h i j k m n o p q r s t u v w x y z A B C D E F G : AV, let l := lc_check_ok a b c d e f g h i j k m n o p q r s t u v w x y z A B C D; trim ((9,G)::(76,F)::(75,E)::l) l = [(0,a),(1,b),(2,c),(3,d),(4,e),(5,f),(6,g),(7,h),(8,i),(9,G),(10,k),(11,m),(15,n),(20,o),(23,p),(24,q),(25,r),(26,s),(30,t),(31,u),(32,v),(33,w),(67,x),(74,y),(81,z),(82,A),(83,B),(84,C),(118,D)] := by intros; rfl
      refine R_nil (tr ..) ?_; clear tr
      refine then_n ?_
      exact ⟨_, _, ⟨v + 1, _, _, _, _, _, _, _, _, _, rfl, rfl, rfl, by omega, by omega, by exact all_step hc fun _ w hw => hd w (by omega)⟩, by rfl, by omega⟩
    ·
     try simp only [decide_eq_true_eq, decide_eq_false_iff_not, Bool.not_eq_true', Bool.not_eq_false', beq_iff_eq, beq_eq_false_iff_ne, ne_eq] at h11
     refine at_exit rfl ?_
     refine then_x ?_
     refine then_x ?_
     refine blk_x ?_
     refine then_n ?_
     refine at_seq rfl ?_
     refine rg rfl ?_
     refine Rq ?_
     have tr : ∀ a b c d e f g h i j k m n o p q r s t u v w x y z A B C D E : AV, let l := lc_check_ok a b c d e f g h i j k m n o p q r s t u v w x y z A B C D; trim ((2,E)::l) l = [(0,a),(1,b),(2,E),(3,d),(4,e),(5,f),(6,g),(7,h),(8,i),(9,j),(10,k),(11,m),(15,n),(20,o),(23,p),(24,q),(25,r),(26,s),(30,t),(31,u),(32,v),(33,w),(67,x),(74,y),(81,z),(82,A),(83,B),(84,C),(118,D)] := by intros; rfl
     refine R_nil (tr ..) ?_; clear tr
     refine then_n ?_
     refine at_ret rfl ?_
     refine fpure ?_
     refine ⟨?_, rfl⟩
     rw [checkS, if_neg (fun hh => hh h1), if_neg (fun hh => hh h2), if_neg (fun hh => hh hdn), if_neg (fun hh => hh fun i hi h2 w hw => hc i (by omega) h2 w hw)]

end Go.Proofs.Ytaoondlakhocnaa
