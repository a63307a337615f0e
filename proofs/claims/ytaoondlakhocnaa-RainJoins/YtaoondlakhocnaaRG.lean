/-
  Walks of chapters 37, 39 and 40. The steps are written by program (walk.py).
-/
import Derived.Test.YtaoondlakhocnaaRE
set_option linter.unusedSimpArgs false
set_option linter.unusedVariables false
set_option maxHeartbeats 40000000
set_option maxRecDepth 4000
namespace Go.Proofs.Ytaoondlakhocnaa
open Go Go.Am

abbrev lc_rcheck_ok (a b c d e f g h i j k m n o p q r s t u v w x y z A B : AV) : Env := [(0,a),(1,b),(2,c),(3,d),(4,e),(5,f),(6,g),(7,h),(8,i),(9,j),(10,k),(14,m),(17,n),(18,o),(19,p),(20,q),(24,r),(25,s),(26,t),(27,u),(61,v),(68,w),(75,x),(76,y),(77,z),(78,A),(112,B)]
theorem rcheck_ok (lim : Nat) (H : Heap) (rows : Tb) :
    ACall sig lim 58 [.agg [rowsAV rows]] H fun r H' => r = AV.i (checkS rows) ∧ H' = H := by
 refine ACall_pure (fa := fa58) rfl rfl rfl rfl ?_
 have tr : ∀ a0 : AV, env0 fa58.keep [a0] = [(0,a0),(1,.any),(2,.any),(3,.any),(4,.any),(5,.any),(6,.any),(7,.any),(8,.any),(9,.any),(10,.any),(14,.any),(17,.any),(18,.any),(19,.any),(20,.any),(24,.any),(25,.any),(26,.any),(27,.any),(61,.any),(68,.any),(75,.any),(76,.any),(77,.any),(78,.any),(112,.any)] := fun a0 => rfl
 refine W_to (tr _) ?_; clear tr
 refine at_seq rfl ?_
 refine rg rfl ?_
 refine R_box rfl (by simp (disch := first | omega | (simp only [List.length_map, List.length_append, List.length_set, List.length_cons, List.length_nil]; omega)) only [go_sem, ↓reduceIte, Nat.reduceEqDiff, reduceCtorEq]; rfl) rfl rfl ?_
 refine Rq ?_
 have tr : ∀ a b c d e f g h i j k m n o p q r s t u v w x y z A B C D : AV, let l := lc_rcheck_ok a b c d e f g h i j k m n o p q r s t u v w x y z A B; trim ((2,D)::(1,C)::l) l = [(0,a),(1,C),(2,D),(3,d),(4,e),(5,f),(6,g),(7,h),(8,i),(9,j),(10,k),(14,m),(17,n),(18,o),(19,p),(20,q),(24,r),(25,s),(26,t),(27,u),(61,v),(68,w),(75,x),(76,y),(77,z),(78,A),(112,B)] := by intros; rfl
 refine R_nil (tr ..) ?_; clear tr
 refine then_n ?_
 refine at_seq rfl ?_
 refine at_seq rfl ?_
 refine rg rfl ?_
 refine Rq ?_
 refine Rcall ?_
 refine ACall_eq (rends_ok _ _ _) ?_
 refine Rq ?_
 have tr : ∀ a b c d e f g h i j k m n o p q r s t u v w x y z A B C D E : AV, let l := lc_rcheck_ok a b c d e f g h i j k m n o p q r s t u v w x y z A B; trim ((3,E)::(12,D)::(11,C)::l) l = [(0,a),(1,b),(2,c),(3,E),(4,e),(5,f),(6,g),(7,h),(8,i),(9,j),(10,k),(14,m),(17,n),(18,o),(19,p),(20,q),(24,r),(25,s),(26,t),(27,u),(61,v),(68,w),(75,x),(76,y),(77,z),(78,A),(112,B)] := by intros; rfl
 refine R_nil (tr ..) ?_; clear tr
 refine then_n ?_
 refine at_seq rfl ?_
 refine rg rfl ?_
 refine Rq ?_
 refine Rq ?_
 have tr : ∀ a b c d e f g h i j k m n o p q r s t u v w x y z A B C D : AV, let l := lc_rcheck_ok a b c d e f g h i j k m n o p q r s t u v w x y z A B; trim ((14,D)::(13,C)::l) l = [(0,a),(1,b),(2,c),(3,d),(4,e),(5,f),(6,g),(7,h),(8,i),(9,j),(10,k),(14,D),(17,n),(18,o),(19,p),(20,q),(24,r),(25,s),(26,t),(27,u),(61,v),(68,w),(75,x),(76,y),(77,z),(78,A),(112,B)] := by intros; rfl
 refine R_nil (tr ..) ?_; clear tr
 refine then_n ?_
 refine cdd (fun h1 => ?_) (fun h1 => ?_)
 ·
  try simp only [decide_eq_true_eq, decide_eq_false_iff_not, Bool.not_eq_true', Bool.not_eq_false', beq_iff_eq, beq_eq_false_iff_ne, ne_eq] at h1
  refine at_seq rfl ?_
  refine rg rfl ?_
  refine Rq ?_
  refine Rq ?_
  have tr : ∀ a b c d e f g h i j k m n o p q r s t u v w x y z A B C D : AV, let l := lc_rcheck_ok a b c d e f g h i j k m n o p q r s t u v w x y z A B; trim ((2,D)::(15,C)::l) l = [(0,a),(1,b),(2,D),(3,d),(4,e),(5,f),(6,g),(7,h),(8,i),(9,j),(10,k),(14,m),(17,n),(18,o),(19,p),(20,q),(24,r),(25,s),(26,t),(27,u),(61,v),(68,w),(75,x),(76,y),(77,z),(78,A),(112,B)] := by intros; rfl
  refine R_nil (tr ..) ?_; clear tr
  refine then_n ?_
  refine at_ret rfl ?_
  refine then_r ?_
  refine fpure ?_
  refine ⟨?_, rfl⟩
  rw [raw_check h1]
 ·
  try simp only [decide_eq_true_eq, decide_eq_false_iff_not, Bool.not_eq_true', Bool.not_eq_false', beq_iff_eq, beq_eq_false_iff_ne, ne_eq] at h1
  refine at_skip rfl ?_
  refine then_n ?_
  refine at_seq rfl ?_
  refine at_seq rfl ?_
  refine rg rfl ?_
  have hs0 := (raw_zero (by assumption)).1
  have he0 := (raw_zero (by assumption)).2
  obtain ⟨g2, g91, g1, g10, gl, gr⟩ := shaped_of hs0
  refine Rq ?_
  refine Rq ?_
  refine Rq ?_
  refine Rq ?_
  have tr : ∀ a b c d e f g h i j k m n o p q r s t u v w x y z A B C D E F : AV, let l := lc_rcheck_ok a b c d e f g h i j k m n o p q r s t u v w x y z A B; trim ((19,F)::(18,E)::(17,D)::(16,C)::l) l = [(0,a),(1,b),(2,c),(3,d),(4,e),(5,f),(6,g),(7,h),(8,i),(9,j),(10,k),(14,m),(17,D),(18,E),(19,F),(20,q),(24,r),(25,s),(26,t),(27,u),(61,v),(68,w),(75,x),(76,y),(77,z),(78,A),(112,B)] := by intros; rfl
  refine R_nil (tr ..) ?_; clear tr
  refine then_n ?_
  refine at_block rfl ?_
  refine loop_n rfl (fun mm kv H' => ∃ u : Nat, ∃ x2 x4 x5 x6 x7 x20 x24 x25 x26 x27 x61 : AV, (kv = [(2, x2), (4, x4), (5, x5), (6, x6), (7, x7), (19, AV.i u), (20, x20), (24, x24), (25, x25), (26, x26), (27, x27), (61, x61)]) ∧ (mm = rows.length - u) ∧ (H' = H ++ [some [rowsAV rows]]) ∧ (u ≤ rows.length) ∧ (∀ i, i < u → ∀ w, w < (gt rows i).length → (0 < i → gt (gt rows (i - 1)) w ≤ gt (gt rows i) w) ∧ (w + 1 < (gt rows i).length → gt (gt rows i) (w + 1) ≤ gt (gt rows i) w))) ⟨0, _, _, _, _, _, _, _, _, _, _, _, rfl, rfl, rfl, by omega, by intro i hi; omega⟩ (by rfl) ?_
  rintro mm kv H' ⟨u, x2, x4, x5, x6, x7, x20, x24, x25, x26, x27, x61, rfl, rfl, rfl, hu, hq⟩
  have tr : ∀ a b c d e f g h i j k m n o p q r s t u v w x y z A B C D E F G H I J K L M N : AV, upd [(0,a),(1,b),(2,c),(3,d),(4,e),(5,f),(6,g),(7,h),(8,i),(9,j),(10,k),(14,m),(17,n),(18,o),(19,p),(20,q),(24,r),(25,s),(26,t),(27,u),(61,v),(68,w),(75,x),(76,y),(77,z),(78,A),(112,B)] [(2,C),(4,D),(5,E),(6,F),(7,G),(19,H),(20,I),(24,J),(25,K),(26,L),(27,M),(61,N)] = [(0,a),(1,b),(2,C),(3,d),(4,D),(5,E),(6,F),(7,G),(8,i),(9,j),(10,k),(14,m),(17,n),(18,o),(19,H),(20,I),(24,J),(25,K),(26,L),(27,M),(61,N),(68,w),(75,x),(76,y),(77,z),(78,A),(112,B)] := by intros; rfl
  refine W_to (tr ..) ?_; clear tr
  refine at_seq rfl ?_
  refine rg rfl ?_
  refine Rq ?_
  have tr : ∀ a b c d e f g h i j k m n o p q r s t u v w x y z A B C : AV, let l := lc_rcheck_ok a b c d e f g h i j k m n o p q r s t u v w x y z A B; trim ((20,C)::l) l = [(0,a),(1,b),(2,c),(3,d),(4,e),(5,f),(6,g),(7,h),(8,i),(9,j),(10,k),(14,m),(17,n),(18,o),(19,p),(20,C),(24,r),(25,s),(26,t),(27,u),(61,v),(68,w),(75,x),(76,y),(77,z),(78,A),(112,B)] := by intros; rfl
  refine R_nil (tr ..) ?_; clear tr
  refine then_n ?_
  refine at_seq rfl ?_
  refine cdd (fun h2 => ?_) (fun h2 => ?_)
  ·
   try simp only [decide_eq_true_eq, decide_eq_false_iff_not, Bool.not_eq_true', Bool.not_eq_false', beq_iff_eq, beq_eq_false_iff_ne, ne_eq] at h2
   refine at_skip rfl ?_
   refine then_n ?_
   refine at_seq rfl ?_
   refine at_block rfl ?_
   refine at_seq rfl ?_
   refine rg rfl ?_
   refine Rq ?_
   refine Rq ?_
   refine Rq ?_
   refine Rq ?_
   refine Rq ?_
   have tr : ∀ a b c d e f g h i j k m n o p q r s t u v w x y z A B C D E F G : AV, let l := lc_rcheck_ok a b c d e f g h i j k m n o p q r s t u v w x y z A B; trim ((5,G)::(4,F)::(23,E)::(22,D)::(21,C)::l) l = [(0,a),(1,b),(2,c),(3,d),(4,F),(5,G),(6,g),(7,h),(8,i),(9,j),(10,k),(14,m),(17,n),(18,o),(19,p),(20,q),(24,r),(25,s),(26,t),(27,u),(61,v),(68,w),(75,x),(76,y),(77,z),(78,A),(112,B)] := by intros; rfl
   refine R_nil (tr ..) ?_; clear tr
   refine then_n ?_
   refine at_seq rfl ?_
   refine rg rfl ?_
   have hlu := gl u (by omega)
   have hlu1 := gl (u - 1) (by omega)
   refine Rq ?_
   refine Rq ?_
   refine Rq ?_
   have tr : ∀ a b c d e f g h i j k m n o p q r s t u v w x y z A B C D E : AV, let l := lc_rcheck_ok a b c d e f g h i j k m n o p q r s t u v w x y z A B; trim ((26,E)::(25,D)::(24,C)::l) l = [(0,a),(1,b),(2,c),(3,d),(4,e),(5,f),(6,g),(7,h),(8,i),(9,j),(10,k),(14,m),(17,n),(18,o),(19,p),(20,q),(24,C),(25,D),(26,E),(27,u),(61,v),(68,w),(75,x),(76,y),(77,z),(78,A),(112,B)] := by intros; rfl
   refine R_nil (tr ..) ?_; clear tr
   refine then_n ?_
   refine at_block rfl ?_
   refine loop_n rfl (fun mm kv H' => ∃ w : Nat, ∃ x2 x6 x7 x27 x61 : AV, (kv = [(2, x2), (6, x6), (7, x7), (26, AV.i w), (27, x27), (61, x61)]) ∧ (mm = (gt rows u).length - w) ∧ (H' = H ++ [some [rowsAV rows]]) ∧ (w ≤ (gt rows u).length) ∧ (∀ j, j < w → (0 < u → gt (gt rows (u - 1)) j ≤ gt (gt rows u) j) ∧ (j + 1 < (gt rows u).length → gt (gt rows u) (j + 1) ≤ gt (gt rows u) j))) ⟨0, _, _, _, _, _, rfl, rfl, rfl, by omega, by intro i hi; omega⟩ (by rfl) ?_
   rintro mm kv H' ⟨w, x2, x6, x7, x27, x61, rfl, rfl, rfl, hw, hs⟩
   have tr : ∀ a b c d e f g h i j k m n o p q r s t u v w x y z A B C D E F G H : AV, upd [(0,a),(1,b),(2,c),(3,d),(4,e),(5,f),(6,g),(7,h),(8,i),(9,j),(10,k),(14,m),(17,n),(18,o),(19,p),(20,q),(24,r),(25,s),(26,t),(27,u),(61,v),(68,w),(75,x),(76,y),(77,z),(78,A),(112,B)] [(2,C),(6,D),(7,E),(26,F),(27,G),(61,H)] = [(0,a),(1,b),(2,C),(3,d),(4,e),(5,f),(6,D),(7,E),(8,i),(9,j),(10,k),(14,m),(17,n),(18,o),(19,p),(20,q),(24,r),(25,s),(26,F),(27,G),(61,H),(68,w),(75,x),(76,y),(77,z),(78,A),(112,B)] := by intros; rfl
   refine W_to (tr ..) ?_; clear tr
   refine at_seq rfl ?_
   refine rg rfl ?_
   refine Rq ?_
   have tr : ∀ a b c d e f g h i j k m n o p q r s t u v w x y z A B C : AV, let l := lc_rcheck_ok a b c d e f g h i j k m n o p q r s t u v w x y z A B; trim ((27,C)::l) l = [(0,a),(1,b),(2,c),(3,d),(4,e),(5,f),(6,g),(7,h),(8,i),(9,j),(10,k),(14,m),(17,n),(18,o),(19,p),(20,q),(24,r),(25,s),(26,t),(27,C),(61,v),(68,w),(75,x),(76,y),(77,z),(78,A),(112,B)] := by intros; rfl
   refine R_nil (tr ..) ?_; clear tr
   refine then_n ?_
   refine at_seq rfl ?_
   refine cdd (fun h3 => ?_) (fun h3 => ?_)
   ·
    try simp only [decide_eq_true_eq, decide_eq_false_iff_not, Bool.not_eq_true', Bool.not_eq_false', beq_iff_eq, beq_eq_false_iff_ne, ne_eq] at h3
    refine at_skip rfl ?_
    refine then_n ?_
    refine at_seq rfl ?_
    refine at_block rfl ?_
    refine at_seq rfl ?_
    refine rg rfl ?_
    refine Rq ?_
    refine Rq ?_
    refine Rq ?_
    refine Rq ?_
    refine Rq ?_
    have tr : ∀ a b c d e f g h i j k m n o p q r s t u v w x y z A B C D E F G : AV, let l := lc_rcheck_ok a b c d e f g h i j k m n o p q r s t u v w x y z A B; trim ((7,G)::(6,F)::(30,E)::(29,D)::(28,C)::l) l = [(0,a),(1,b),(2,c),(3,d),(4,e),(5,f),(6,F),(7,G),(8,i),(9,j),(10,k),(14,m),(17,n),(18,o),(19,p),(20,q),(24,r),(25,s),(26,t),(27,u),(61,v),(68,w),(75,x),(76,y),(77,z),(78,A),(112,B)] := by intros; rfl
    refine R_nil (tr ..) ?_; clear tr
    refine then_n ?_
    refine at_seq rfl ?_
    refine rg rfl ?_
    refine Rq ?_
    refine Rq ?_
    refine Rq ?_
    refine Rp_split (fun h4 => ?_) (fun h4 => ?_)
    ·
     try simp only [decide_eq_true_eq, decide_eq_false_iff_not, Bool.not_eq_true', Bool.not_eq_false', beq_iff_eq, beq_eq_false_iff_ne, ne_eq] at h4
     refine Ry ?_
     refine Rq ?_
     refine Ry ?_
     refine Rq ?_
     refine Ry ?_
     refine Rq ?_
     refine Ry ?_
     refine Rq ?_
     refine Ry ?_
     refine Rq ?_
     refine Ry ?_
     refine Rq ?_
     refine Ry ?_
     refine Rq ?_
     refine Ry ?_
     refine Rq ?_
     refine Ry ?_
     refine Rq ?_
     refine Ry ?_
     refine Rq ?_
     refine Ry ?_
     refine Rq ?_
     refine Rq ?_
     refine Rq ?_
     refine Rp_split (fun h5 => ?_) (fun h5 => ?_)
     ·
      try simp only [decide_eq_true_eq, decide_eq_false_iff_not, Bool.not_eq_true', Bool.not_eq_false', beq_iff_eq, beq_eq_false_iff_ne, ne_eq] at h5
      refine Rn ?_
      refine Rn ?_
      refine Rn ?_
      refine Rn ?_
      refine Rn ?_
      refine Rn ?_
      refine Ru ?_
      refine Ru ?_
      refine Ru ?_
      refine Ru ?_
      refine Ru ?_
      refine Ru ?_
      refine Ru ?_
      refine Rn ?_
      refine Rq ?_
      have tr : ∀ a b c d e f g h i j k m n o p q r s t u v w x y z A B C D E F G H I J K L M N O P Q R S T U V W X Y Z a1 b1 c1 d1 e1 f1 g1 : AV, let l := lc_rcheck_ok a b c d e f g h i j k m n o p q r s t u v w x y z A B; trim ((61,g1)::(60,f1)::(59,e1)::(58,d1)::(57,c1)::(56,b1)::(55,a1)::(54,Z)::(53,Y)::(52,X)::(51,W)::(50,V)::(49,U)::(48,T)::(47,S)::(46,R)::(45,Q)::(44,P)::(43,O)::(42,N)::(41,M)::(40,L)::(39,K)::(38,J)::(37,I)::(36,H)::(35,G)::(34,F)::(33,E)::(32,D)::(31,C)::l) l = [(0,a),(1,b),(2,c),(3,d),(4,e),(5,f),(6,g),(7,h),(8,i),(9,j),(10,k),(14,m),(17,n),(18,o),(19,p),(20,q),(24,r),(25,s),(26,t),(27,u),(61,g1),(68,w),(75,x),(76,y),(77,z),(78,A),(112,B)] := by intros; rfl
      refine R_nil (tr ..) ?_; clear tr
      refine then_n ?_
      refine cdt ?_
      refine at_seq rfl ?_
      refine rg rfl ?_
      refine Rq ?_
      have tr : ∀ a b c d e f g h i j k m n o p q r s t u v w x y z A B C : AV, let l := lc_rcheck_ok a b c d e f g h i j k m n o p q r s t u v w x y z A B; trim ((2,C)::l) l = [(0,a),(1,b),(2,C),(3,d),(4,e),(5,f),(6,g),(7,h),(8,i),(9,j),(10,k),(14,m),(17,n),(18,o),(19,p),(20,q),(24,r),(25,s),(26,t),(27,u),(61,v),(68,w),(75,x),(76,y),(77,z),(78,A),(112,B)] := by intros; rfl
      refine R_nil (tr ..) ?_; clear tr
      refine then_n ?_
      refine at_ret rfl ?_
      refine blk_r ?_
      refine then_r ?_
      refine then_r ?_
      refine blk_r ?_
      refine blk_r ?_
      refine then_r ?_
      refine then_r ?_
      refine blk_r ?_
      refine then_r ?_
      refine fpure ?_
      refine ⟨?_, rfl⟩
      rw [checkS, if_neg (fun hh => hh hs0), if_neg (fun hh => hh he0), if_pos (fun hh => absurd ((hh u (by omega) w (by omega)).1 (by omega)) (by omega))]
     ·
      try simp only [decide_eq_true_eq, decide_eq_false_iff_not, Bool.not_eq_true', Bool.not_eq_false', beq_iff_eq, beq_eq_false_iff_ne, ne_eq] at h5
      refine Ry ?_
      refine Rq ?_
      refine Ry ?_
      refine Rq ?_
      refine Ry ?_
      refine Rq ?_
      refine Ry ?_
      refine Rq ?_
      refine Ry ?_
      refine Rq ?_
      refine Ry ?_
      refine Rq ?_
      refine Rp_split (fun h6 => ?_) (fun h6 => ?_)
      ·
       try simp only [decide_eq_true_eq, decide_eq_false_iff_not, Bool.not_eq_true', Bool.not_eq_false', beq_iff_eq, beq_eq_false_iff_ne, ne_eq] at h6
       refine Ry ?_
       refine Rq ?_
       refine Ry ?_
       refine Rq ?_
       refine Ry ?_
       refine Rq ?_
       refine Ry ?_
       refine Rq ?_
       refine Ry ?_
       refine Rq ?_
       refine Ry ?_
       refine Rq ?_
       refine Ry ?_
       refine Rq ?_
       refine Ry ?_
       refine Rq ?_
       refine Rq ?_
       have tr : ∀ a b c d e f g h i j k m n o p q r s t u v w x y z A B C D E F G H I J K L M N O P Q R S T U V W X Y Z a1 b1 c1 d1 e1 f1 g1 : AV, let l := lc_rcheck_ok a b c d e f g h i j k m n o p q r s t u v w x y z A B; trim ((61,g1)::(60,f1)::(59,e1)::(58,d1)::(57,c1)::(56,b1)::(55,a1)::(54,Z)::(53,Y)::(52,X)::(51,W)::(50,V)::(49,U)::(48,T)::(47,S)::(46,R)::(45,Q)::(44,P)::(43,O)::(42,N)::(41,M)::(40,L)::(39,K)::(38,J)::(37,I)::(36,H)::(35,G)::(34,F)::(33,E)::(32,D)::(31,C)::l) l = [(0,a),(1,b),(2,c),(3,d),(4,e),(5,f),(6,g),(7,h),(8,i),(9,j),(10,k),(14,m),(17,n),(18,o),(19,p),(20,q),(24,r),(25,s),(26,t),(27,u),(61,g1),(68,w),(75,x),(76,y),(77,z),(78,A),(112,B)] := by intros; rfl
       refine R_nil (tr ..) ?_; clear tr
       refine then_n ?_
       refine cdd (fun h7 => ?_) (fun h7 => ?_)
       ·
        try simp only [decide_eq_true_eq, decide_eq_false_iff_not, Bool.not_eq_true', Bool.not_eq_false', beq_iff_eq, beq_eq_false_iff_ne, ne_eq] at h7
        refine at_seq rfl ?_
        refine rg rfl ?_
        refine Rq ?_
        have tr : ∀ a b c d e f g h i j k m n o p q r s t u v w x y z A B C : AV, let l := lc_rcheck_ok a b c d e f g h i j k m n o p q r s t u v w x y z A B; trim ((2,C)::l) l = [(0,a),(1,b),(2,C),(3,d),(4,e),(5,f),(6,g),(7,h),(8,i),(9,j),(10,k),(14,m),(17,n),(18,o),(19,p),(20,q),(24,r),(25,s),(26,t),(27,u),(61,v),(68,w),(75,x),(76,y),(77,z),(78,A),(112,B)] := by intros; rfl
        refine R_nil (tr ..) ?_; clear tr
        refine then_n ?_
        refine at_ret rfl ?_
        refine blk_r ?_
        refine then_r ?_
        refine then_r ?_
        refine blk_r ?_
        refine blk_r ?_
        refine then_r ?_
        refine then_r ?_
        refine blk_r ?_
        refine then_r ?_
        refine fpure ?_
        refine ⟨?_, rfl⟩
        rw [checkS, if_neg (fun hh => hh hs0), if_neg (fun hh => hh he0), if_pos (fun hh => absurd ((hh u (by omega) w (by omega)).2 (by omega)) (by omega))]
       ·
        try simp only [decide_eq_true_eq, decide_eq_false_iff_not, Bool.not_eq_true', Bool.not_eq_false', beq_iff_eq, beq_eq_false_iff_ne, ne_eq] at h7
        refine at_skip rfl ?_
        refine blk_n ?_
        refine then_n ?_
        refine rg rfl ?_
        refine Rq ?_
        refine Rq ?_
        have tr : ∀ a b c d e f g h i j k m n o p q r s t u v w x y z A B C D : AV, let l := lc_rcheck_ok a b c d e f g h i j k m n o p q r s t u v w x y z A B; trim ((26,D)::(62,C)::l) l = [(0,a),(1,b),(2,c),(3,d),(4,e),(5,f),(6,g),(7,h),(8,i),(9,j),(10,k),(14,m),(17,n),(18,o),(19,p),(20,q),(24,r),(25,s),(26,D),(27,u),(61,v),(68,w),(75,x),(76,y),(77,z),(78,A),(112,B)] := by intros; rfl
        refine R_nil (tr ..) ?_; clear tr
        refine then_n ?_
        exact ⟨_, _, ⟨w + 1, _, _, _, _, _, rfl, rfl, rfl, by omega, by exact all_step hs ⟨fun _ => by omega, fun _ => by omega⟩⟩, by rfl, by omega⟩
      ·
       try simp only [decide_eq_true_eq, decide_eq_false_iff_not, Bool.not_eq_true', Bool.not_eq_false', beq_iff_eq, beq_eq_false_iff_ne, ne_eq] at h6
       refine Rn ?_
       refine Rn ?_
       refine Rn ?_
       refine Rn ?_
       refine Rn ?_
       refine Rn ?_
       refine Rn ?_
       refine Ry ?_
       refine Rq ?_
       refine Rq ?_
       have tr : ∀ a b c d e f g h i j k m n o p q r s t u v w x y z A B C D E F G H I J K L M N O P Q R S T U V W X Y Z a1 b1 c1 d1 e1 f1 g1 : AV, let l := lc_rcheck_ok a b c d e f g h i j k m n o p q r s t u v w x y z A B; trim ((61,g1)::(60,f1)::(59,e1)::(58,d1)::(57,c1)::(56,b1)::(55,a1)::(54,Z)::(53,Y)::(52,X)::(51,W)::(50,V)::(49,U)::(48,T)::(47,S)::(46,R)::(45,Q)::(44,P)::(43,O)::(42,N)::(41,M)::(40,L)::(39,K)::(38,J)::(37,I)::(36,H)::(35,G)::(34,F)::(33,E)::(32,D)::(31,C)::l) l = [(0,a),(1,b),(2,c),(3,d),(4,e),(5,f),(6,g),(7,h),(8,i),(9,j),(10,k),(14,m),(17,n),(18,o),(19,p),(20,q),(24,r),(25,s),(26,t),(27,u),(61,g1),(68,w),(75,x),(76,y),(77,z),(78,A),(112,B)] := by intros; rfl
       refine R_nil (tr ..) ?_; clear tr
       refine then_n ?_
       refine cdf ?_
       refine at_skip rfl ?_
       refine blk_n ?_
       refine then_n ?_
       refine rg rfl ?_
       refine Rq ?_
       refine Rq ?_
       have tr : ∀ a b c d e f g h i j k m n o p q r s t u v w x y z A B C D : AV, let l := lc_rcheck_ok a b c d e f g h i j k m n o p q r s t u v w x y z A B; trim ((26,D)::(62,C)::l) l = [(0,a),(1,b),(2,c),(3,d),(4,e),(5,f),(6,g),(7,h),(8,i),(9,j),(10,k),(14,m),(17,n),(18,o),(19,p),(20,q),(24,r),(25,s),(26,D),(27,u),(61,v),(68,w),(75,x),(76,y),(77,z),(78,A),(112,B)] := by intros; rfl
       refine R_nil (tr ..) ?_; clear tr
       refine then_n ?_
       exact ⟨_, _, ⟨w + 1, _, _, _, _, _, rfl, rfl, rfl, by omega, by exact all_step hs ⟨fun _ => by omega, fun _ => by omega⟩⟩, by rfl, by omega⟩
    ·
     try simp only [decide_eq_true_eq, decide_eq_false_iff_not, Bool.not_eq_true', Bool.not_eq_false', beq_iff_eq, beq_eq_false_iff_ne, ne_eq] at h4
     refine Rn ?_
     refine Rn ?_
     refine Rn ?_
     refine Rn ?_
     refine Rn ?_
     refine Rn ?_
     refine Rn ?_
     refine Rn ?_
     refine Rn ?_
     refine Rn ?_
     refine Rn ?_
     refine Rq ?_
     refine Rq ?_
     refine Ry ?_
     refine Rq ?_
     refine Ry ?_
     refine Rq ?_
     refine Ry ?_
     refine Rq ?_
     refine Ry ?_
     refine Rq ?_
     refine Ry ?_
     refine Rq ?_
     refine Ry ?_
     refine Rq ?_
     refine Rp_split (fun h8 => ?_) (fun h8 => ?_)
     ·
      try simp only [decide_eq_true_eq, decide_eq_false_iff_not, Bool.not_eq_true', Bool.not_eq_false', beq_iff_eq, beq_eq_false_iff_ne, ne_eq] at h8
      refine Ry ?_
      refine Rq ?_
      refine Ry ?_
      refine Rq ?_
      refine Ry ?_
      refine Rq ?_
      refine Ry ?_
      refine Rq ?_
      refine Ry ?_
      refine Rq ?_
      refine Ry ?_
      refine Rq ?_
      refine Ry ?_
      refine Rq ?_
      refine Ry ?_
      refine Rq ?_
      refine Rq ?_
      have tr : ∀ a b c d e f g h i j k m n o p q r s t u v w x y z A B C D E F G H I J K L M N O P Q R S T U V W X Y Z a1 b1 c1 d1 e1 f1 g1 : AV, let l := lc_rcheck_ok a b c d e f g h i j k m n o p q r s t u v w x y z A B; trim ((61,g1)::(60,f1)::(59,e1)::(58,d1)::(57,c1)::(56,b1)::(55,a1)::(54,Z)::(53,Y)::(52,X)::(51,W)::(50,V)::(49,U)::(48,T)::(47,S)::(46,R)::(45,Q)::(44,P)::(43,O)::(42,N)::(41,M)::(40,L)::(39,K)::(38,J)::(37,I)::(36,H)::(35,G)::(34,F)::(33,E)::(32,D)::(31,C)::l) l = [(0,a),(1,b),(2,c),(3,d),(4,e),(5,f),(6,g),(7,h),(8,i),(9,j),(10,k),(14,m),(17,n),(18,o),(19,p),(20,q),(24,r),(25,s),(26,t),(27,u),(61,g1),(68,w),(75,x),(76,y),(77,z),(78,A),(112,B)] := by intros; rfl
      refine R_nil (tr ..) ?_; clear tr
      refine then_n ?_
      refine cdd (fun h9 => ?_) (fun h9 => ?_)
      ·
       try simp only [decide_eq_true_eq, decide_eq_false_iff_not, Bool.not_eq_true', Bool.not_eq_false', beq_iff_eq, beq_eq_false_iff_ne, ne_eq] at h9
       refine at_seq rfl ?_
       refine rg rfl ?_
       refine Rq ?_
       have tr : ∀ a b c d e f g h i j k m n o p q r s t u v w x y z A B C : AV, let l := lc_rcheck_ok a b c d e f g h i j k m n o p q r s t u v w x y z A B; trim ((2,C)::l) l = [(0,a),(1,b),(2,C),(3,d),(4,e),(5,f),(6,g),(7,h),(8,i),(9,j),(10,k),(14,m),(17,n),(18,o),(19,p),(20,q),(24,r),(25,s),(26,t),(27,u),(61,v),(68,w),(75,x),(76,y),(77,z),(78,A),(112,B)] := by intros; rfl
       refine R_nil (tr ..) ?_; clear tr
       refine then_n ?_
       refine at_ret rfl ?_
       refine blk_r ?_
       refine then_r ?_
       refine then_r ?_
       refine blk_r ?_
       refine blk_r ?_
       refine then_r ?_
       refine then_r ?_
       refine blk_r ?_
       refine then_r ?_
       refine fpure ?_
       refine ⟨?_, rfl⟩
       rw [checkS, if_neg (fun hh => hh hs0), if_neg (fun hh => hh he0), if_pos (fun hh => absurd ((hh u (by omega) w (by omega)).2 (by omega)) (by omega))]
      ·
       try simp only [decide_eq_true_eq, decide_eq_false_iff_not, Bool.not_eq_true', Bool.not_eq_false', beq_iff_eq, beq_eq_false_iff_ne, ne_eq] at h9
       refine at_skip rfl ?_
       refine blk_n ?_
       refine then_n ?_
       refine rg rfl ?_
       refine Rq ?_
       refine Rq ?_
       have tr : ∀ a b c d e f g h i j k m n o p q r s t u v w x y z A B C D : AV, let l := lc_rcheck_ok a b c d e f g h i j k m n o p q r s t u v w x y z A B; trim ((26,D)::(62,C)::l) l = [(0,a),(1,b),(2,c),(3,d),(4,e),(5,f),(6,g),(7,h),(8,i),(9,j),(10,k),(14,m),(17,n),(18,o),(19,p),(20,q),(24,r),(25,s),(26,D),(27,u),(61,v),(68,w),(75,x),(76,y),(77,z),(78,A),(112,B)] := by intros; rfl
       refine R_nil (tr ..) ?_; clear tr
       refine then_n ?_
       exact ⟨_, _, ⟨w + 1, _, _, _, _, _, rfl, rfl, rfl, by omega, by exact all_step hs ⟨fun _ => by omega, fun _ => by omega⟩⟩, by rfl, by omega⟩
     ·
      try simp only [decide_eq_true_eq, decide_eq_false_iff_not, Bool.not_eq_true', Bool.not_eq_false', beq_iff_eq, beq_eq_false_iff_ne, ne_eq] at h8
      refine Rn ?_
      refine Rn ?_
      refine Rn ?_
      refine Rn ?_
      refine Rn ?_
      refine Rn ?_
      refine Rn ?_
      refine Ry ?_
      refine Rq ?_
      refine Rq ?_
      have tr : ∀ a b c d e f g h i j k m n o p q r s t u v w x y z A B C D E F G H I J K L M N O P Q R S T U V W X Y Z a1 b1 c1 d1 e1 f1 g1 : AV, let l := lc_rcheck_ok a b c d e f g h i j k m n o p q r s t u v w x y z A B; trim ((61,g1)::(60,f1)::(59,e1)::(58,d1)::(57,c1)::(56,b1)::(55,a1)::(54,Z)::(53,Y)::(52,X)::(51,W)::(50,V)::(49,U)::(48,T)::(47,S)::(46,R)::(45,Q)::(44,P)::(43,O)::(42,N)::(41,M)::(40,L)::(39,K)::(38,J)::(37,I)::(36,H)::(35,G)::(34,F)::(33,E)::(32,D)::(31,C)::l) l = [(0,a),(1,b),(2,c),(3,d),(4,e),(5,f),(6,g),(7,h),(8,i),(9,j),(10,k),(14,m),(17,n),(18,o),(19,p),(20,q),(24,r),(25,s),(26,t),(27,u),(61,g1),(68,w),(75,x),(76,y),(77,z),(78,A),(112,B)] := by intros; rfl
      refine R_nil (tr ..) ?_; clear tr
      refine then_n ?_
      refine cdf ?_
      refine at_skip rfl ?_
      refine blk_n ?_
      refine then_n ?_
      refine rg rfl ?_
      refine Rq ?_
      refine Rq ?_
      have tr : ∀ a b c d e f g h i j k m n o p q r s t u v w x y z A B C D : AV, let l := lc_rcheck_ok a b c d e f g h i j k m n o p q r s t u v w x y z A B; trim ((26,D)::(62,C)::l) l = [(0,a),(1,b),(2,c),(3,d),(4,e),(5,f),(6,g),(7,h),(8,i),(9,j),(10,k),(14,m),(17,n),(18,o),(19,p),(20,q),(24,r),(25,s),(26,D),(27,u),(61,v),(68,w),(75,x),(76,y),(77,z),(78,A),(112,B)] := by intros; rfl
      refine R_nil (tr ..) ?_; clear tr
      refine then_n ?_
      exact ⟨_, _, ⟨w + 1, _, _, _, _, _, rfl, rfl, rfl, by omega, by exact all_step hs ⟨fun _ => by omega, fun _ => by omega⟩⟩, by rfl, by omega⟩
   ·
    try simp only [decide_eq_true_eq, decide_eq_false_iff_not, Bool.not_eq_true', Bool.not_eq_false', beq_iff_eq, beq_eq_false_iff_ne, ne_eq] at h3
    refine at_exit rfl ?_
    refine then_x ?_
    refine then_x ?_
    refine blk_x ?_
    refine blk_n ?_
    refine then_n ?_
    refine rg rfl ?_
    refine Rq ?_
    refine Rq ?_
    have tr : ∀ a b c d e f g h i j k m n o p q r s t u v w x y z A B C D : AV, let l := lc_rcheck_ok a b c d e f g h i j k m n o p q r s t u v w x y z A B; trim ((19,D)::(63,C)::l) l = [(0,a),(1,b),(2,c),(3,d),(4,e),(5,f),(6,g),(7,h),(8,i),(9,j),(10,k),(14,m),(17,n),(18,o),(19,D),(20,q),(24,r),(25,s),(26,t),(27,u),(61,v),(68,w),(75,x),(76,y),(77,z),(78,A),(112,B)] := by intros; rfl
    refine R_nil (tr ..) ?_; clear tr
    refine then_n ?_
    exact ⟨_, _, ⟨u + 1, _, _, _, _, _, _, _, _, _, _, _, rfl, rfl, rfl, by omega, by exact all_step hq fun w hw => hs w (by omega)⟩, by rfl, by omega⟩
  ·
   try simp only [decide_eq_true_eq, decide_eq_false_iff_not, Bool.not_eq_true', Bool.not_eq_false', beq_iff_eq, beq_eq_false_iff_ne, ne_eq] at h2
   refine at_exit rfl ?_
   refine then_x ?_
   refine then_x ?_
   refine blk_x ?_
   refine then_n ?_
   refine at_seq rfl ?_
   refine at_seq rfl ?_
   refine rg rfl ?_
   have hdn : Down rows := fun i hi w hw => hq i (by omega) w hw
   refine Rq ?_
   have tr : ∀ a b c d e f g h i j k m n o p q r s t u v w x y z A B C : AV, let l := lc_rcheck_ok a b c d e f g h i j k m n o p q r s t u v w x y z A B; trim ((8,C)::l) l = [(0,a),(1,b),(2,c),(3,d),(4,e),(5,f),(6,g),(7,h),(8,C),(9,j),(10,k),(14,m),(17,n),(18,o),(19,p),(20,q),(24,r),(25,s),(26,t),(27,u),(61,v),(68,w),(75,x),(76,y),(77,z),(78,A),(112,B)] := by intros; rfl
   refine R_nil (tr ..) ?_; clear tr
   refine then_n ?_
   refine at_block rfl ?_
   refine loop_n rfl (fun mm kv H' => ∃ v : Nat, ∃ x2 x9 x10 x68 x75 x76 x77 x78 x112 : AV, (kv = [(2, x2), (8, AV.i v), (9, x9), (10, x10), (68, x68), (75, x75), (76, x76), (77, x77), (78, x78), (112, x112)]) ∧ (mm = rows.length - v) ∧ (H' = H ++ [some [rowsAV rows]]) ∧ (2 ≤ v) ∧ (v ≤ rows.length) ∧ (∀ i, i < v → 2 ≤ i → ∀ w, w < (gt rows i).length → gt (gt rows i) w - gt (gt rows (i - 1)) w ≤ gt (gt rows (i - 1)) w - gt (gt rows (i - 2)) w)) ⟨2, _, _, _, _, _, _, _, _, _, rfl, rfl, rfl, by omega, by omega, by intro i hi; omega⟩ (by rfl) ?_
   rintro mm kv H' ⟨v, x2, x9, x10, x68, x75, x76, x77, x78, x112, rfl, rfl, rfl, h2v, hv, hc⟩
   have tr : ∀ a b c d e f g h i j k m n o p q r s t u v w x y z A B C D E F G H I J K L : AV, upd [(0,a),(1,b),(2,c),(3,d),(4,e),(5,f),(6,g),(7,h),(8,i),(9,j),(10,k),(14,m),(17,n),(18,o),(19,p),(20,q),(24,r),(25,s),(26,t),(27,u),(61,v),(68,w),(75,x),(76,y),(77,z),(78,A),(112,B)] [(2,C),(8,D),(9,E),(10,F),(68,G),(75,H),(76,I),(77,J),(78,K),(112,L)] = [(0,a),(1,b),(2,C),(3,d),(4,e),(5,f),(6,g),(7,h),(8,D),(9,E),(10,F),(14,m),(17,n),(18,o),(19,p),(20,q),(24,r),(25,s),(26,t),(27,u),(61,v),(68,G),(75,H),(76,I),(77,J),(78,K),(112,L)] := by intros; rfl
   refine W_to (tr ..) ?_; clear tr
   refine at_seq rfl ?_
   refine at_seq rfl ?_
   refine rg rfl ?_
   refine Rq ?_
   refine Rq ?_
   refine Rq ?_
   refine Rq ?_
   refine Rq ?_
   have tr : ∀ a b c d e f g h i j k m n o p q r s t u v w x y z A B C D E F G : AV, let l := lc_rcheck_ok a b c d e f g h i j k m n o p q r s t u v w x y z A B; trim ((68,G)::(67,F)::(66,E)::(65,D)::(64,C)::l) l = [(0,a),(1,b),(2,c),(3,d),(4,e),(5,f),(6,g),(7,h),(8,i),(9,j),(10,k),(14,m),(17,n),(18,o),(19,p),(20,q),(24,r),(25,s),(26,t),(27,u),(61,v),(68,G),(75,x),(76,y),(77,z),(78,A),(112,B)] := by intros; rfl
   refine R_nil (tr ..) ?_; clear tr
   refine then_n ?_
   refine cdd (fun h10 => ?_) (fun h10 => ?_)
   ·
    try simp only [decide_eq_true_eq, decide_eq_false_iff_not, Bool.not_eq_true', Bool.not_eq_false', beq_iff_eq, beq_eq_false_iff_ne, ne_eq] at h10
    refine at_skip rfl ?_
    refine then_n ?_
    refine at_seq rfl ?_
    refine at_block rfl ?_
    refine at_seq rfl ?_
    refine rg rfl ?_
    have hlv := gl v (by omega)
    have hlv1 := gl (v - 1) (by omega)
    have hlv2 := gl (v - 2) (by omega)
    refine Rq ?_
    refine Rq ?_
    refine Rq ?_
    refine Rq ?_
    refine Rq ?_
    refine Rq ?_
    refine Rq ?_
    have tr : ∀ a b c d e f g h i j k m n o p q r s t u v w x y z A B C D E F G H I : AV, let l := lc_rcheck_ok a b c d e f g h i j k m n o p q r s t u v w x y z A B; trim ((77,I)::(76,H)::(75,G)::(74,F)::(73,E)::(72,D)::(71,C)::l) l = [(0,a),(1,b),(2,c),(3,d),(4,e),(5,f),(6,g),(7,h),(8,i),(9,j),(10,k),(14,m),(17,n),(18,o),(19,p),(20,q),(24,r),(25,s),(26,t),(27,u),(61,v),(68,w),(75,G),(76,H),(77,I),(78,A),(112,B)] := by intros; rfl
    refine R_nil (tr ..) ?_; clear tr
    refine then_n ?_
    refine at_block rfl ?_
    refine loop_n rfl (fun mm kv H' => ∃ w : Nat, ∃ x2 x9 x10 x78 x112 : AV, (kv = [(2, x2), (9, x9), (10, x10), (77, AV.i w), (78, x78), (112, x112)]) ∧ (mm = (gt rows v).length - w) ∧ (H' = H ++ [some [rowsAV rows]]) ∧ (w ≤ (gt rows v).length) ∧ (∀ j, j < w → gt (gt rows v) j - gt (gt rows (v - 1)) j ≤ gt (gt rows (v - 1)) j - gt (gt rows (v - 2)) j)) ⟨0, _, _, _, _, _, rfl, rfl, rfl, by omega, by intro i hi; omega⟩ (by rfl) ?_
    rintro mm kv H' ⟨w, x2, x9, x10, x78, x112, rfl, rfl, rfl, hw, hd⟩
    have tr : ∀ a b c d e f g h i j k m n o p q r s t u v w x y z A B C D E F G H : AV, upd [(0,a),(1,b),(2,c),(3,d),(4,e),(5,f),(6,g),(7,h),(8,i),(9,j),(10,k),(14,m),(17,n),(18,o),(19,p),(20,q),(24,r),(25,s),(26,t),(27,u),(61,v),(68,w),(75,x),(76,y),(77,z),(78,A),(112,B)] [(2,C),(9,D),(10,E),(77,F),(78,G),(112,H)] = [(0,a),(1,b),(2,C),(3,d),(4,e),(5,f),(6,g),(7,h),(8,i),(9,D),(10,E),(14,m),(17,n),(18,o),(19,p),(20,q),(24,r),(25,s),(26,t),(27,u),(61,v),(68,w),(75,x),(76,y),(77,F),(78,G),(112,H)] := by intros; rfl
    refine W_to (tr ..) ?_; clear tr
    refine at_seq rfl ?_
    refine rg rfl ?_
    refine Rq ?_
    have tr : ∀ a b c d e f g h i j k m n o p q r s t u v w x y z A B C : AV, let l := lc_rcheck_ok a b c d e f g h i j k m n o p q r s t u v w x y z A B; trim ((78,C)::l) l = [(0,a),(1,b),(2,c),(3,d),(4,e),(5,f),(6,g),(7,h),(8,i),(9,j),(10,k),(14,m),(17,n),(18,o),(19,p),(20,q),(24,r),(25,s),(26,t),(27,u),(61,v),(68,w),(75,x),(76,y),(77,z),(78,C),(112,B)] := by intros; rfl
    refine R_nil (tr ..) ?_; clear tr
    refine then_n ?_
    refine at_seq rfl ?_
    refine cdd (fun h11 => ?_) (fun h11 => ?_)
    ·
     try simp only [decide_eq_true_eq, decide_eq_false_iff_not, Bool.not_eq_true', Bool.not_eq_false', beq_iff_eq, beq_eq_false_iff_ne, ne_eq] at h11
     refine at_skip rfl ?_
     refine then_n ?_
     refine at_seq rfl ?_
     refine at_block rfl ?_
     refine at_seq rfl ?_
     refine rg rfl ?_
     refine Rq ?_
     refine Rq ?_
     refine Rq ?_
     refine Rq ?_
     refine Rq ?_
     have tr : ∀ a b c d e f g h i j k m n o p q r s t u v w x y z A B C D E F G : AV, let l := lc_rcheck_ok a b c d e f g h i j k m n o p q r s t u v w x y z A B; trim ((10,G)::(9,F)::(81,E)::(80,D)::(79,C)::l) l = [(0,a),(1,b),(2,c),(3,d),(4,e),(5,f),(6,g),(7,h),(8,i),(9,F),(10,G),(14,m),(17,n),(18,o),(19,p),(20,q),(24,r),(25,s),(26,t),(27,u),(61,v),(68,w),(75,x),(76,y),(77,z),(78,A),(112,B)] := by intros; rfl
     refine R_nil (tr ..) ?_; clear tr
     refine then_n ?_
     refine at_seq rfl ?_
     refine rd rfl rfl ?_
     have r0 : 0 ≤ gt (gt rows v) w ∧ gt (gt rows v) w ≤ 10000 := gr v (by omega) w (by omega)
     have r1 : 0 ≤ gt (gt rows (v - 1)) w ∧ gt (gt rows (v - 1)) w ≤ 10000 := gr (v - 1) (by omega) w (by omega)
     have r2 : 0 ≤ gt (gt rows (v - 2)) w ∧ gt (gt rows (v - 2)) w ≤ 10000 := gr (v - 2) (by omega) w (by omega)
     refine Qq ?_
     refine Qq ?_
     refine Qq ?_
     refine Qq ?_
     refine Qq ?_
     refine Qq ?_
     refine Qq ?_
     refine Qq ?_
     refine Qq ?_
     refine Qq ?_
     refine Qq ?_
     refine Qq ?_
     refine Qq ?_
     refine Qq ?_
     refine Qq ?_
     refine Qq ?_
     refine Qq ?_
     refine Qq ?_
     refine Qq ?_
     refine Qq ?_
     refine Qq ?_
     refine Qq ?_
     refine Qq ?_
     refine Qq ?_
     refine Qq ?_
     refine Qq ?_
     refine Qq ?_
     refine Qq ?_
     refine Qq ?_
     refine Qq ?_
     refine Qq ?_
     refine Q_nil ?_
     have tr : ∀ a b c d e f g h i j k m n o p q r s t u v w x y z A B C D E F G H I J K L M N O P Q R S T U V W X Y Z a1 b1 c1 d1 e1 f1 g1 : AV, let l := lc_rcheck_ok a b c d e f g h i j k m n o p q r s t u v w x y z A B; trim ((112,g1)::(111,f1)::(110,e1)::(109,d1)::(108,c1)::(107,b1)::(106,a1)::(105,Z)::(104,Y)::(103,X)::(102,W)::(101,V)::(100,U)::(99,T)::(98,S)::(97,R)::(96,Q)::(95,P)::(94,O)::(93,N)::(92,M)::(91,L)::(90,K)::(89,J)::(88,I)::(87,H)::(86,G)::(85,F)::(84,E)::(83,D)::(82,C)::l) l = [(0,a),(1,b),(2,c),(3,d),(4,e),(5,f),(6,g),(7,h),(8,i),(9,j),(10,k),(14,m),(17,n),(18,o),(19,p),(20,q),(24,r),(25,s),(26,t),(27,u),(61,v),(68,w),(75,x),(76,y),(77,z),(78,A),(112,g1)] := by intros; rfl
     refine R_nil (tr ..) ?_; clear tr
     refine then_n ?_
     refine cdd (fun h12 => ?_) (fun h12 => ?_)
     ·
      try simp only [decide_eq_true_eq, decide_eq_false_iff_not, Bool.not_eq_true', Bool.not_eq_false', beq_iff_eq, beq_eq_false_iff_ne, ne_eq] at h12
      refine at_seq rfl ?_
      refine rg rfl ?_
      refine Rq ?_
      have tr : ∀ a b c d e f g h i j k m n o p q r s t u v w x y z A B C : AV, let l := lc_rcheck_ok a b c d e f g h i j k m n o p q r s t u v w x y z A B; trim ((2,C)::l) l = [(0,a),(1,b),(2,C),(3,d),(4,e),(5,f),(6,g),(7,h),(8,i),(9,j),(10,k),(14,m),(17,n),(18,o),(19,p),(20,q),(24,r),(25,s),(26,t),(27,u),(61,v),(68,w),(75,x),(76,y),(77,z),(78,A),(112,B)] := by intros; rfl
      refine R_nil (tr ..) ?_; clear tr
      refine then_n ?_
      refine at_ret rfl ?_
      refine blk_r ?_
      refine then_r ?_
      refine then_r ?_
      refine blk_r ?_
      refine blk_r ?_
      refine then_r ?_
      refine then_r ?_
      refine blk_r ?_
      refine then_r ?_
      refine fpure ?_
      refine ⟨?_, rfl⟩
      rw [checkS, if_neg (fun hh => hh hs0), if_neg (fun hh => hh he0), if_neg (fun hh => hh hdn), if_pos (fun hh => absurd (hh v (by omega) h2v w (by omega)) (by omega))]
     ·
      try simp only [decide_eq_true_eq, decide_eq_false_iff_not, Bool.not_eq_true', Bool.not_eq_false', beq_iff_eq, beq_eq_false_iff_ne, ne_eq] at h12
      refine at_skip rfl ?_
      refine blk_n ?_
      refine then_n ?_
      refine rg rfl ?_
      refine Rq ?_
      refine Rq ?_
      have tr : ∀ a b c d e f g h i j k m n o p q r s t u v w x y z A B C D : AV, let l := lc_rcheck_ok a b c d e f g h i j k m n o p q r s t u v w x y z A B; trim ((77,D)::(113,C)::l) l = [(0,a),(1,b),(2,c),(3,d),(4,e),(5,f),(6,g),(7,h),(8,i),(9,j),(10,k),(14,m),(17,n),(18,o),(19,p),(20,q),(24,r),(25,s),(26,t),(27,u),(61,v),(68,w),(75,x),(76,y),(77,D),(78,A),(112,B)] := by intros; rfl
      refine R_nil (tr ..) ?_; clear tr
      refine then_n ?_
      exact ⟨_, _, ⟨w + 1, _, _, _, _, _, rfl, rfl, rfl, by omega, by exact all_step hd (by omega)⟩, by rfl, by omega⟩
    ·
     try simp only [decide_eq_true_eq, decide_eq_false_iff_not, Bool.not_eq_true', Bool.not_eq_false', beq_iff_eq, beq_eq_false_iff_ne, ne_eq] at h11
     refine at_exit rfl ?_
     refine then_x ?_
     refine then_x ?_
     refine blk_x ?_
     refine blk_n ?_
     refine then_n ?_
     refine rg rfl ?_
     refine Rq ?_
     refine Rq ?_
     refine Rq ?_
     have tr : ∀ a b c d e f g h i j k m n o p q r s t u v w x y z A B C D E : AV, let l := lc_rcheck_ok a b c d e f g h i j k m n o p q r s t u v w x y z A B; trim ((8,E)::(70,D)::(69,C)::l) l = [(0,a),(1,b),(2,c),(3,d),(4,e),(5,f),(6,g),(7,h),(8,E),(9,j),(10,k),(14,m),(17,n),(18,o),(19,p),(20,q),(24,r),(25,s),(26,t),(27,u),(61,v),(68,w),(75,x),(76,y),(77,z),(78,A),(112,B)] := by intros; rfl
     refine R_nil (tr ..) ?_; clear tr
     refine then_n ?_
     exact ⟨_, _, ⟨v + 1, _, _, _, _, _, _, _, _, _, rfl, rfl, rfl, by omega, by omega, by exact all_step hc fun _ w hw => hd w (by omega)⟩, by rfl, by omega⟩
   ·
    try simp only [decide_eq_true_eq, decide_eq_false_iff_not, Bool.not_eq_true', Bool.not_eq_false', beq_iff_eq, beq_eq_false_iff_ne, ne_eq] at h10
    refine at_exit rfl ?_
    refine then_x ?_
    refine then_x ?_
    refine blk_x ?_
    refine then_n ?_
    refine at_seq rfl ?_
    refine rg rfl ?_
    refine Rq ?_
    have tr : ∀ a b c d e f g h i j k m n o p q r s t u v w x y z A B C : AV, let l := lc_rcheck_ok a b c d e f g h i j k m n o p q r s t u v w x y z A B; trim ((2,C)::l) l = [(0,a),(1,b),(2,C),(3,d),(4,e),(5,f),(6,g),(7,h),(8,i),(9,j),(10,k),(14,m),(17,n),(18,o),(19,p),(20,q),(24,r),(25,s),(26,t),(27,u),(61,v),(68,w),(75,x),(76,y),(77,z),(78,A),(112,B)] := by intros; rfl
    refine R_nil (tr ..) ?_; clear tr
    refine then_n ?_
    refine at_ret rfl ?_
    refine fpure ?_
    refine ⟨?_, rfl⟩
    rw [checkS, if_neg (fun hh => hh hs0), if_neg (fun hh => hh he0), if_neg (fun hh => hh hdn), if_neg (fun hh => hh fun i hi h2 w hw => hc i (by omega) h2 w hw)]

end Go.Proofs.Ytaoondlakhocnaa
