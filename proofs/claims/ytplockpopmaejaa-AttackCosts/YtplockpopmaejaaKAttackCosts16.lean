/-
  What is proved: AttackCosts returns true for every input, and each argument reads behind the call as it read before. No conditions. (The step from the walk to the row, written by program.)
-/
import Derived.Test.YtplockpopmaejaaKAttackCosts13
import Derived.Test.YtplockpopmaejaaKAttackCosts14
import Derived.Test.YtplockpopmaejaaKAttackCosts15
import Derived.Test.YtplockpopmaejaaKAttackCosts3
import Derived.ProofKit
import Derived.ChangeArms
import Derived.DataReads
import Derived.OpenShut
import Derived.WideShapes
import Derived.KernelRfl
import Derived.Test.YtplockpopmaejaaKAttackCosts6
import Derived.Test.YtplockpopmaejaaRows
import Derived.ChangeOld
import Derived.Below
section
set_option linter.unusedSimpArgs false
set_option linter.unusedVariables false
set_option maxHeartbeats 40000000
set_option maxRecDepth 4000
namespace Go.Proofs.Ytplockpopmaejaa
open Go Go.Am

abbrev lc_acosts_ok (a b c d e f g h i j k m n o p q r s t u v w x y z A B C D : AV) : Env := [(0,a),(1,b),(2,c),(3,d),(4,e),(6,f),(8,g),(9,h),(10,i),(11,j),(12,k),(13,m),(14,n),(16,o),(38,p),(40,q),(41,r),(42,s),(43,t),(49,u),(80,v),(82,w),(83,x),(84,y),(96,z),(101,A),(102,B),(103,C),(119,D)]
theorem acosts_ok (lim : Nat) (H : Heap) (l : List Bt) (m : List Bw) (bs ws : List Int) (balls : Int) (hL : ∀ u, u < l.length → (gt l u).nm.size ≤ 9223372036854775807) (hM : ∀ u, u < m.length → (gt m u).nm.size ≤ 9223372036854775807) :
    ACall sig lim 3 [.agg [btsAV l, bwsAV m], .agg [intsAV bs, intsAV ws], AV.i balls] H fun r _ => r = .v (.bool true) := by
 have q3 : True := trivial
 have q4 : True := trivial
 have q8 : True := trivial
 refine ACall_pure (fa := fa3) rfl rfl rfl rfl ?_
 have tr : ∀ a0 a1 a2 : AV, env0 fa3.keep [a0, a1, a2] = [(0,a0),(1,a1),(2,a2),(3,.any),(4,.any),(6,.any),(8,.any),(9,.any),(10,.any),(11,.any),(12,.any),(13,.any),(14,.any),(16,.any),(38,.any),(40,.any),(41,.any),(42,.any),(43,.any),(49,.any),(80,.any),(82,.any),(83,.any),(84,.any),(96,.any),(101,.any),(102,.any),(103,.any),(119,.any)] := fun a0 a1 a2 => rfl
 refine W_to (tr _ _ _) ?_; clear tr
 refine at_seq rfl ?_
 refine rg rfl ?_
 refine A_box rfl (by simp (disch := first | omega | (simp only [List.length_map, List.length_append, List.length_set, List.length_cons, List.length_nil]; omega)) only [go_sem, ↓reduceIte, Nat.reduceEqDiff, reduceCtorEq] <;> rfl) ?_
 intro H1 n1
 have en1 := n1.len
 have q3 := n1.new
 refine A_box rfl (by simp (disch := first | omega | (simp only [List.length_map, List.length_append, List.length_set, List.length_cons, List.length_nil]; omega)) only [go_sem, ↓reduceIte, Nat.reduceEqDiff, reduceCtorEq, q3] <;> rfl) ?_
 intro H2 n2
 have en2 := n2.len
 have q3 := (n2.old _ (hget_lt q3)).trans q3
 have q4 := n2.new
 refine Rq ?_
 have tr : ∀ a b c d e f g h i j k m n o p q r s t u v w x y z A B C D E F G : AV, let l := lc_acosts_ok a b c d e f g h i j k m n o p q r s t u v w x y z A B C D; trim ((6,G)::(4,F)::(3,E)::l) l = [(0,a),(1,b),(2,c),(3,E),(4,F),(6,G),(8,g),(9,h),(10,i),(11,j),(12,k),(13,m),(14,n),(16,o),(38,p),(40,q),(41,r),(42,s),(43,t),(49,u),(80,v),(82,w),(83,x),(84,y),(96,z),(101,A),(102,B),(103,C),(119,D)] := by intros; rfl
 refine R_nil (tr ..) ?_; clear tr
 refine then_n ?_
 refine at_seq rfl ?_
 refine at_seq rfl ?_
 refine rg rfl ?_
 refine Rcall ?_
 refine ACall_eval 200 (awake46 _ _) ?_
 refine Rq ?_
 have tr : ∀ a b c d e f g h i j k m n o p q r s t u v w x y z A B C D E F : AV, let l := lc_acosts_ok a b c d e f g h i j k m n o p q r s t u v w x y z A B C D; trim ((16,F)::(15,E)::l) l = [(0,a),(1,b),(2,c),(3,d),(4,e),(6,f),(8,g),(9,h),(10,i),(11,j),(12,k),(13,m),(14,n),(16,F),(38,p),(40,q),(41,r),(42,s),(43,t),(49,u),(80,v),(82,w),(83,x),(84,y),(96,z),(101,A),(102,B),(103,C),(119,D)] := by intros; rfl
 refine R_nil (tr ..) ?_; clear tr
 refine then_n ?_
 refine cdf ?_
 refine at_skip rfl ?_
 refine then_n ?_
 refine at_seq rfl ?_
 refine at_seq rfl ?_
 refine rg rfl ?_
 refine Rq ?_
 refine R_q rfl (by simp (disch := first | omega | (simp only [List.length_map, List.length_append, List.length_set, List.length_cons, List.length_nil]; omega)) only [go_sem, ↓reduceIte, Nat.reduceEqDiff, reduceCtorEq, q3, q4, q8] <;> rfl) ?_
 refine Rq ?_
 refine Rq ?_
 refine Rq ?_
 refine Rp_split (fun h1 => ?_) (fun h1 => ?_)
 ·
  try simp only [decide_eq_true_eq, decide_eq_false_iff_not, Bool.not_eq_true', Bool.not_eq_false', beq_iff_eq, beq_eq_false_iff_ne, ne_eq] at h1
  refine Rn ?_
  refine Rn ?_
  refine Rn ?_
  refine Rn ?_
  refine Rq ?_
  refine Rq ?_
  refine Rn ?_
  refine Rn ?_
  refine Rn ?_
  refine Rn ?_
  refine Rq ?_
  refine Rq ?_
  refine Rn ?_
  refine Rn ?_
  refine Rn ?_
  refine Rn ?_
  refine Rq ?_
  have tr : ∀ a b c d e f g h i j k m n o p q r s t u v w x y z A B C D E F G H I J K L M N O P Q R S T U V W X Y Z : AV, let l := lc_acosts_ok a b c d e f g h i j k m n o p q r s t u v w x y z A B C D; trim ((38,Z)::(37,Y)::(36,X)::(35,W)::(34,V)::(33,U)::(32,T)::(31,S)::(30,R)::(29,Q)::(28,P)::(27,O)::(26,N)::(25,M)::(24,L)::(23,K)::(22,J)::(21,I)::(20,H)::(19,G)::(18,F)::(17,E)::l) l = [(0,a),(1,b),(2,c),(3,d),(4,e),(6,f),(8,g),(9,h),(10,i),(11,j),(12,k),(13,m),(14,n),(16,o),(38,Z),(40,q),(41,r),(42,s),(43,t),(49,u),(80,v),(82,w),(83,x),(84,y),(96,z),(101,A),(102,B),(103,C),(119,D)] := by intros; rfl
  refine R_nil (tr ..) ?_; clear tr
  refine then_n ?_
  refine cdt ?_
  refine at_seq rfl ?_
  refine rg rfl ?_
  refine Rq ?_
  have tr : ∀ a b c d e f g h i j k m n o p q r s t u v w x y z A B C D E : AV, let l := lc_acosts_ok a b c d e f g h i j k m n o p q r s t u v w x y z A B C D; trim ((6,E)::l) l = [(0,a),(1,b),(2,c),(3,d),(4,e),(6,E),(8,g),(9,h),(10,i),(11,j),(12,k),(13,m),(14,n),(16,o),(38,p),(40,q),(41,r),(42,s),(43,t),(49,u),(80,v),(82,w),(83,x),(84,y),(96,z),(101,A),(102,B),(103,C),(119,D)] := by intros; rfl
  refine R_nil (tr ..) ?_; clear tr
  refine then_n ?_
  refine at_ret rfl ?_
  refine then_r ?_
  refine fpure ?_
  first | rfl | (simp; done)
 ·
  try simp only [decide_eq_true_eq, decide_eq_false_iff_not, Bool.not_eq_true', Bool.not_eq_false', beq_iff_eq, beq_eq_false_iff_ne, ne_eq] at h1
  refine Ry ?_
  refine Rq ?_
  refine Ry ?_
  refine R_q rfl (by simp (disch := first | omega | (simp only [List.length_map, List.length_append, List.length_set, List.length_cons, List.length_nil]; omega)) only [go_sem, ↓reduceIte, Nat.reduceEqDiff, reduceCtorEq, q3, q4, q8] <;> rfl) ?_
  refine Ry ?_
  refine Rq ?_
  refine Ry ?_
  refine Rq ?_
  refine Rq ?_
  refine Rq ?_
  refine Rp_split (fun h2 => ?_) (fun h2 => ?_)
  ·
   try simp only [decide_eq_true_eq, decide_eq_false_iff_not, Bool.not_eq_true', Bool.not_eq_false', beq_iff_eq, beq_eq_false_iff_ne, ne_eq] at h2
   refine Rn ?_
   refine Rn ?_
   refine Rn ?_
   refine Rn ?_
   refine Rq ?_
   refine Rq ?_
   refine Rn ?_
   refine Rn ?_
   refine Rn ?_
   refine Rn ?_
   refine Rq ?_
   have tr : ∀ a b c d e f g h i j k m n o p q r s t u v w x y z A B C D E F G H I J K L M N O P Q R S T U V W X Y Z : AV, let l := lc_acosts_ok a b c d e f g h i j k m n o p q r s t u v w x y z A B C D; trim ((38,Z)::(37,Y)::(36,X)::(35,W)::(34,V)::(33,U)::(32,T)::(31,S)::(30,R)::(29,Q)::(28,P)::(27,O)::(26,N)::(25,M)::(24,L)::(23,K)::(22,J)::(21,I)::(20,H)::(19,G)::(18,F)::(17,E)::l) l = [(0,a),(1,b),(2,c),(3,d),(4,e),(6,f),(8,g),(9,h),(10,i),(11,j),(12,k),(13,m),(14,n),(16,o),(38,Z),(40,q),(41,r),(42,s),(43,t),(49,u),(80,v),(82,w),(83,x),(84,y),(96,z),(101,A),(102,B),(103,C),(119,D)] := by intros; rfl
   refine R_nil (tr ..) ?_; clear tr
   refine then_n ?_
   refine cdt ?_
   refine at_seq rfl ?_
   refine rg rfl ?_
   refine Rq ?_
   have tr : ∀ a b c d e f g h i j k m n o p q r s t u v w x y z A B C D E : AV, let l := lc_acosts_ok a b c d e f g h i j k m n o p q r s t u v w x y z A B C D; trim ((6,E)::l) l = [(0,a),(1,b),(2,c),(3,d),(4,e),(6,E),(8,g),(9,h),(10,i),(11,j),(12,k),(13,m),(14,n),(16,o),(38,p),(40,q),(41,r),(42,s),(43,t),(49,u),(80,v),(82,w),(83,x),(84,y),(96,z),(101,A),(102,B),(103,C),(119,D)] := by intros; rfl
   refine R_nil (tr ..) ?_; clear tr
   refine then_n ?_
   refine at_ret rfl ?_
   refine then_r ?_
   refine fpure ?_
   first | rfl | (simp; done)
  ·
   try simp only [decide_eq_true_eq, decide_eq_false_iff_not, Bool.not_eq_true', Bool.not_eq_false', beq_iff_eq, beq_eq_false_iff_ne, ne_eq] at h2
   refine Ry ?_
   refine Rq ?_
   refine Ry ?_
   refine R_q rfl (by simp (disch := first | omega | (simp only [List.length_map, List.length_append, List.length_set, List.length_cons, List.length_nil]; omega)) only [go_sem, ↓reduceIte, Nat.reduceEqDiff, reduceCtorEq, q3, q4, q8] <;> rfl) ?_
   refine Ry ?_
   refine Rq ?_
   refine Ry ?_
   refine Rq ?_
   refine Rq ?_
   refine Rq ?_
   refine Rp_split (fun h3 => ?_) (fun h3 => ?_)
   ·
    try simp only [decide_eq_true_eq, decide_eq_false_iff_not, Bool.not_eq_true', Bool.not_eq_false', beq_iff_eq, beq_eq_false_iff_ne, ne_eq] at h3
    refine Rn ?_
    refine Rn ?_
    refine Rn ?_
    refine Rn ?_
    refine Rq ?_
    have tr : ∀ a b c d e f g h i j k m n o p q r s t u v w x y z A B C D E F G H I J K L M N O P Q R S T U V W X Y Z : AV, let l := lc_acosts_ok a b c d e f g h i j k m n o p q r s t u v w x y z A B C D; trim ((38,Z)::(37,Y)::(36,X)::(35,W)::(34,V)::(33,U)::(32,T)::(31,S)::(30,R)::(29,Q)::(28,P)::(27,O)::(26,N)::(25,M)::(24,L)::(23,K)::(22,J)::(21,I)::(20,H)::(19,G)::(18,F)::(17,E)::l) l = [(0,a),(1,b),(2,c),(3,d),(4,e),(6,f),(8,g),(9,h),(10,i),(11,j),(12,k),(13,m),(14,n),(16,o),(38,Z),(40,q),(41,r),(42,s),(43,t),(49,u),(80,v),(82,w),(83,x),(84,y),(96,z),(101,A),(102,B),(103,C),(119,D)] := by intros; rfl
    refine R_nil (tr ..) ?_; clear tr
    refine then_n ?_
    refine cdt ?_
    refine at_seq rfl ?_
    refine rg rfl ?_
    refine Rq ?_
    have tr : ∀ a b c d e f g h i j k m n o p q r s t u v w x y z A B C D E : AV, let l := lc_acosts_ok a b c d e f g h i j k m n o p q r s t u v w x y z A B C D; trim ((6,E)::l) l = [(0,a),(1,b),(2,c),(3,d),(4,e),(6,E),(8,g),(9,h),(10,i),(11,j),(12,k),(13,m),(14,n),(16,o),(38,p),(40,q),(41,r),(42,s),(43,t),(49,u),(80,v),(82,w),(83,x),(84,y),(96,z),(101,A),(102,B),(103,C),(119,D)] := by intros; rfl
    refine R_nil (tr ..) ?_; clear tr
    refine then_n ?_
    refine at_ret rfl ?_
    refine then_r ?_
    refine fpure ?_
    first | rfl | (simp; done)
   ·
    try simp only [decide_eq_true_eq, decide_eq_false_iff_not, Bool.not_eq_true', Bool.not_eq_false', beq_iff_eq, beq_eq_false_iff_ne, ne_eq] at h3
    refine Ry ?_
    refine Rq ?_
    refine Ry ?_
    refine R_q rfl (by simp (disch := first | omega | (simp only [List.length_map, List.length_append, List.length_set, List.length_cons, List.length_nil]; omega)) only [go_sem, ↓reduceIte, Nat.reduceEqDiff, reduceCtorEq, q3, q4, q8] <;> rfl) ?_
    refine Ry ?_
    refine Rq ?_
    refine Ry ?_
    refine Rq ?_
    refine Rq ?_
    have tr : ∀ a b c d e f g h i j k m n o p q r s t u v w x y z A B C D E F G H I J K L M N O P Q R S T U V W X Y Z : AV, let l := lc_acosts_ok a b c d e f g h i j k m n o p q r s t u v w x y z A B C D; trim ((38,Z)::(37,Y)::(36,X)::(35,W)::(34,V)::(33,U)::(32,T)::(31,S)::(30,R)::(29,Q)::(28,P)::(27,O)::(26,N)::(25,M)::(24,L)::(23,K)::(22,J)::(21,I)::(20,H)::(19,G)::(18,F)::(17,E)::l) l = [(0,a),(1,b),(2,c),(3,d),(4,e),(6,f),(8,g),(9,h),(10,i),(11,j),(12,k),(13,m),(14,n),(16,o),(38,Z),(40,q),(41,r),(42,s),(43,t),(49,u),(80,v),(82,w),(83,x),(84,y),(96,z),(101,A),(102,B),(103,C),(119,D)] := by intros; rfl
    refine R_nil (tr ..) ?_; clear tr
    refine then_n ?_
    refine cdd (fun h4 => ?_) (fun h4 => ?_)
    ·
     try simp only [decide_eq_true_eq, decide_eq_false_iff_not, Bool.not_eq_true', Bool.not_eq_false', beq_iff_eq, beq_eq_false_iff_ne, ne_eq] at h4
     refine at_seq rfl ?_
     refine rg rfl ?_
     refine Rq ?_
     have tr : ∀ a b c d e f g h i j k m n o p q r s t u v w x y z A B C D E : AV, let l := lc_acosts_ok a b c d e f g h i j k m n o p q r s t u v w x y z A B C D; trim ((6,E)::l) l = [(0,a),(1,b),(2,c),(3,d),(4,e),(6,E),(8,g),(9,h),(10,i),(11,j),(12,k),(13,m),(14,n),(16,o),(38,p),(40,q),(41,r),(42,s),(43,t),(49,u),(80,v),(82,w),(83,x),(84,y),(96,z),(101,A),(102,B),(103,C),(119,D)] := by intros; rfl
     refine R_nil (tr ..) ?_; clear tr
     refine then_n ?_
     refine at_ret rfl ?_
     refine then_r ?_
     refine fpure ?_
     first | rfl | (simp; done)
    ·
     try simp only [decide_eq_true_eq, decide_eq_false_iff_not, Bool.not_eq_true', Bool.not_eq_false', beq_iff_eq, beq_eq_false_iff_ne, ne_eq] at h4
     refine at_skip rfl ?_
     refine then_n ?_
     refine at_seq rfl ?_
     refine at_seq rfl ?_
     refine rg rfl ?_
     refine Rq ?_
     refine R_q rfl (by simp (disch := first | omega | (simp only [List.length_map, List.length_append, List.length_set, List.length_cons, List.length_nil]; omega)) only [go_sem, ↓reduceIte, Nat.reduceEqDiff, reduceCtorEq, q3, q4, q8] <;> rfl) ?_
     refine Rq ?_
     refine Rq ?_
     have tr : ∀ a b c d e f g h i j k m n o p q r s t u v w x y z A B C D E F G H : AV, let l := lc_acosts_ok a b c d e f g h i j k m n o p q r s t u v w x y z A B C D; trim ((42,H)::(41,G)::(40,F)::(39,E)::l) l = [(0,a),(1,b),(2,c),(3,d),(4,e),(6,f),(8,g),(9,h),(10,i),(11,j),(12,k),(13,m),(14,n),(16,o),(38,p),(40,F),(41,G),(42,H),(43,t),(49,u),(80,v),(82,w),(83,x),(84,y),(96,z),(101,A),(102,B),(103,C),(119,D)] := by intros; rfl
     refine R_nil (tr ..) ?_; clear tr
     refine then_n ?_
     refine at_block rfl ?_
     refine loop_n rfl (fun mm kv H' => ∃ u : Nat, ∃ x6 x8 x43 x49 : AV, (kv = [(6, x6), (8, x8), (42, AV.i u), (43, x43), (49, x49)]) ∧ (mm = l.length - u) ∧ (hget H' H.length = some [btsAV l, bwsAV m]) ∧ (hget H' H1.length = some [intsAV bs, intsAV ws]) ∧ (H.length ≤ H'.length) ∧ (u ≤ l.length)) ⟨0, _, _, _, _, rfl, rfl, by exact q3, by exact q4, by omega, by omega⟩ (by rfl) ?_
     rintro mm kv H3 ⟨u, x6, x8, x43, x49, rfl, rfl, q3, q4, hlen, hu⟩
     have tr : ∀ a b c d e f g h i j k m n o p q r s t u v w x y z A B C D E F G H I : AV, upd [(0,a),(1,b),(2,c),(3,d),(4,e),(6,f),(8,g),(9,h),(10,i),(11,j),(12,k),(13,m),(14,n),(16,o),(38,p),(40,q),(41,r),(42,s),(43,t),(49,u),(80,v),(82,w),(83,x),(84,y),(96,z),(101,A),(102,B),(103,C),(119,D)] [(6,E),(8,F),(42,G),(43,H),(49,I)] = [(0,a),(1,b),(2,c),(3,d),(4,e),(6,E),(8,F),(9,h),(10,i),(11,j),(12,k),(13,m),(14,n),(16,o),(38,p),(40,q),(41,r),(42,G),(43,H),(49,I),(80,v),(82,w),(83,x),(84,y),(96,z),(101,A),(102,B),(103,C),(119,D)] := by intros; rfl
     refine W_to (tr ..) ?_; clear tr
     have lq3 := hget_lt q3
     have lq4 := hget_lt q4
     refine at_seq rfl ?_
     refine rg rfl ?_
     refine Rq ?_
     have tr : ∀ a b c d e f g h i j k m n o p q r s t u v w x y z A B C D E : AV, let l := lc_acosts_ok a b c d e f g h i j k m n o p q r s t u v w x y z A B C D; trim ((43,E)::l) l = [(0,a),(1,b),(2,c),(3,d),(4,e),(6,f),(8,g),(9,h),(10,i),(11,j),(12,k),(13,m),(14,n),(16,o),(38,p),(40,q),(41,r),(42,s),(43,E),(49,u),(80,v),(82,w),(83,x),(84,y),(96,z),(101,A),(102,B),(103,C),(119,D)] := by intros; rfl
     refine R_nil (tr ..) ?_; clear tr
     refine then_n ?_
     refine at_seq rfl ?_
     refine cdd (fun h5 => ?_) (fun h5 => ?_)
     ·
      try simp only [decide_eq_true_eq, decide_eq_false_iff_not, Bool.not_eq_true', Bool.not_eq_false', beq_iff_eq, beq_eq_false_iff_ne, ne_eq] at h5
      refine at_skip rfl ?_
      refine then_n ?_
      refine at_seq rfl ?_
      refine at_block rfl ?_
      refine at_seq rfl ?_
      refine rg rfl ?_
      refine Rq ?_
      refine R_q rfl (by simp (disch := first | omega | (simp only [List.length_map, List.length_append, List.length_set, List.length_cons, List.length_nil]; omega)) only [go_sem, ↓reduceIte, Nat.reduceEqDiff, reduceCtorEq, q3, q4, q8] <;> rfl) ?_
      refine A_alloc rfl ?_
      intro H4 n4
      have en4 := n4.len
      have q3 := (n4.old _ (hget_lt q3)).trans q3
      have q4 := (n4.old _ (hget_lt q4)).trans q4
      have q8 := n4.new
      have lq3 := hget_lt q3
      have lq4 := hget_lt q4
      have lq8 := hget_lt q8
      refine A_store ty31 (by simp (disch := first | omega | (simp only [List.length_map, List.length_append, List.length_set, List.length_cons, List.length_nil]; omega)) only [go_sem, ↓reduceIte, Nat.reduceEqDiff, reduceCtorEq, q8] <;> rfl) (by simp (disch := first | omega | (simp only [List.length_map, List.length_append, List.length_set, List.length_cons, List.length_nil]; omega)) only [go_sem, ↓reduceIte, Nat.reduceEqDiff, reduceCtorEq, q8] <;> rfl) q8 ⟨by omega, rfl, by first | exact Nat.le_refl _ | simp⟩ (k' := btC (gt l u)) rfl ?_
      intro H5 w5
      have ew5 := w5.len
      have q3 := (w5.old _ (by omega)).trans q3
      have q4 := (w5.old _ (by omega)).trans q4
      have q8 := w5.new
      have tr : ∀ a b c d e f g h i j k m n o p q r s t u v w x y z A B C D E F G : AV, let l := lc_acosts_ok a b c d e f g h i j k m n o p q r s t u v w x y z A B C D; trim ((8,G)::(45,F)::(44,E)::l) l = [(0,a),(1,b),(2,c),(3,d),(4,e),(6,f),(8,G),(9,h),(10,i),(11,j),(12,k),(13,m),(14,n),(16,o),(38,p),(40,q),(41,r),(42,s),(43,t),(49,u),(80,v),(82,w),(83,x),(84,y),(96,z),(101,A),(102,B),(103,C),(119,D)] := by intros; rfl
      refine R_nil (tr ..) ?_; clear tr
      refine then_n ?_
      refine at_seq rfl ?_
      refine rg rfl ?_
      refine Rq ?_
      refine R_q rfl (by simp (disch := first | omega | (simp only [List.length_map, List.length_append, List.length_set, List.length_cons, List.length_nil]; omega)) only [go_sem, ↓reduceIte, Nat.reduceEqDiff, reduceCtorEq, q3, q4, q8] <;> rfl) ?_
      refine Rq ?_
      refine Rq ?_
      have tr : ∀ a b c d e f g h i j k m n o p q r s t u v w x y z A B C D E F G H : AV, let l := lc_acosts_ok a b c d e f g h i j k m n o p q r s t u v w x y z A B C D; trim ((49,H)::(48,G)::(47,F)::(46,E)::l) l = [(0,a),(1,b),(2,c),(3,d),(4,e),(6,f),(8,g),(9,h),(10,i),(11,j),(12,k),(13,m),(14,n),(16,o),(38,p),(40,q),(41,r),(42,s),(43,t),(49,H),(80,v),(82,w),(83,x),(84,y),(96,z),(101,A),(102,B),(103,C),(119,D)] := by intros; rfl
      refine R_nil (tr ..) ?_; clear tr
      refine then_n ?_
      refine cdd (fun h6 => ?_) (fun h6 => ?_)
      ·
       try simp only [decide_eq_true_eq, decide_eq_false_iff_not, Bool.not_eq_true', Bool.not_eq_false', beq_iff_eq, beq_eq_false_iff_ne, ne_eq] at h6
       refine at_seq rfl ?_
       refine rg rfl ?_
       refine Rq ?_
       have tr : ∀ a b c d e f g h i j k m n o p q r s t u v w x y z A B C D E : AV, let l := lc_acosts_ok a b c d e f g h i j k m n o p q r s t u v w x y z A B C D; trim ((6,E)::l) l = [(0,a),(1,b),(2,c),(3,d),(4,e),(6,E),(8,g),(9,h),(10,i),(11,j),(12,k),(13,m),(14,n),(16,o),(38,p),(40,q),(41,r),(42,s),(43,t),(49,u),(80,v),(82,w),(83,x),(84,y),(96,z),(101,A),(102,B),(103,C),(119,D)] := by intros; rfl
       refine R_nil (tr ..) ?_; clear tr
       refine then_n ?_
       refine at_ret rfl ?_
       refine blk_r ?_
       refine then_r ?_
       refine then_r ?_
       refine blk_r ?_
       refine then_r ?_
       refine fpure ?_
       first | rfl | (simp; done)
      ·
       try simp only [decide_eq_true_eq, decide_eq_false_iff_not, Bool.not_eq_true', Bool.not_eq_false', beq_iff_eq, beq_eq_false_iff_ne, ne_eq] at h6
       refine at_skip rfl ?_
       refine blk_n ?_
       refine then_n ?_
       refine rg rfl ?_
       refine Rq ?_
       refine Rq ?_
       have tr : ∀ a b c d e f g h i j k m n o p q r s t u v w x y z A B C D E F : AV, let l := lc_acosts_ok a b c d e f g h i j k m n o p q r s t u v w x y z A B C D; trim ((42,F)::(50,E)::l) l = [(0,a),(1,b),(2,c),(3,d),(4,e),(6,f),(8,g),(9,h),(10,i),(11,j),(12,k),(13,m),(14,n),(16,o),(38,p),(40,q),(41,r),(42,F),(43,t),(49,u),(80,v),(82,w),(83,x),(84,y),(96,z),(101,A),(102,B),(103,C),(119,D)] := by intros; rfl
       refine R_nil (tr ..) ?_; clear tr
       refine then_n ?_
       exact ⟨_, _, ⟨u + 1, _, _, _, _, rfl, rfl, by exact q3, by exact q4, by exact (show H.length ≤ H5.length by omega), by omega⟩, by rfl, by omega⟩
     ·
      try simp only [decide_eq_true_eq, decide_eq_false_iff_not, Bool.not_eq_true', Bool.not_eq_false', beq_iff_eq, beq_eq_false_iff_ne, ne_eq] at h5
      refine at_exit rfl ?_
      refine then_x ?_
      refine then_x ?_
      refine blk_x ?_
      refine then_n ?_
      refine at_seq rfl ?_
      refine rg rfl ?_
      obtain ⟨x, rows, hx, hxr⟩ := co_any l m bs ws balls
      have hrl : rows.length ≤ 12 := co_len hx hxr
      refine R_q rfl (by simp (disch := first | omega | (simp only [List.length_map, List.length_append, List.length_set, List.length_cons, List.length_nil]; omega)) only [go_sem, ↓reduceIte, Nat.reduceEqDiff, reduceCtorEq, q3, q4, q8] <;> rfl) ?_
      refine Rq ?_
      refine R_q rfl (by simp (disch := first | omega | (simp only [List.length_map, List.length_append, List.length_set, List.length_cons, List.length_nil]; omega)) only [go_sem, ↓reduceIte, Nat.reduceEqDiff, reduceCtorEq, q3, q4, q8] <;> rfl) ?_
      refine Rq ?_
      refine R_q rfl (by simp (disch := first | omega | (simp only [List.length_map, List.length_append, List.length_set, List.length_cons, List.length_nil]; omega)) only [go_sem, ↓reduceIte, Nat.reduceEqDiff, reduceCtorEq, q3, q4, q8] <;> rfl) ?_
      refine Rq ?_
      refine Rcall ?_
      refine ACall_eq (costs5 _ _ l m bs ws balls hL hM (by omega) (by omega) (by omega) (by omega)) ?_
      rewrite [hx]
      refine Rq ?_
      refine Rq ?_
      refine Rq ?_
      refine Rq ?_
      refine Rq ?_
      have tr : ∀ a b c d e f g h i j k m n o p q r s t u v w x y z A B C D E F G H I J K L M N O P : AV, let l := lc_acosts_ok a b c d e f g h i j k m n o p q r s t u v w x y z A B C D; trim ((10,P)::(9,O)::(60,N)::(59,M)::(51,L)::(58,K)::(57,J)::(56,I)::(55,H)::(54,G)::(53,F)::(52,E)::l) l = [(0,a),(1,b),(2,c),(3,d),(4,e),(6,f),(8,g),(9,O),(10,P),(11,j),(12,k),(13,m),(14,n),(16,o),(38,p),(40,q),(41,r),(42,s),(43,t),(49,u),(80,v),(82,w),(83,x),(84,y),(96,z),(101,A),(102,B),(103,C),(119,D)] := by intros; rfl
      refine R_nil (tr ..) ?_; clear tr
      refine then_n ?_
      refine at_seq rfl ?_
      refine rg rfl ?_
      refine R_q rfl (by simp (disch := first | omega | (simp only [List.length_map, List.length_append, List.length_set, List.length_cons, List.length_nil]; omega)) only [go_sem, ↓reduceIte, Nat.reduceEqDiff, reduceCtorEq, q3, q4, q8] <;> rfl) ?_
      refine Rq ?_
      refine R_q rfl (by simp (disch := first | omega | (simp only [List.length_map, List.length_append, List.length_set, List.length_cons, List.length_nil]; omega)) only [go_sem, ↓reduceIte, Nat.reduceEqDiff, reduceCtorEq, q3, q4, q8] <;> rfl) ?_
      refine Rq ?_
      refine R_q rfl (by simp (disch := first | omega | (simp only [List.length_map, List.length_append, List.length_set, List.length_cons, List.length_nil]; omega)) only [go_sem, ↓reduceIte, Nat.reduceEqDiff, reduceCtorEq, q3, q4, q8] <;> rfl) ?_
      refine Rq ?_
      refine Rcall ?_
      refine ACall_eq (costs6 _ _ l m bs ws balls hL hM (by omega) (by omega) (by omega) (by omega)) ?_
      rewrite [hx]
      refine Rq ?_
      refine Rq ?_
      refine Rq ?_
      refine Rq ?_
      refine Rq ?_
      have tr : ∀ a b c d e f g h i j k m n o p q r s t u v w x y z A B C D E F G H I J K L M N O P : AV, let l := lc_acosts_ok a b c d e f g h i j k m n o p q r s t u v w x y z A B C D; trim ((12,P)::(11,O)::(70,N)::(69,M)::(61,L)::(68,K)::(67,J)::(66,I)::(65,H)::(64,G)::(63,F)::(62,E)::l) l = [(0,a),(1,b),(2,c),(3,d),(4,e),(6,f),(8,g),(9,h),(10,i),(11,O),(12,P),(13,m),(14,n),(16,o),(38,p),(40,q),(41,r),(42,s),(43,t),(49,u),(80,v),(82,w),(83,x),(84,y),(96,z),(101,A),(102,B),(103,C),(119,D)] := by intros; rfl
      refine R_nil (tr ..) ?_; clear tr
      refine then_n ?_
      refine at_seq rfl ?_
      refine at_seq rfl ?_
      refine rg rfl ?_
      refine Rq ?_
      refine R_q (r := AV.i (rows.length : Nat)) rfl (by simp (disch := first | omega | (simp only [List.length_map, List.length_append, List.length_set, List.length_cons, List.length_nil]; omega)) only [go_sem, ↓reduceIte, Nat.reduceEqDiff, reduceCtorEq]; exact hxr.len) ?_
      refine Rq ?_
      refine R_q (r := AV.i (rows.length : Nat)) rfl (by simp (disch := first | omega | (simp only [List.length_map, List.length_append, List.length_set, List.length_cons, List.length_nil]; omega)) only [go_sem, ↓reduceIte, Nat.reduceEqDiff, reduceCtorEq]; exact hxr.len) ?_
      refine Rq ?_
      refine Rq ?_
      refine Rp_split (fun h7 => ?_) (fun h7 => ?_)
      ·
       try simp only [decide_eq_true_eq, decide_eq_false_iff_not, Bool.not_eq_true', Bool.not_eq_false', beq_iff_eq, beq_eq_false_iff_ne, ne_eq] at h7
       first | omega | contradiction | exact absurd rfl (by assumption) | exact absurd trivial (by assumption)
      ·
       try simp only [decide_eq_true_eq, decide_eq_false_iff_not, Bool.not_eq_true', Bool.not_eq_false', beq_iff_eq, beq_eq_false_iff_ne, ne_eq] at h7
       refine Ry ?_
       refine Rq ?_
       refine Ry ?_
       refine Rq ?_
       refine Ry ?_
       refine Rq ?_
       refine Rq ?_
       have tr : ∀ a b c d e f g h i j k m n o p q r s t u v w x y z A B C D E F G H I J K L M N : AV, let l := lc_acosts_ok a b c d e f g h i j k m n o p q r s t u v w x y z A B C D; trim ((80,N)::(79,M)::(78,L)::(77,K)::(76,J)::(75,I)::(74,H)::(73,G)::(72,F)::(71,E)::l) l = [(0,a),(1,b),(2,c),(3,d),(4,e),(6,f),(8,g),(9,h),(10,i),(11,j),(12,k),(13,m),(14,n),(16,o),(38,p),(40,q),(41,r),(42,s),(43,t),(49,u),(80,N),(82,w),(83,x),(84,y),(96,z),(101,A),(102,B),(103,C),(119,D)] := by intros; rfl
       refine R_nil (tr ..) ?_; clear tr
       refine then_n ?_
       refine cdd (fun h8 => ?_) (fun h8 => ?_)
       ·
        try simp only [decide_eq_true_eq, decide_eq_false_iff_not, Bool.not_eq_true', Bool.not_eq_false', beq_iff_eq, beq_eq_false_iff_ne, ne_eq] at h8
        first | omega | contradiction | exact absurd rfl (by assumption) | exact absurd trivial (by assumption)
       ·
        try simp only [decide_eq_true_eq, decide_eq_false_iff_not, Bool.not_eq_true', Bool.not_eq_false', beq_iff_eq, beq_eq_false_iff_ne, ne_eq] at h8
        refine at_skip rfl ?_
        refine then_n ?_
        refine at_seq rfl ?_
        refine at_seq rfl ?_
        refine rg rfl ?_
        refine Rq ?_
        refine R_q (r := AV.i (rows.length : Nat)) rfl (by simp (disch := first | omega | (simp only [List.length_map, List.length_append, List.length_set, List.length_cons, List.length_nil]; omega)) only [go_sem, ↓reduceIte, Nat.reduceEqDiff, reduceCtorEq]; exact hxr.len) ?_
        refine Rq ?_
        have tr : ∀ a b c d e f g h i j k m n o p q r s t u v w x y z A B C D E F G : AV, let l := lc_acosts_ok a b c d e f g h i j k m n o p q r s t u v w x y z A B C D; trim ((83,G)::(82,F)::(81,E)::l) l = [(0,a),(1,b),(2,c),(3,d),(4,e),(6,f),(8,g),(9,h),(10,i),(11,j),(12,k),(13,m),(14,n),(16,o),(38,p),(40,q),(41,r),(42,s),(43,t),(49,u),(80,v),(82,F),(83,G),(84,y),(96,z),(101,A),(102,B),(103,C),(119,D)] := by intros; rfl
        refine R_nil (tr ..) ?_; clear tr
        refine then_n ?_
        refine at_block rfl ?_
        refine loop_n rfl (fun mm kv H' => ∃ a : Nat, ∃ x6 x13 x14 x84 x96 x101 x102 x103 x119 : AV, (kv = [(6, x6), (13, x13), (14, x14), (83, AV.i a), (84, x84), (96, x96), (101, x101), (102, x102), (103, x103), (119, x119)]) ∧ (mm = rows.length - a) ∧ (a ≤ rows.length)) ⟨0, _, _, _, _, _, _, _, _, _, rfl, rfl, by omega⟩ (by rfl) ?_
        rintro mm kv H6 ⟨a, x6, x13, x14, x84, x96, x101, x102, x103, x119, rfl, rfl, ha⟩
        have tr : ∀ a b c d e f g h i j k m n o p q r s t u v w x y z A B C D E F G H I J K L M N : AV, upd [(0,a),(1,b),(2,c),(3,d),(4,e),(6,f),(8,g),(9,h),(10,i),(11,j),(12,k),(13,m),(14,n),(16,o),(38,p),(40,q),(41,r),(42,s),(43,t),(49,u),(80,v),(82,w),(83,x),(84,y),(96,z),(101,A),(102,B),(103,C),(119,D)] [(6,E),(13,F),(14,G),(83,H),(84,I),(96,J),(101,K),(102,L),(103,M),(119,N)] = [(0,a),(1,b),(2,c),(3,d),(4,e),(6,E),(8,g),(9,h),(10,i),(11,j),(12,k),(13,F),(14,G),(16,o),(38,p),(40,q),(41,r),(42,s),(43,t),(49,u),(80,v),(82,w),(83,H),(84,I),(96,J),(101,K),(102,L),(103,M),(119,N)] := by intros; rfl
        refine W_to (tr ..) ?_; clear tr
        refine at_seq rfl ?_
        refine rg rfl ?_
        refine Rq ?_
        have tr : ∀ a b c d e f g h i j k m n o p q r s t u v w x y z A B C D E : AV, let l := lc_acosts_ok a b c d e f g h i j k m n o p q r s t u v w x y z A B C D; trim ((84,E)::l) l = [(0,a),(1,b),(2,c),(3,d),(4,e),(6,f),(8,g),(9,h),(10,i),(11,j),(12,k),(13,m),(14,n),(16,o),(38,p),(40,q),(41,r),(42,s),(43,t),(49,u),(80,v),(82,w),(83,x),(84,E),(96,z),(101,A),(102,B),(103,C),(119,D)] := by intros; rfl
        refine R_nil (tr ..) ?_; clear tr
        refine then_n ?_
        refine at_seq rfl ?_
        refine cdd (fun h9 => ?_) (fun h9 => ?_)
        ·
         try simp only [decide_eq_true_eq, decide_eq_false_iff_not, Bool.not_eq_true', Bool.not_eq_false', beq_iff_eq, beq_eq_false_iff_ne, ne_eq] at h9
         refine at_skip rfl ?_
         refine then_n ?_
         refine at_seq rfl ?_
         refine at_block rfl ?_
         refine at_seq rfl ?_
         refine rg rfl ?_
         obtain rfl := hxr.sl (by omega)
         have hrw := co_row hx (i := a) (by omega)
         refine Rq ?_
         refine Rq ?_
         have tr : ∀ a b c d e f g h i j k m n o p q r s t u v w x y z A B C D E F : AV, let l := lc_acosts_ok a b c d e f g h i j k m n o p q r s t u v w x y z A B C D; trim ((13,F)::(85,E)::l) l = [(0,a),(1,b),(2,c),(3,d),(4,e),(6,f),(8,g),(9,h),(10,i),(11,j),(12,k),(13,F),(14,n),(16,o),(38,p),(40,q),(41,r),(42,s),(43,t),(49,u),(80,v),(82,w),(83,x),(84,y),(96,z),(101,A),(102,B),(103,C),(119,D)] := by intros; rfl
         refine R_nil (tr ..) ?_; clear tr
         refine then_n ?_
         refine at_seq rfl ?_
         refine at_seq rfl ?_
         refine rd rfl rfl ?_
         refine Qq ?_
         refine Qq ?_
         refine Qq ?_
         refine Q_q rfl (by simp (disch := first | omega | (simp only [List.length_map, List.length_append, List.length_set, List.length_cons, List.length_nil]; omega)) only [go_sem, ↓reduceIte, Nat.reduceEqDiff, reduceCtorEq, q3, q4, q8] <;> rfl) ?_
         refine Qq ?_
         refine Qq ?_
         refine Qq ?_
         refine Qq ?_
         refine Q_q rfl (by simp (disch := first | omega | (simp only [List.length_map, List.length_append, List.length_set, List.length_cons, List.length_nil]; omega)) only [go_sem, ↓reduceIte, Nat.reduceEqDiff, reduceCtorEq, q3, q4, q8] <;> rfl) ?_
         refine Qq ?_
         refine Qq ?_
         refine Q_nil ?_
         have tr : ∀ a b c d e f g h i j k m n o p q r s t u v w x y z A B C D E F G H I J K L M N O : AV, let l := lc_acosts_ok a b c d e f g h i j k m n o p q r s t u v w x y z A B C D; trim ((96,O)::(95,N)::(94,M)::(93,L)::(92,K)::(91,J)::(90,I)::(89,H)::(88,G)::(87,F)::(86,E)::l) l = [(0,a),(1,b),(2,c),(3,d),(4,e),(6,f),(8,g),(9,h),(10,i),(11,j),(12,k),(13,m),(14,n),(16,o),(38,p),(40,q),(41,r),(42,s),(43,t),(49,u),(80,v),(82,w),(83,x),(84,y),(96,O),(101,A),(102,B),(103,C),(119,D)] := by intros; rfl
         refine R_nil (tr ..) ?_; clear tr
         refine then_n ?_
         refine cdd (fun h10 => ?_) (fun h10 => ?_)
         ·
          try simp only [decide_eq_true_eq, decide_eq_false_iff_not, Bool.not_eq_true', Bool.not_eq_false', beq_iff_eq, beq_eq_false_iff_ne, ne_eq] at h10
          first | omega | contradiction | exact absurd rfl (by assumption) | exact absurd trivial (by assumption)
         ·
          try simp only [decide_eq_true_eq, decide_eq_false_iff_not, Bool.not_eq_true', Bool.not_eq_false', beq_iff_eq, beq_eq_false_iff_ne, ne_eq] at h10
          refine at_skip rfl ?_
          refine then_n ?_
          refine at_seq rfl ?_
          refine rg rfl ?_
          refine Rq ?_
          refine Rq ?_
          refine Rq ?_
          refine R_q rfl (by simp (disch := first | omega | (simp only [List.length_map, List.length_append, List.length_set, List.length_cons, List.length_nil]; omega)) only [go_sem, ↓reduceIte, Nat.reduceEqDiff, reduceCtorEq, q3, q4, q8] <;> rfl) ?_
          refine Rq ?_
          refine Rq ?_
          have tr : ∀ a b c d e f g h i j k m n o p q r s t u v w x y z A B C D E F G H I J : AV, let l := lc_acosts_ok a b c d e f g h i j k m n o p q r s t u v w x y z A B C D; trim ((102,J)::(101,I)::(100,H)::(99,G)::(98,F)::(97,E)::l) l = [(0,a),(1,b),(2,c),(3,d),(4,e),(6,f),(8,g),(9,h),(10,i),(11,j),(12,k),(13,m),(14,n),(16,o),(38,p),(40,q),(41,r),(42,s),(43,t),(49,u),(80,v),(82,w),(83,x),(84,y),(96,z),(101,I),(102,J),(103,C),(119,D)] := by intros; rfl
          refine R_nil (tr ..) ?_; clear tr
          refine then_n ?_
          refine at_block rfl ?_
          refine loop_n rfl (fun mm kv H' => ∃ c : Nat, ∃ x6 x14 x103 x119 : AV, (kv = [(6, x6), (14, x14), (102, AV.i c), (103, x103), (119, x119)]) ∧ (mm = (gt rows a).length - c) ∧ (c ≤ (gt rows a).length)) ⟨0, _, _, _, _, rfl, rfl, by omega⟩ (by rfl) ?_
          rintro mm kv H7 ⟨c, x6, x14, x103, x119, rfl, rfl, hc⟩
          have tr : ∀ a b c d e f g h i j k m n o p q r s t u v w x y z A B C D E F G H I : AV, upd [(0,a),(1,b),(2,c),(3,d),(4,e),(6,f),(8,g),(9,h),(10,i),(11,j),(12,k),(13,m),(14,n),(16,o),(38,p),(40,q),(41,r),(42,s),(43,t),(49,u),(80,v),(82,w),(83,x),(84,y),(96,z),(101,A),(102,B),(103,C),(119,D)] [(6,E),(14,F),(102,G),(103,H),(119,I)] = [(0,a),(1,b),(2,c),(3,d),(4,e),(6,E),(8,g),(9,h),(10,i),(11,j),(12,k),(13,m),(14,F),(16,o),(38,p),(40,q),(41,r),(42,s),(43,t),(49,u),(80,v),(82,w),(83,x),(84,y),(96,z),(101,A),(102,G),(103,H),(119,I)] := by intros; rfl
          refine W_to (tr ..) ?_; clear tr
          refine at_seq rfl ?_
          refine rg rfl ?_
          refine Rq ?_
          have tr : ∀ a b c d e f g h i j k m n o p q r s t u v w x y z A B C D E : AV, let l := lc_acosts_ok a b c d e f g h i j k m n o p q r s t u v w x y z A B C D; trim ((103,E)::l) l = [(0,a),(1,b),(2,c),(3,d),(4,e),(6,f),(8,g),(9,h),(10,i),(11,j),(12,k),(13,m),(14,n),(16,o),(38,p),(40,q),(41,r),(42,s),(43,t),(49,u),(80,v),(82,w),(83,x),(84,y),(96,z),(101,A),(102,B),(103,E),(119,D)] := by intros; rfl
          refine R_nil (tr ..) ?_; clear tr
          refine then_n ?_
          refine at_seq rfl ?_
          refine cdd (fun h11 => ?_) (fun h11 => ?_)
          ·
           try simp only [decide_eq_true_eq, decide_eq_false_iff_not, Bool.not_eq_true', Bool.not_eq_false', beq_iff_eq, beq_eq_false_iff_ne, ne_eq] at h11
           refine at_skip rfl ?_
           refine then_n ?_
           refine at_seq rfl ?_
           refine at_block rfl ?_
           refine at_seq rfl ?_
           refine rg rfl ?_
           refine Rq ?_
           refine Rq ?_
           have tr : ∀ a b c d e f g h i j k m n o p q r s t u v w x y z A B C D E F : AV, let l := lc_acosts_ok a b c d e f g h i j k m n o p q r s t u v w x y z A B C D; trim ((14,F)::(104,E)::l) l = [(0,a),(1,b),(2,c),(3,d),(4,e),(6,f),(8,g),(9,h),(10,i),(11,j),(12,k),(13,m),(14,F),(16,o),(38,p),(40,q),(41,r),(42,s),(43,t),(49,u),(80,v),(82,w),(83,x),(84,y),(96,z),(101,A),(102,B),(103,C),(119,D)] := by intros; rfl
           refine R_nil (tr ..) ?_; clear tr
           refine then_n ?_
           refine at_seq rfl ?_
           refine rd rfl rfl ?_
           refine Qq ?_
           refine Qq ?_
           refine Qq ?_
           refine Q_q rfl (by simp (disch := first | omega | (simp only [List.length_map, List.length_append, List.length_set, List.length_cons, List.length_nil]; omega)) only [go_sem, ↓reduceIte, Nat.reduceEqDiff, reduceCtorEq, q3, q4, q8] <;> rfl) ?_
           refine Qq ?_
           refine Qq ?_
           refine Q_q rfl (by simp (disch := first | omega | (simp only [List.length_map, List.length_append, List.length_set, List.length_cons, List.length_nil]; omega)) only [go_sem, ↓reduceIte, Nat.reduceEqDiff, reduceCtorEq, q3, q4, q8] <;> rfl) ?_
           refine Qq ?_
           refine Qq ?_
           refine Qq ?_
           refine Q_q rfl (by simp (disch := first | omega | (simp only [List.length_map, List.length_append, List.length_set, List.length_cons, List.length_nil]; omega)) only [go_sem, ↓reduceIte, Nat.reduceEqDiff, reduceCtorEq, q3, q4, q8] <;> rfl) ?_
           refine Qq ?_
           refine Qq ?_
           refine Q_q rfl (by simp (disch := first | omega | (simp only [List.length_map, List.length_append, List.length_set, List.length_cons, List.length_nil]; omega)) only [go_sem, ↓reduceIte, Nat.reduceEqDiff, reduceCtorEq, q3, q4, q8] <;> rfl) ?_
           refine Qq ?_
           refine Q_nil ?_
           have tr : ∀ a b c d e f g h i j k m n o p q r s t u v w x y z A B C D E F G H I J K L M N O P Q R S : AV, let l := lc_acosts_ok a b c d e f g h i j k m n o p q r s t u v w x y z A B C D; trim ((119,S)::(118,R)::(117,Q)::(116,P)::(115,O)::(114,N)::(113,M)::(112,L)::(111,K)::(110,J)::(109,I)::(108,H)::(107,G)::(106,F)::(105,E)::l) l = [(0,a),(1,b),(2,c),(3,d),(4,e),(6,f),(8,g),(9,h),(10,i),(11,j),(12,k),(13,m),(14,n),(16,o),(38,p),(40,q),(41,r),(42,s),(43,t),(49,u),(80,v),(82,w),(83,x),(84,y),(96,z),(101,A),(102,B),(103,C),(119,S)] := by intros; rfl
           refine R_nil (tr ..) ?_; clear tr
           refine then_n ?_
           refine cdd (fun h12 => ?_) (fun h12 => ?_)
           ·
            try simp only [decide_eq_true_eq, decide_eq_false_iff_not, Bool.not_eq_true', Bool.not_eq_false', beq_iff_eq, beq_eq_false_iff_ne, ne_eq] at h12
            first | omega | contradiction | exact absurd rfl (by assumption) | exact absurd trivial (by assumption)
           ·
            try simp only [decide_eq_true_eq, decide_eq_false_iff_not, Bool.not_eq_true', Bool.not_eq_false', beq_iff_eq, beq_eq_false_iff_ne, ne_eq] at h12
            refine at_skip rfl ?_
            refine blk_n ?_
            refine then_n ?_
            refine rg rfl ?_
            refine Rq ?_
            refine Rq ?_
            have tr : ∀ a b c d e f g h i j k m n o p q r s t u v w x y z A B C D E F : AV, let l := lc_acosts_ok a b c d e f g h i j k m n o p q r s t u v w x y z A B C D; trim ((102,F)::(120,E)::l) l = [(0,a),(1,b),(2,c),(3,d),(4,e),(6,f),(8,g),(9,h),(10,i),(11,j),(12,k),(13,m),(14,n),(16,o),(38,p),(40,q),(41,r),(42,s),(43,t),(49,u),(80,v),(82,w),(83,x),(84,y),(96,z),(101,A),(102,F),(103,C),(119,D)] := by intros; rfl
            refine R_nil (tr ..) ?_; clear tr
            refine then_n ?_
            exact ⟨_, _, ⟨c + 1, _, _, _, _, rfl, rfl, by omega⟩, by rfl, by omega⟩
          ·
           try simp only [decide_eq_true_eq, decide_eq_false_iff_not, Bool.not_eq_true', Bool.not_eq_false', beq_iff_eq, beq_eq_false_iff_ne, ne_eq] at h11
           refine at_exit rfl ?_
           refine then_x ?_
           refine then_x ?_
           refine blk_x ?_
           refine blk_n ?_
           refine then_n ?_
           refine rg rfl ?_
           refine Rq ?_
           refine Rq ?_
           have tr : ∀ a b c d e f g h i j k m n o p q r s t u v w x y z A B C D E F : AV, let l := lc_acosts_ok a b c d e f g h i j k m n o p q r s t u v w x y z A B C D; trim ((83,F)::(121,E)::l) l = [(0,a),(1,b),(2,c),(3,d),(4,e),(6,f),(8,g),(9,h),(10,i),(11,j),(12,k),(13,m),(14,n),(16,o),(38,p),(40,q),(41,r),(42,s),(43,t),(49,u),(80,v),(82,w),(83,F),(84,y),(96,z),(101,A),(102,B),(103,C),(119,D)] := by intros; rfl
           refine R_nil (tr ..) ?_; clear tr
           refine then_n ?_
           exact ⟨_, _, ⟨a + 1, _, _, _, _, _, _, _, _, _, rfl, rfl, by omega⟩, by rfl, by omega⟩
        ·
         try simp only [decide_eq_true_eq, decide_eq_false_iff_not, Bool.not_eq_true', Bool.not_eq_false', beq_iff_eq, beq_eq_false_iff_ne, ne_eq] at h9
         refine at_exit rfl ?_
         refine then_x ?_
         refine then_x ?_
         refine blk_x ?_
         refine then_n ?_
         refine at_seq rfl ?_
         refine rg rfl ?_
         refine Rq ?_
         have tr : ∀ a b c d e f g h i j k m n o p q r s t u v w x y z A B C D E : AV, let l := lc_acosts_ok a b c d e f g h i j k m n o p q r s t u v w x y z A B C D; trim ((6,E)::l) l = [(0,a),(1,b),(2,c),(3,d),(4,e),(6,E),(8,g),(9,h),(10,i),(11,j),(12,k),(13,m),(14,n),(16,o),(38,p),(40,q),(41,r),(42,s),(43,t),(49,u),(80,v),(82,w),(83,x),(84,y),(96,z),(101,A),(102,B),(103,C),(119,D)] := by intros; rfl
         refine R_nil (tr ..) ?_; clear tr
         refine then_n ?_
         refine at_ret rfl ?_
         refine fpure ?_
         first | rfl | (simp; done)

end Go.Proofs.Ytplockpopmaejaa
end
section
namespace Go.Am
open Go
section
variable {H : Type} {enc : TypeId × Value → H} {P : Program} {w : World} {held : Bool}

abbrev In (w : World) : Nat → Prop := fun k => k < w.heap.size

theorem cell_lt {w : World} {a : Addr} {v : Value} (h : w.cell? a = some v) : a.block < w.heap.size := by
  unfold World.cell? at h
  by_cases hb : a.block < w.heap.size
  · exact hb
  · rw [Array.getElem?_eq_none (by omega)] at h
    simp at h

theorem den_slice {α : Type} (f : α → AV) {t e : TypeId} {fuel : Nat} {cs : List Value} {x : DataW H × List MemPlace} (ht : P.underlying t = some (.slice e)) (hc : P.cellsOf e = 1)
    (each : ∀ n cs x, DataW.trod enc P w 0 (fun _ => true) held n e cs = some x → ∃ d v, cs = [v] ∧ Den [] (In w) w (f d) v)
    (h : DataW.trod enc P w 0 (fun _ => true) held fuel t cs = some x) : ∃ (l : List α) (v : Value), cs = [v] ∧ Den [] (In w) w (.sl l.length (l.map f)) v := by
  rcases DataW.trod_slice ht h with ⟨rfl, _⟩ | ⟨a, len, cap, elems, rest, n, _, rfl, _, _, hl, hm, hlen, hel, hsp, _⟩
  · exact ⟨[], _, rfl, .sl0 _ _⟩
  · have get : ∀ i, i < cap → ∃ c d, w.cell? (a.add i) = some c ∧ Den [] (In w) w (f d) c := by
      intro i hi
      have hb : ∃ y, (w.cells? 0 (a.add (i * P.cellsOf e)) (P.cellsOf e)).bind (DataW.trod enc P w 0 (fun _ => true) held n e) = some y := by
        by_cases h1 : i < len
        · exact ⟨elems[i]'(by omega), by rw [hel i h1, List.getElem?_eq_getElem (by omega)]⟩
        · obtain ⟨hr, hrr⟩ := hsp rfl
          have := hrr (i - len) (by omega)
          rw [show len + (i - len) = i by omega] at this
          exact ⟨rest[i - len]'(by omega), by rw [this, List.getElem?_eq_getElem (by omega)]⟩
      obtain ⟨y, hy⟩ := hb
      rw [hc, Nat.mul_one, Option.bind_eq_some_iff] at hy
      obtain ⟨cs', hcs, hy'⟩ := hy
      obtain ⟨d, v, rfl, hd⟩ := each _ _ _ hy'
      have e0 : (a.add i).add 0 = a.add i := by simp [Addr.add]
      unfold World.cells? at hcs
      rw [if_pos (Nat.zero_le _)] at hcs
      simp only [List.range_succ, List.range_zero, List.nil_append, List.mapM_cons, List.mapM_nil, e0] at hcs
      cases hcc : w.cell? (a.add i) with
      | none => simp [hcc] at hcs
      | some c =>
        simp [hcc] at hcs
        exact ⟨c, d, rfl, by rw [hcs]; exact hd⟩
    by_cases h0 : cap = 0
    · subst h0
      have : len = 0 := by omega
      subst this
      exact ⟨[], _, rfl, .sl0 _ _⟩
    · obtain ⟨c0, d0, hc0, _⟩ := get 0 (by omega)
      have hs : a.spot = none := by have := World.cell?_spot hc0; simpa [Addr.add] using this
      have hb : a.block < w.heap.size := by have := cell_lt hc0; simpa [Addr.add] using this
      have ad : ∀ i, a.add i = ⟨a.block, a.off + i, none⟩ := by
        intro i
        obtain ⟨ab, ao, asp⟩ := a
        simp only at hs
        subst hs
        simp only [Addr.add]
        split
        · rename_i hi; rw [hi]; rfl
        · rfl
      have pick : ∀ i, ∃ d : α, i < len → ∃ c, w.cell? (a.add i) = some c ∧ Den [] (In w) w (f d) c := by
        intro i
        by_cases hi : i < len
        · obtain ⟨c, d, h1, h2⟩ := get i (by omega)
          exact ⟨d, fun _ => ⟨c, h1, h2⟩⟩
        · exact ⟨d0, fun h => absurd h hi⟩
      let D : Nat → α := fun i => (pick i).choose
      have hD : ∀ i, i < len → ∃ c, w.cell? (a.add i) = some c ∧ Den [] (In w) w (f (D i)) c := fun i => (pick i).choose_spec
      refine ⟨(List.range len).map D, _, rfl, ?_⟩
      have hlen2 : ((List.range len).map D).length = len := by simp
      rw [hlen2]
      have gx : ∀ (j : Nat) (x : AV), (((List.range len).map D).map f)[j]? = some x → j < len ∧ x = f (D j) := by
        intro j x hx
        simp only [List.map_map, List.getElem?_map, Option.map_eq_some_iff, Function.comp] at hx
        obtain ⟨k, hk, rfl⟩ := hx
        obtain ⟨hj, hk⟩ := List.getElem?_eq_some_iff.1 hk
        simp at hj hk
        subst hk
        exact ⟨hj, rfl⟩
      refine .sl len _ cap a (fun j => (w.cell? (a.add j)).getD undef) hl hm hs hb ?_ ?_
      · intro j x hx
        obtain ⟨hj, _⟩ := gx j x hx
        obtain ⟨c, h1, _⟩ := hD j hj
        rw [← ad j, h1]; rfl
      · intro j x hx
        obtain ⟨hj, rfl⟩ := gx j x hx
        obtain ⟨c, h1, h2⟩ := hD j hj
        rw [h1]; exact h2

theorem den_int {e : TypeId} (he : P.underlying e = some (.int .i64)) : ∀ n cs (x : DataW H × List MemPlace), DataW.trod enc P w 0 (fun _ => true) held n e cs = some x → ∃ d v, cs = [v] ∧ Den [] (In w) w (AV.i d) v := by
  intro n cs x h
  obtain ⟨m, rfl, _, _⟩ := DataW.trod_int he h
  exact ⟨m, _, rfl, .v _⟩
end
end Go.Am
end
section
namespace Go.Am
open Go Go.WideShapes
section
variable {P : Program} {w : World}

def DLs (w : World) (l : List AV) (cs : List Value) : Prop := cs.length = l.length ∧ ∀ (j : Nat) (a : AV) (v : Value), l[j]? = some a → cs[j]? = some v → Den [] (In w) w a v

def Opens (P : Program) (t : TypeId) {α : Type} (f : α → List AV) : Prop :=
  ∀ (H : Type) (enc : TypeId × Value → H) (w : World) (held : Bool) (n : Nat) (cs : List Value) (x : DataW H × List MemPlace), DataW.trod enc P w 0 (fun _ => true) held n t cs = some x → ∃ d : α, DLs w (f d) cs

theorem dls_one {a : AV} {v : Value} (h : Den [] (In w) w a v) : DLs w [a] [v] := ⟨rfl, fun j x y hx hy => by
  match j, hx, hy with
  | 0, hx, hy => cases hx; cases hy; exact h⟩

abbrev I64 := {x : Int // -9223372036854775808 ≤ x ∧ x ≤ 9223372036854775807}
abbrev U16 := {x : Int // 0 ≤ x ∧ x ≤ 65535}
abbrev U64 := {x : Int // 0 ≤ x ∧ x ≤ 18446744073709551615}
theorem opens_i64 {t : TypeId} (ht : P.underlying t = some (.int .i64)) : Opens P t (fun d : I64 => [AV.i d.val]) := by
  intro H enc w held n cs x h
  obtain ⟨m, rfl, _, hw⟩ := DataW.trod_int ht h
  simp only [Lit.wf, decide_eq_true_eq, Bool.and_eq_true] at hw
  exact ⟨⟨m, hw⟩, dls_one (.v _)⟩
theorem opens_u16 {t : TypeId} (ht : P.underlying t = some (.int .u16)) : Opens P t (fun d : U16 => [.v (.int .u16 d.val)]) := by
  intro H enc w held n cs x h
  obtain ⟨m, rfl, _, hw⟩ := DataW.trod_int ht h
  simp only [Lit.wf, decide_eq_true_eq, Bool.and_eq_true] at hw
  exact ⟨⟨m, hw⟩, dls_one (.v _)⟩
theorem opens_u64 {t : TypeId} (ht : P.underlying t = some (.int .u64)) : Opens P t (fun d : U64 => [.v (.int .u64 d.val)]) := by
  intro H enc w held n cs x h
  obtain ⟨m, rfl, _, hw⟩ := DataW.trod_int ht h
  simp only [Lit.wf, decide_eq_true_eq, Bool.and_eq_true] at hw
  exact ⟨⟨m, hw⟩, dls_one (.v _)⟩
theorem opens_bool {t : TypeId} (ht : P.underlying t = some .bool) : Opens P t (fun d : Bool => [.v (.bool d)]) := by
  intro H enc w held n cs x h
  obtain ⟨m, rfl, _⟩ := DataW.trod_bool ht h
  exact ⟨m, dls_one (.v _)⟩

abbrev Str := {s : ByteArray // s.size ≤ 9223372036854775807}
theorem opens_string {t : TypeId} (ht : P.underlying t = some .string) : Opens P t (fun d : Str => [.v (.string d.val)]) := by
  intro H enc w held n cs x h
  obtain ⟨m, rfl, _, hm⟩ := DataW.trod_string ht h
  exact ⟨⟨m, by unfold maxLen at hm; omega⟩, dls_one (.v _)⟩
theorem flat_uni {α : Type} {f : α → List AV} {z : Nat} (hf : ∀ d, (f d).length = z) : ∀ (l : List α) (i k : Nat) (hi : i < l.length), k < z → (l.map f).flatten[i * z + k]? = (f l[i])[k]?
  | [], i, k, hi, _ => by simp at hi
  | d :: l, 0, k, _, hk => by
    rw [List.map_cons, List.flatten_cons, Nat.zero_mul, Nat.zero_add, List.getElem?_append_left (by rw [hf]; exact hk)]
    rfl
  | d :: l, i + 1, k, hi, hk => by
    rw [List.map_cons, List.flatten_cons, List.getElem?_append_right (by rw [hf, Nat.succ_mul]; omega), hf]
    rw [show (i + 1) * z + k - z = i * z + k by rw [Nat.succ_mul]; omega, flat_uni hf l i k (by simpa using hi) hk]
    rfl
theorem flat_unilen {α : Type} {f : α → List AV} {z : Nat} (hf : ∀ d, (f d).length = z) (l : List α) : (l.map f).flatten.length = l.length * z := by
  induction l with
  | nil => simp
  | cons d l ih => rw [List.map_cons, List.flatten_cons, List.length_append, ih, hf, List.length_cons, Nat.succ_mul]; omega

theorem opens_slice {α : Type} {f : α → List AV} {t e : TypeId} {z : Nat} (ht : P.underlying t = some (.slice e)) (hc : P.cellsOf e = z) (hz : 0 < z) (he : Opens P e f) (hf : ∀ d, (f d).length = z) :
    Opens P t (fun l : List α => [.sl l.length (l.map f).flatten]) := by
  intro H enc w held n cs x h
  rcases DataW.trod_slice ht h with ⟨rfl, _⟩ | ⟨a, len, cap, elems, rest, n, _, rfl, _, _, hl, hm, hlen, hel, hsp, _⟩
  · exact ⟨[], dls_one (.sl0 _ _)⟩
  · have get : ∀ i, i < cap → ∃ d cs', (∀ k, k < z → ∃ c, cs'[k]? = some c ∧ w.cell? ((a.add (i * z)).add k) = some c) ∧ DLs w (f d) cs' := by
      intro i hi
      have hb : ∃ y, (w.cells? 0 (a.add (i * P.cellsOf e)) (P.cellsOf e)).bind (DataW.trod enc P w 0 (fun _ => true) held n e) = some y := by
        by_cases h1 : i < len
        · exact ⟨elems[i]'(by omega), by rw [hel i h1, List.getElem?_eq_getElem (by omega)]⟩
        · obtain ⟨hr, hrr⟩ := hsp rfl
          have := hrr (i - len) (by omega)
          rw [show len + (i - len) = i by omega] at this
          exact ⟨rest[i - len]'(by omega), by rw [this, List.getElem?_eq_getElem (by omega)]⟩
      obtain ⟨y, hy⟩ := hb
      rw [hc, Option.bind_eq_some_iff] at hy
      obtain ⟨cs', hcs, hy'⟩ := hy
      obtain ⟨d, hd⟩ := he H enc w held _ _ _ hy'
      refine ⟨d, cs', fun k hk => ?_, hd⟩
      unfold World.cells? at hcs
      rw [if_pos (Nat.zero_le _)] at hcs
      have hk1 := mapM_some_length hcs
      rw [List.length_range] at hk1
      have := mapM_some_get hcs k k (by simp [hk])
      exact ⟨cs'[k]'(by omega), List.getElem?_eq_getElem (by omega), by rw [this, List.getElem?_eq_getElem (by omega)]⟩
    by_cases h0 : cap = 0
    · subst h0
      have : len = 0 := by omega
      subst this
      exact ⟨[], dls_one (.sl0 _ _)⟩
    · obtain ⟨d0, cs0, hc0, _⟩ := get 0 (by omega)
      obtain ⟨c0, _, hcc⟩ := hc0 0 hz
      have e00 : (a.add (0 * z)).add 0 = a := by simp [Addr.add]
      rw [e00] at hcc
      have hs : a.spot = none := World.cell?_spot hcc
      have hb : a.block < w.heap.size := cell_lt hcc
      have ad : ∀ i, a.add i = ⟨a.block, a.off + i, none⟩ := by
        intro i
        obtain ⟨ab, ao, asp⟩ := a
        simp only at hs
        subst hs
        simp only [Addr.add]
        split
        · rename_i hi; rw [hi]; rfl
        · rfl
      have ad2 : ∀ i k, (a.add i).add k = ⟨a.block, a.off + (i + k), none⟩ := by
        intro i k
        rw [ad i]
        simp only [Addr.add]
        split
        · rename_i hi; rw [hi]; simp
        · simp
      have pick : ∀ i, ∃ d : α, i < len → ∃ cs', (∀ k, k < z → ∃ c, cs'[k]? = some c ∧ w.cell? ⟨a.block, a.off + (i * z + k), none⟩ = some c) ∧ DLs w (f d) cs' := by
        intro i
        by_cases hi : i < len
        · obtain ⟨d, cs', h1, h2⟩ := get i (by omega)
          exact ⟨d, fun _ => ⟨cs', fun k hk => by obtain ⟨c, h3, h4⟩ := h1 k hk; exact ⟨c, h3, by rw [← ad2]; exact h4⟩, h2⟩⟩
        · exact ⟨d0, fun h => absurd h hi⟩
      let D : Nat → α := fun i => (pick i).choose
      have hD : ∀ i, i < len → ∃ cs', (∀ k, k < z → ∃ c, cs'[k]? = some c ∧ w.cell? ⟨a.block, a.off + (i * z + k), none⟩ = some c) ∧ DLs w (f (D i)) cs' := fun i => (pick i).choose_spec
      refine ⟨(List.range len).map D, dls_one ?_⟩
      have hlen2 : ((List.range len).map D).length = len := by simp
      have key : ∀ (j : Nat) (x : AV), (((List.range len).map D).map f).flatten[j]? = some x → ∃ c, w.cell? ⟨a.block, a.off + j, none⟩ = some c ∧ Den [] (In w) w x c := by
        intro j x hx
        have hj : j < len * z := by
          have h1 := (List.getElem?_eq_some_iff.1 hx).1
          rw [flat_unilen hf, hlen2] at h1
          exact h1
        have hdiv : j / z < len := Nat.div_lt_of_lt_mul (by rw [Nat.mul_comm]; exact hj)
        have hmod : j % z < z := Nat.mod_lt _ hz
        have hjj : j / z * z + j % z = j := by rw [Nat.mul_comm]; exact Nat.div_add_mod j z
        have h2 := flat_uni hf ((List.range len).map D) (j / z) (j % z) (by rw [hlen2]; exact hdiv) hmod
        rw [hjj] at h2
        rw [h2] at hx
        simp only [List.getElem_map, List.getElem_range] at hx
        obtain ⟨cs', h3, h4⟩ := hD (j / z) hdiv
        obtain ⟨c, h5, h6⟩ := h3 (j % z) hmod
        rw [hjj] at h6
        exact ⟨c, h6, h4.2 _ _ _ hx h5⟩
      have ha : a = ⟨a.block, a.off, none⟩ := by obtain ⟨ab, ao, asp⟩ := a; simp only at hs; subst hs; rfl
      rw [hlen2]
      refine Den.sl (I := In w) _ _ cap a (fun j => (w.cell? ⟨a.block, a.off + j, none⟩).getD undef) hl hm hs hb ?_ ?_
      · intro j x hx
        obtain ⟨c, h1, _⟩ := key j x hx
        rw [h1]; rfl
      · intro j x hx
        obtain ⟨c, h1, h2⟩ := key j x hx
        rw [h1]; exact h2

theorem dls_split {cs : List Value} {o z : Nat} {l l' : List AV} (h1 : DLs w l ((cs.drop o).take z)) (hz : l.length = z) (h2 : DLs w l' (cs.drop (o + z))) : DLs w (l ++ l') (cs.drop o) := by
  subst hz
  have e : cs.drop o = (cs.drop o).take l.length ++ cs.drop (o + l.length) := by rw [← List.drop_drop]; exact (List.take_append_drop _ _).symm
  have hl := h1.1
  refine ⟨by rw [e, List.length_append, List.length_append, h1.1, h2.1], fun j a v ha hv => ?_⟩
  rw [e] at hv
  rw [List.getElem?_append] at ha hv
  by_cases hj : j < l.length
  · rw [if_pos hj] at ha
    rw [if_pos (by rw [hl]; exact hj)] at hv
    exact h1.2 j a v ha hv
  · rw [if_neg hj] at ha
    rw [if_neg (by rw [hl]; exact hj), hl] at hv
    exact h2.2 _ a v ha hv
theorem dls_end {cs : List Value} {o : Nat} (h : cs.length = o) : DLs w [] (cs.drop o) := ⟨by rw [List.drop_of_length_le (by omega)]; rfl, fun j a v ha _ => by simp at ha⟩

theorem opens_array {α : Type} {f : α → List AV} {t e : TypeId} {z m : Nat} [Inhabited α] (ht : P.underlying t = some (.array m e)) (hc : P.cellsOf e = z) (hct : P.cellsOf t = m * z) (he : Opens P e f) (hf : ∀ d, (f d).length = z) :
    Opens P t (fun l : {l : List α // l.length = m} => (l.val.map f).flatten) := by
  intro H enc w held n cs x h
  obtain ⟨xs, k, _, rfl, hl, hlen, hg⟩ := DataW.trod_array ht h
  have pick : ∀ i, ∃ d : α, i < m → DLs w (f d) ((cs.drop (i * z)).take z) := by
    intro i
    by_cases hi : i < m
    · have h1 := hg i hi
      rw [hc, List.getElem?_eq_getElem (by omega)] at h1
      obtain ⟨d, hd⟩ := he H enc w held _ _ _ h1
      exact ⟨d, fun _ => hd⟩
    · exact ⟨default, fun h => absurd h hi⟩
  let D : Nat → α := fun i => (pick i).choose
  have hD : ∀ i, i < m → DLs w (f (D i)) ((cs.drop (i * z)).take z) := fun i => (pick i).choose_spec
  have key : ∀ k, k ≤ m → DLs w (((List.range m).drop (m - k)).map fun i => f (D i)).flatten (cs.drop ((m - k) * z)) := by
    intro k
    induction k with
    | zero =>
      intro _
      rw [Nat.sub_zero, List.drop_of_length_le (by simp)]
      exact dls_end (by rw [hl, hct])
    | succ k ih =>
      intro hk
      have e : (List.range m).drop (m - (k + 1)) = (m - (k + 1)) :: (List.range m).drop (m - k) := by
        rw [List.drop_eq_getElem_cons (by simp; omega)]
        simp only [List.getElem_range]
        congr 1
        congr 1
        omega
      rw [e, List.map_cons, List.flatten_cons]
      refine dls_split (z := z) (hD _ (by omega)) (hf _) ?_
      have := ih (by omega)
      rwa [show (m - (k + 1)) * z + z = (m - k) * z by rw [← Nat.succ_mul]; congr 1; omega]
  refine ⟨⟨(List.range m).map D, by simp⟩, ?_⟩
  have := key m (Nat.le_refl _)
  rw [Nat.sub_self, Nat.zero_mul, List.drop_zero, List.drop_zero] at this
  simpa [List.map_map, Function.comp_def] using this

/-- A struct or array that came in. -/
theorem open_agg {α : Type} {f : α → List AV} {t : TypeId} (h : Opens P t f) {H : Type} {enc : TypeId × Value → H} {cs : Array Value} {d : DataW H} {p : List MemPlace}
    (ht : DataW.Trod enc P w 0 (fun _ => true) true t (.agg cs) d p) : ∃ d : α, Den [] (In w) w (.agg (f d)) (.agg cs) := by
  obtain ⟨fuel, hf⟩ := ht
  obtain ⟨d, h1, h2⟩ := h _ _ _ _ _ _ _ hf
  have e : (Value.agg cs).cells.toList = cs.toList := rfl
  rw [e] at h1 h2
  exact ⟨d, .agg _ _ (by simpa using h1) fun j a v ha hv => h2 j a v ha (by simpa using hv)⟩
end
end Go.Am
end
section
set_option linter.unusedVariables false
namespace Go.Proofs.Ytplockpopmaejaa
open Go Go.Am

instance : Inhabited I64 := ⟨⟨0, by decide⟩⟩
instance : Inhabited Str := ⟨⟨⟨#[]⟩, by decide⟩⟩
instance : Inhabited U16 := ⟨⟨0, by decide⟩⟩
theorem flat_one {α : Type} (g : α → AV) (l : List α) : (l.map fun d => [g d]).flatten = l.map g := by induction l with | nil => rfl | cons a l ih => rw [List.map_cons, List.flatten_cons, ih]; rfl
theorem co25 : Try.prog.cellsOf 25 = 2 := by kernel_rfl
theorem co22 : Try.prog.cellsOf 22 = 1 := by kernel_rfl
theorem co31 : Try.prog.cellsOf 31 = 2 := by kernel_rfl
theorem co9 : Try.prog.cellsOf 9 = 1 := by kernel_rfl
abbrev D9 := Str
abbrev c9 : D9 → List AV := fun d => [.v (.string d.val)]
theorem cl9 (d : D9) : (c9 d).length = 1 := rfl
theorem opens9 : Opens Try.prog 9 c9 := opens_string Try.underlying9
theorem co29 : Try.prog.cellsOf 29 = 1 := by kernel_rfl
theorem co68 : Try.prog.cellsOf 68 = 3 := by kernel_rfl
theorem co3 : Try.prog.cellsOf 3 = 1 := by kernel_rfl
abbrev D3 := I64
abbrev c3 : D3 → List AV := fun d => [.v (.int .i64 d.val)]
theorem cl3 (d : D3) : (c3 d).length = 1 := rfl
theorem opens3 : Opens Try.prog 3 c3 := opens_i64 Try.underlying3
theorem co4 : Try.prog.cellsOf 4 = 1 := by kernel_rfl
abbrev D4 := Bool
abbrev c4 : D4 → List AV := fun d => [.v (.bool d)]
theorem cl4 (d : D4) : (c4 d).length = 1 := rfl
theorem opens4 : Opens Try.prog 4 c4 := opens_bool Try.underlying4
theorem co2 : Try.prog.cellsOf 2 = 1 := by kernel_rfl
abbrev D2 := I64
abbrev c2 : D2 → List AV := fun d => [.v (.int .i64 d.val)]
theorem cl2 (d : D2) : (c2 d).length = 1 := rfl
theorem opens2 : Opens Try.prog 2 c2 := opens_i64 Try.underlying2
abbrev D68 := D3 × D4 × D2
abbrev c68 : D68 → List AV := fun d => c3 d.1 ++ (c4 d.2.1 ++ (c2 d.2.2 ++ ([])))
theorem cl68 (d : D68) : (c68 d).length = 3 := rfl
theorem opens68 : Opens Try.prog 68 c68 := by
  intro H enc w held n cs x h
  obtain ⟨xs, m, _, rfl, hl, hlen, hf⟩ := DataW.trod_struct Try.underlying68 h
  rw [co68] at hl
  have g0 := hf 0 _ rfl
  rw [List.getElem?_eq_getElem (by rw [hlen]; decide)] at g0
  obtain ⟨d0, E0⟩ := opens3 _ _ _ _ _ _ _ g0
  have D0 : DLs w (c3 d0) ((cs.drop 0).take (Try.prog.cellsOf 3)) := E0
  rw [co3] at D0
  have g1 := hf 1 _ rfl
  rw [List.getElem?_eq_getElem (by rw [hlen]; decide)] at g1
  obtain ⟨d1, E1⟩ := opens4 _ _ _ _ _ _ _ g1
  have D1 : DLs w (c4 d1) ((cs.drop 1).take (Try.prog.cellsOf 4)) := E1
  rw [co4] at D1
  have g2 := hf 2 _ rfl
  rw [List.getElem?_eq_getElem (by rw [hlen]; decide)] at g2
  obtain ⟨d2, E2⟩ := opens2 _ _ _ _ _ _ _ g2
  have D2 : DLs w (c2 d2) ((cs.drop 2).take (Try.prog.cellsOf 2)) := E2
  rw [co2] at D2
  refine ⟨(d0, d1, d2), ?_⟩
  have key : DLs w (c68 (d0, d1, d2)) (cs.drop 0) := dls_split D0 (cl3 _) (dls_split D1 (cl4 _) (dls_split D2 (cl2 _) (dls_end (by rw [hl]))))
  rwa [List.drop_zero] at key
abbrev D29 := List D68
abbrev c29 : D29 → List AV := fun l => [.sl l.length (l.map c68).flatten]
theorem cl29 (d : D29) : (c29 d).length = 1 := rfl
theorem opens29 : Opens Try.prog 29 c29 := opens_slice Try.underlying29 co68 (by decide) opens68 cl68
abbrev D31 := D9 × D29
abbrev c31 : D31 → List AV := fun d => c9 d.1 ++ (c29 d.2 ++ ([]))
theorem cl31 (d : D31) : (c31 d).length = 2 := rfl
theorem opens31 : Opens Try.prog 31 c31 := by
  intro H enc w held n cs x h
  obtain ⟨xs, m, _, rfl, hl, hlen, hf⟩ := DataW.trod_struct Try.underlying31 h
  rw [co31] at hl
  have g0 := hf 0 _ rfl
  rw [List.getElem?_eq_getElem (by rw [hlen]; decide)] at g0
  obtain ⟨d0, E0⟩ := opens9 _ _ _ _ _ _ _ g0
  have D0 : DLs w (c9 d0) ((cs.drop 0).take (Try.prog.cellsOf 9)) := E0
  rw [co9] at D0
  have g1 := hf 1 _ rfl
  rw [List.getElem?_eq_getElem (by rw [hlen]; decide)] at g1
  obtain ⟨d1, E1⟩ := opens29 _ _ _ _ _ _ _ g1
  have D1 : DLs w (c29 d1) ((cs.drop 1).take (Try.prog.cellsOf 29)) := E1
  rw [co29] at D1
  refine ⟨(d0, d1), ?_⟩
  have key : DLs w (c31 (d0, d1)) (cs.drop 0) := dls_split D0 (cl9 _) (dls_split D1 (cl29 _) (dls_end (by rw [hl])))
  rwa [List.drop_zero] at key
abbrev D22 := List D31
abbrev c22 : D22 → List AV := fun l => [.sl l.length (l.map c31).flatten]
theorem cl22 (d : D22) : (c22 d).length = 1 := rfl
theorem opens22 : Opens Try.prog 22 c22 := opens_slice Try.underlying22 co31 (by decide) opens31 cl31
theorem co23 : Try.prog.cellsOf 23 = 1 := by kernel_rfl
theorem co65 : Try.prog.cellsOf 65 = 2 := by kernel_rfl
abbrev D65 := D9 × D3
abbrev c65 : D65 → List AV := fun d => c9 d.1 ++ (c3 d.2 ++ ([]))
theorem cl65 (d : D65) : (c65 d).length = 2 := rfl
theorem opens65 : Opens Try.prog 65 c65 := by
  intro H enc w held n cs x h
  obtain ⟨xs, m, _, rfl, hl, hlen, hf⟩ := DataW.trod_struct Try.underlying65 h
  rw [co65] at hl
  have g0 := hf 0 _ rfl
  rw [List.getElem?_eq_getElem (by rw [hlen]; decide)] at g0
  obtain ⟨d0, E0⟩ := opens9 _ _ _ _ _ _ _ g0
  have D0 : DLs w (c9 d0) ((cs.drop 0).take (Try.prog.cellsOf 9)) := E0
  rw [co9] at D0
  have g1 := hf 1 _ rfl
  rw [List.getElem?_eq_getElem (by rw [hlen]; decide)] at g1
  obtain ⟨d1, E1⟩ := opens3 _ _ _ _ _ _ _ g1
  have D1 : DLs w (c3 d1) ((cs.drop 1).take (Try.prog.cellsOf 3)) := E1
  rw [co3] at D1
  refine ⟨(d0, d1), ?_⟩
  have key : DLs w (c65 (d0, d1)) (cs.drop 0) := dls_split D0 (cl9 _) (dls_split D1 (cl3 _) (dls_end (by rw [hl])))
  rwa [List.drop_zero] at key
abbrev D23 := List D65
abbrev c23 : D23 → List AV := fun l => [.sl l.length (l.map c65).flatten]
theorem cl23 (d : D23) : (c23 d).length = 1 := rfl
theorem opens23 : Opens Try.prog 23 c23 := opens_slice Try.underlying23 co65 (by decide) opens65 cl65
abbrev D25 := D22 × D23
abbrev c25 : D25 → List AV := fun d => c22 d.1 ++ (c23 d.2 ++ ([]))
theorem cl25 (d : D25) : (c25 d).length = 2 := rfl
theorem opens25 : Opens Try.prog 25 c25 := by
  intro H enc w held n cs x h
  obtain ⟨xs, m, _, rfl, hl, hlen, hf⟩ := DataW.trod_struct Try.underlying25 h
  rw [co25] at hl
  have g0 := hf 0 _ rfl
  rw [List.getElem?_eq_getElem (by rw [hlen]; decide)] at g0
  obtain ⟨d0, E0⟩ := opens22 _ _ _ _ _ _ _ g0
  have D0 : DLs w (c22 d0) ((cs.drop 0).take (Try.prog.cellsOf 22)) := E0
  rw [co22] at D0
  have g1 := hf 1 _ rfl
  rw [List.getElem?_eq_getElem (by rw [hlen]; decide)] at g1
  obtain ⟨d1, E1⟩ := opens23 _ _ _ _ _ _ _ g1
  have D1 : DLs w (c23 d1) ((cs.drop 1).take (Try.prog.cellsOf 23)) := E1
  rw [co23] at D1
  refine ⟨(d0, d1), ?_⟩
  have key : DLs w (c25 (d0, d1)) (cs.drop 0) := dls_split D0 (cl22 _) (dls_split D1 (cl23 _) (dls_end (by rw [hl])))
  rwa [List.drop_zero] at key
theorem co27 : Try.prog.cellsOf 27 = 2 := by kernel_rfl
theorem co26 : Try.prog.cellsOf 26 = 1 := by kernel_rfl
abbrev D26 := List D3
abbrev c26 : D26 → List AV := fun l => [.sl l.length (l.map c3).flatten]
theorem cl26 (d : D26) : (c26 d).length = 1 := rfl
theorem opens26 : Opens Try.prog 26 c26 := opens_slice Try.underlying26 co3 (by decide) opens3 cl3
abbrev D27 := {l : List D26 // l.length = 2}
abbrev c27 : D27 → List AV := fun l => (l.val.map c26).flatten
theorem cl27 (d : D27) : (c27 d).length = 2 := by rw [flat_unilen cl26, d.property]
theorem opens27 : Opens Try.prog 27 c27 := opens_array Try.underlying27 co26 (by rw [co27]) opens26 cl26
end Go.Proofs.Ytplockpopmaejaa
end
section
set_option linter.unusedVariables false
set_option linter.unusedSimpArgs false
set_option maxRecDepth 10000
namespace Go.Proofs.Ytplockpopmaejaa
open Go Go.Am Go.ChangeShapes Go.WideShapes Go.ChangeAt Go.RowKit
abbrev ocOf (d : D68) : Oc := ⟨d.1.val, d.2.1, d.2.2.val⟩
abbrev btOf (d : D31) : Bt := ⟨d.1.val, d.2.map ocOf⟩
abbrev bwOf (d : D65) : Bw := ⟨d.1.val, d.2.val⟩
theorem c29_eq (d : D29) : c29 d = [ocsAV (d.map ocOf)] := by
  show [AV.sl d.length (d.map c68).flatten] = _
  rw [ocsAV, flatO, List.length_map, List.map_map]
  rfl
theorem c31_eq (d : D31) : c31 d = btC (btOf d) := by
  show c9 d.1 ++ (c29 d.2 ++ []) = _
  rw [c29_eq]; rfl
theorem c22_eq (d : D22) : c22 d = [btsAV (d.map btOf)] := by
  show [AV.sl d.length (d.map c31).flatten] = _
  have : c31 = fun x => btC (btOf x) := funext c31_eq
  rw [btsAV, flatB, List.length_map, List.map_map, this]
  rfl
theorem c23_eq (d : D23) : c23 d = [bwsAV (d.map bwOf)] := by
  show [AV.sl d.length (d.map c65).flatten] = _
  rw [bwsAV, flatW, List.length_map, List.map_map]
  rfl
theorem c26_eq (d : D26) : c26 d = [intsAV (d.map fun x => x.val)] := by
  show [AV.sl d.length (d.map c3).flatten] = _
  rw [intsAV, List.length_map, List.map_map, show (d.map c3).flatten = d.map fun x => AV.i x.val from flat_one _ _]
  rfl
theorem list2 {α : Type} {l : List α} (h : l.length = 2) : ∃ x y, l = [x, y] := by
  match l, h with
  | [x, y], _ => exact ⟨x, y, rfl⟩
section
variable {H : Type} {enc : TypeId × Value → H} {W : World} {base : Nat} {r : Reach} {v : Value} {d : DataW H} {p : List MemPlace}
theorem okWide_arr {t e : TypeId} {n : Nat} (ht : Try.prog.underlying t = some (.array n e)) (hval : Value.okWide Try.prog W r base t v) : ∃ cs, v = .agg cs := by
  simp only [Value.okWide, ht, Cell.okWide] at hval
  cases v <;> simp_all [Cell.ok]
theorem gt_map {α β : Type} [Inhabited α] [Inhabited β] (f : α → β) (l : List α) (i : Nat) (h : i < l.length) : gt (l.map f) i = f (gt l i) := by
  rw [gt_eq _ _ (by simpa using h), gt_eq _ _ h, List.getElem_map]
theorem open_25 (hval : Value.okWide Try.prog W r base 25 v) (h : DataW.Trod enc Try.prog W 0 (fun _ => true) true 25 v d p) :
    ∃ (l : List Bt) (m : List Bw), (∀ u, u < l.length → (gt l u).nm.size ≤ 9223372036854775807) ∧ (∀ u, u < m.length → (gt m u).nm.size ≤ 9223372036854775807) ∧ Den [] (In W) W (.agg [btsAV l, bwsAV m]) v := by
  obtain ⟨cs, rfl, hs⟩ := okWide_struct Try.underlying25 hval
  obtain ⟨x, hx⟩ := open_agg opens25 h
  have e : c25 x = [btsAV (x.1.map btOf), bwsAV (x.2.map bwOf)] := by
    show c22 x.1 ++ (c23 x.2 ++ []) = _
    rw [c22_eq, c23_eq]; rfl
  rw [e] at hx
  refine ⟨_, _, fun u hu => ?_, fun u hu => ?_, hx⟩
  · rw [gt_map _ _ _ (by simpa using hu)]
    exact (gt x.1 u).1.property
  · rw [gt_map _ _ _ (by simpa using hu)]
    exact (gt x.2 u).1.property
theorem open_27 (hval : Value.okWide Try.prog W r base 27 v) (h : DataW.Trod enc Try.prog W 0 (fun _ => true) true 27 v d p) :
    ∃ (bs ws : List Int), Den [] (In W) W (.agg [intsAV bs, intsAV ws]) v := by
  obtain ⟨cs, rfl⟩ := okWide_arr Try.underlying27 hval
  obtain ⟨x, hx⟩ := open_agg opens27 h
  obtain ⟨a, b, e⟩ := list2 x.property
  have e2 : c27 x = [intsAV (a.map fun y => y.val), intsAV (b.map fun y => y.val)] := by
    show (x.val.map c26).flatten = _
    rw [e]
    show c26 a ++ (c26 b ++ []) = _
    rw [c26_eq, c26_eq]; rfl
  rw [e2] at hx
  exact ⟨_, _, hx⟩
theorem open_3 (hval : Value.okWide Try.prog W r base 3 v) (h : DataW.Trod enc Try.prog W 0 (fun _ => true) true 3 v d p) : ∃ n : Int, Den [] (In W) W (AV.i n) v := by
  obtain ⟨fuel, hf⟩ := h
  obtain ⟨n, rfl⟩ := okWide_int Try.underlying3 hval
  exact ⟨n, by obtain ⟨m, hm, _⟩ := DataW.trod_int Try.underlying3 hf; cases hm; exact .v _⟩
end
end Go.Proofs.Ytplockpopmaejaa
end
section
namespace Go.Proofs.Ytplockpopmaejaa
open Go Go.Am Go.ChangeShapes Go.WideShapes Go.ChangeAt Go.RowKit
set_option linter.unusedVariables false

theorem attackCosts_own : ownKnob Try.prog.godebug = none := by kernel_rfl
theorem attackCosts_laidOut : laidOutB Try.prog = true := by kernel_rfl

theorem attackCosts_walk (w : World) (v0 v1 v2 : Value) (l : List Bt) (m : List Bw) (bs : List Int) (ws : List Int) (balls : Int) (hL : ∀ u, u < l.length → (gt l u).nm.size ≤ 9223372036854775807) (hM : ∀ u, u < m.length → (gt m u).nm.size ≤ 9223372036854775807) (D0 : Den [] (In w) w (.agg [btsAV l, bwsAV m]) v0) (D1 : Den [] (In w) w (.agg [intsAV bs, intsAV ws]) v1) (D2 : Den [] (In w) w (AV.i balls) v2) :
    Calls Try.prog 3 #[v0, v1, v2] w fun e w' => e = .returned (.bool true) ∧ Below w.heap.size w w' := by
  obtain ⟨n0, r0, H0, hac, rfl⟩ := acosts_ok 0 [] l m bs ws balls hL hM
  refine (calls_of_acall sig_ok (f := 3) rfl hac ⟨rfl, ?_⟩).mono fun e w' ⟨x0, I', he, hx0, hb⟩ => ?_
  · intro j a y0 ha hy0
    match j, ha, hy0 with
    | 0, ha, hy0 => cases ha; cases hy0; exact D0
    | 1, ha, hy0 => cases ha; cases hy0; exact D1
    | 2, ha, hy0 => cases ha; cases hy0; exact D2
  · rw [den_v hx0] at he
    exact ⟨he, hb⟩

set_option maxRecDepth 100000 in
theorem attackCosts_lifted (os : Os) (started : os.Started) (H : Type) (enc : TypeId × Value → H) :
    ReturnsInHanded {} Try.checked os 3 .any (Rows.attackCostsSpec.pre6 enc Try.prog Try.f3 Rows.attackCostsRow.domain false) (Rows.attackCostsSpec.post enc Try.prog Try.f3 false true false false) := by
  refine returnsInHanded_of_change (C := Try.checked) attackCosts_own started (by kernel_rfl) Try.func3
    (ChangeSpec.witness6 (enc := enc) (C := Try.checked) false ⟨#[], #[.agg #[.slice none 0 0, .slice none 0 0], .agg #[.slice none 0 0, .slice none 0 0], .int .i64 0], []⟩ 8 (by kernel_rfl) (by kernel_rfl) (by kernel_rfl) (by kernel_rfl)) ?_
  intro W base args ds gs before hval0 hW hcnd _
  have hval : ∀ (j : Nat) t v, Try.f3.params[j]? = some t → args[j]? = some v → Value.okWide Try.prog W .any base t v := hval0
  have hW' := hW
  obtain ⟨p, q, hA0, hV, rfl, hfz, hnd⟩ := hW
  have hA : DataW.TrodAll enc Try.prog W 0 (fun _ => true) true Try.f3.params.toList args.toList ds p := hA0
  rw [Try.params3] at hA hval
  obtain ⟨v0, vs0, d0, ds0, p0, q0, hargs, rfl, rfl, h0, s0⟩ := trodAll_cons hA
  obtain ⟨v1, vs1, d1, ds1, p1, q1, rfl, rfl, rfl, h1, s1⟩ := trodAll_cons s0
  obtain ⟨v2, vs2, d2, ds2, p2, q2, rfl, rfl, rfl, h2, s2⟩ := trodAll_cons s1
  obtain ⟨rfl, rfl, rfl⟩ := trodAll_nil s2
  obtain rfl : args = #[v0, v1, v2] := by cases args; simp_all
  obtain ⟨rfl, rfl⟩ := trodVars_none hV
  have k0 := h0
  have lt0 : ∀ x ∈ p0, x.block < W.heap.size := by obtain ⟨m, hm⟩ := k0; exact DataW.trod_lt m _ _ _ hm
  obtain ⟨l, m, hL, hM, D0⟩ := open_25 (hval 0 25 v0 rfl rfl) h0
  have k1 := h1
  have lt1 : ∀ x ∈ p1, x.block < W.heap.size := by obtain ⟨m, hm⟩ := k1; exact DataW.trod_lt m _ _ _ hm
  obtain ⟨bs, ws, D1⟩ := open_27 (hval 1 27 v1 rfl rfl) h1
  have k2 := h2
  have lt2 : ∀ x ∈ p2, x.block < W.heap.size := by obtain ⟨m, hm⟩ := k2; exact DataW.trod_lt m _ _ _ hm
  obtain ⟨balls, D2⟩ := open_3 (hval 2 3 v2 rfl rfl) h2
  clear hA0 hval0
  refine (attackCosts_walk W v0 v1 v2 l m bs ws balls hL hM D0 D1 D2).mono fun e W' ⟨he, bel⟩ => ?_
  subst he
  exact ⟨_, rfl, _, _, _, [], _, [], hW', trodAll_mk1 (shut_bool Try.underlying4 _), (trodAll_cons_mk (Below.trod attackCosts_laidOut (by kernel_rfl) (of_decide_eq_true (by kernel_rfl)) k0 bel lt0) (trodAll_cons_mk (Below.trod attackCosts_laidOut (by kernel_rfl) (of_decide_eq_true (by kernel_rfl)) k1 bel lt1) (trodAll_cons_mk (Below.trod attackCosts_laidOut (by kernel_rfl) (of_decide_eq_true (by kernel_rfl)) k2 bel lt2) trodAll_mk0))), rfl, bel.frame _, fun h => by cases h⟩

theorem attackCosts_over : Rows.attackCostsRow.holds Try.pinned (OpenSpec.ofChange Rows.attackCostsSpec) :=
  OpenClaim.holds_of_wide 3 Try.f3 rfl rfl rfl rfl rfl rfl rfl ⟨rfl, rfl, rfl, rfl, rfl⟩ rfl rfl rfl rfl rfl (by kernel_rfl) Try.func3 (by kernel_rfl)
    (of_decide_eq_true (by kernel_rfl)) (by unfold Func.isWrapper; first | (rw [if_pos (by decide +kernel)]; kernel_rfl) | (rw [if_neg (by decide +kernel)]; exact ⟨rfl, rfl⟩))
    (fun os started H enc _ => attackCosts_lifted os started H enc)

theorem attackCosts_holds : Rows.AttackCostsSaid := attackCosts_over
end Go.Proofs.Ytplockpopmaejaa
end
