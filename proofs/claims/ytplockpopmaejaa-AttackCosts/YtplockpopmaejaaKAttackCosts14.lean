/-
  Texts of AttackCosts, part 15 of 17. Walks of chapters 46, 43 and 42. The steps are written by program (walk.py).
-/
import Derived.Test.YtplockpopmaejaaKAttackCosts6
import Derived.Test.YtplockpopmaejaaKAttackCosts13
section
set_option linter.unusedSimpArgs false
set_option linter.unusedVariables false
set_option maxHeartbeats 40000000
set_option maxRecDepth 4000
namespace Go.Proofs.Ytplockpopmaejaa
open Go Go.Am

abbrev lc_costs6 (a b c d e f g h i j k m n o p q r s t u v w x y z A B C D E F G H I J K L M : AV) : Env := [(0,a),(1,b),(2,c),(3,d),(4,e),(8,f),(9,g),(10,h),(12,i),(14,j),(15,k),(17,m),(18,n),(20,o),(21,p),(23,q),(28,r),(37,s),(45,t),(46,u),(47,v),(48,w),(49,x),(60,y),(62,z),(63,A),(64,B),(65,C),(76,D),(83,E),(84,F),(85,G),(86,H),(87,I),(90,J),(91,K),(92,L),(93,M)]
theorem costs6 (lim : Nat) (H : Heap) (l : List Bt) (m : List Bw) (bs ws : List Int) (balls : Int) (hL : ∀ u, u < l.length → (gt l u).nm.size ≤ 9223372036854775807) (hM : ∀ u, u < m.length → (gt m u).nm.size ≤ 9223372036854775807) (h1 : l.length ≤ 100000) (h2 : m.length ≤ 100000) (h3 : bs.length ≤ 100000) (h4 : ws.length ≤ 100000) :
    ACall sig lim 6 [.agg [btsAV l, bwsAV m], intsAV bs, intsAV ws, AV.i balls] H fun r H' => r = .tup [coA l m bs ws balls, AV.i (coE l m bs ws balls)] ∧ H' = H := by
 have q4 : True := trivial
 refine ACall_pure (fa := fa6) rfl rfl rfl rfl ?_
 have tr : ∀ a0 a1 a2 a3 : AV, env0 fa6.keep [a0, a1, a2, a3] = [(0,a0),(1,a1),(2,a2),(3,a3),(4,.any),(8,.any),(9,.any),(10,.any),(12,.any),(14,.any),(15,.any),(17,.any),(18,.any),(20,.any),(21,.any),(23,.any),(28,.any),(37,.any),(45,.any),(46,.any),(47,.any),(48,.any),(49,.any),(60,.any),(62,.any),(63,.any),(64,.any),(65,.any),(76,.any),(83,.any),(84,.any),(85,.any),(86,.any),(87,.any),(90,.any),(91,.any),(92,.any),(93,.any)] := fun a0 a1 a2 a3 => rfl
 refine W_to (tr _ _ _ _) ?_; clear tr
 refine at_seq rfl ?_
 refine rg rfl ?_
 refine A_box rfl (by simp (disch := first | omega | (simp only [List.length_map, List.length_append, List.length_set, List.length_cons, List.length_nil]; omega)) only [go_sem, ↓reduceIte, Nat.reduceEqDiff, reduceCtorEq] <;> rfl) ?_
 intro H1 n1
 have en1 := n1.len
 have q4 := n1.new
 refine Rq ?_
 refine Rq ?_
 have tr : ∀ a b c d e f g h i j k m n o p q r s t u v w x y z A B C D E F G H I J K L M N O P : AV, let l := lc_costs6 a b c d e f g h i j k m n o p q r s t u v w x y z A B C D E F G H I J K L M; trim ((9,P)::(8,O)::(4,N)::l) l = [(0,a),(1,b),(2,c),(3,d),(4,N),(8,O),(9,P),(10,h),(12,i),(14,j),(15,k),(17,m),(18,n),(20,o),(21,p),(23,q),(28,r),(37,s),(45,t),(46,u),(47,v),(48,w),(49,x),(60,y),(62,z),(63,A),(64,B),(65,C),(76,D),(83,E),(84,F),(85,G),(86,H),(87,I),(90,J),(91,K),(92,L),(93,M)] := by intros; rfl
 refine R_nil (tr ..) ?_; clear tr
 refine then_n ?_
 refine at_seq rfl ?_
 refine at_seq rfl ?_
 refine rg rfl ?_
 refine R_q rfl (by simp (disch := first | omega | (simp only [List.length_map, List.length_append, List.length_set, List.length_cons, List.length_nil]; omega)) only [go_sem, ↓reduceIte, Nat.reduceEqDiff, reduceCtorEq, q4] <;> rfl) ?_
 refine Rcall ?_
 refine ACall_eq (chkm13 _ _ l m hL hM h1 h2) ?_
 refine Rq ?_
 have tr : ∀ a b c d e f g h i j k m n o p q r s t u v w x y z A B C D E F G H I J K L M N O P : AV, let l := lc_costs6 a b c d e f g h i j k m n o p q r s t u v w x y z A B C D E F G H I J K L M; trim ((10,P)::(26,O)::(25,N)::l) l = [(0,a),(1,b),(2,c),(3,d),(4,e),(8,f),(9,g),(10,P),(12,i),(14,j),(15,k),(17,m),(18,n),(20,o),(21,p),(23,q),(28,r),(37,s),(45,t),(46,u),(47,v),(48,w),(49,x),(60,y),(62,z),(63,A),(64,B),(65,C),(76,D),(83,E),(84,F),(85,G),(86,H),(87,I),(90,J),(91,K),(92,L),(93,M)] := by intros; rfl
 refine R_nil (tr ..) ?_; clear tr
 refine then_n ?_
 refine at_seq rfl ?_
 refine rg rfl ?_
 refine Rq ?_
 refine Rq ?_
 have tr : ∀ a b c d e f g h i j k m n o p q r s t u v w x y z A B C D E F G H I J K L M N O : AV, let l := lc_costs6 a b c d e f g h i j k m n o p q r s t u v w x y z A B C D E F G H I J K L M; trim ((28,O)::(27,N)::l) l = [(0,a),(1,b),(2,c),(3,d),(4,e),(8,f),(9,g),(10,h),(12,i),(14,j),(15,k),(17,m),(18,n),(20,o),(21,p),(23,q),(28,O),(37,s),(45,t),(46,u),(47,v),(48,w),(49,x),(60,y),(62,z),(63,A),(64,B),(65,C),(76,D),(83,E),(84,F),(85,G),(86,H),(87,I),(90,J),(91,K),(92,L),(93,M)] := by intros; rfl
 refine R_nil (tr ..) ?_; clear tr
 refine then_n ?_
 refine cdd (fun h1 => ?_) (fun h1 => ?_)
 ·
  try simp only [decide_eq_true_eq, decide_eq_false_iff_not, Bool.not_eq_true', Bool.not_eq_false', beq_iff_eq, beq_eq_false_iff_ne, ne_eq] at h1
  refine at_seq rfl ?_
  refine rg rfl ?_
  refine Rq ?_
  refine Rq ?_
  refine Rq ?_
  have tr : ∀ a b c d e f g h i j k m n o p q r s t u v w x y z A B C D E F G H I J K L M N O P : AV, let l := lc_costs6 a b c d e f g h i j k m n o p q r s t u v w x y z A B C D E F G H I J K L M; trim ((9,P)::(8,O)::(29,N)::l) l = [(0,a),(1,b),(2,c),(3,d),(4,e),(8,O),(9,P),(10,h),(12,i),(14,j),(15,k),(17,m),(18,n),(20,o),(21,p),(23,q),(28,r),(37,s),(45,t),(46,u),(47,v),(48,w),(49,x),(60,y),(62,z),(63,A),(64,B),(65,C),(76,D),(83,E),(84,F),(85,G),(86,H),(87,I),(90,J),(91,K),(92,L),(93,M)] := by intros; rfl
  refine R_nil (tr ..) ?_; clear tr
  refine then_n ?_
  refine at_ret rfl ?_
  refine then_r ?_
  refine fpure ?_
  refine ⟨?_, rfl⟩
  have he : coE l m bs ws balls = chkM l m := (by rw [coE, if_pos (by assumption)])
  have hne : coE l m bs ws balls ≠ 0 := (by rw [he]; first | decide | assumption)
  rw [coA, if_pos hne, he]
 ·
  try simp only [decide_eq_true_eq, decide_eq_false_iff_not, Bool.not_eq_true', Bool.not_eq_false', beq_iff_eq, beq_eq_false_iff_ne, ne_eq] at h1
  refine at_skip rfl ?_
  refine then_n ?_
  refine at_seq rfl ?_
  refine at_seq rfl ?_
  refine rg rfl ?_
  have hc : chkM l m = 0 := by assumption
  refine Rq ?_
  refine Rq ?_
  refine Rq ?_
  refine Rq ?_
  refine Rp_split (fun h2 => ?_) (fun h2 => ?_)
  ·
   try simp only [decide_eq_true_eq, decide_eq_false_iff_not, Bool.not_eq_true', Bool.not_eq_false', beq_iff_eq, beq_eq_false_iff_ne, ne_eq] at h2
   refine Rn ?_
   refine Rn ?_
   refine Rn ?_
   refine Rq ?_
   have tr : ∀ a b c d e f g h i j k m n o p q r s t u v w x y z A B C D E F G H I J K L M N O P Q R S T U : AV, let l := lc_costs6 a b c d e f g h i j k m n o p q r s t u v w x y z A B C D E F G H I J K L M; trim ((37,U)::(36,T)::(35,S)::(34,R)::(33,Q)::(32,P)::(31,O)::(30,N)::l) l = [(0,a),(1,b),(2,c),(3,d),(4,e),(8,f),(9,g),(10,h),(12,i),(14,j),(15,k),(17,m),(18,n),(20,o),(21,p),(23,q),(28,r),(37,U),(45,t),(46,u),(47,v),(48,w),(49,x),(60,y),(62,z),(63,A),(64,B),(65,C),(76,D),(83,E),(84,F),(85,G),(86,H),(87,I),(90,J),(91,K),(92,L),(93,M)] := by intros; rfl
   refine R_nil (tr ..) ?_; clear tr
   refine then_n ?_
   refine cdt ?_
   refine at_seq rfl ?_
   refine rg rfl ?_
   refine Rq ?_
   refine Rq ?_
   have tr : ∀ a b c d e f g h i j k m n o p q r s t u v w x y z A B C D E F G H I J K L M N O : AV, let l := lc_costs6 a b c d e f g h i j k m n o p q r s t u v w x y z A B C D E F G H I J K L M; trim ((9,O)::(8,N)::l) l = [(0,a),(1,b),(2,c),(3,d),(4,e),(8,N),(9,O),(10,h),(12,i),(14,j),(15,k),(17,m),(18,n),(20,o),(21,p),(23,q),(28,r),(37,s),(45,t),(46,u),(47,v),(48,w),(49,x),(60,y),(62,z),(63,A),(64,B),(65,C),(76,D),(83,E),(84,F),(85,G),(86,H),(87,I),(90,J),(91,K),(92,L),(93,M)] := by intros; rfl
   refine R_nil (tr ..) ?_; clear tr
   refine then_n ?_
   refine at_ret rfl ?_
   refine then_r ?_
   refine fpure ?_
   refine ⟨?_, rfl⟩
   have he : coE l m bs ws balls = 6 := (by rw [coE, if_neg (fun hh => hh hc), if_pos (by omega)])
   have hne : coE l m bs ws balls ≠ 0 := (by rw [he]; first | decide | assumption)
   rw [coA, if_pos hne, he]
  ·
   try simp only [decide_eq_true_eq, decide_eq_false_iff_not, Bool.not_eq_true', Bool.not_eq_false', beq_iff_eq, beq_eq_false_iff_ne, ne_eq] at h2
   refine Ry ?_
   refine Rq ?_
   refine Ry ?_
   refine Rq ?_
   refine Ry ?_
   refine Rq ?_
   refine Rq ?_
   have tr : ∀ a b c d e f g h i j k m n o p q r s t u v w x y z A B C D E F G H I J K L M N O P Q R S T U : AV, let l := lc_costs6 a b c d e f g h i j k m n o p q r s t u v w x y z A B C D E F G H I J K L M; trim ((37,U)::(36,T)::(35,S)::(34,R)::(33,Q)::(32,P)::(31,O)::(30,N)::l) l = [(0,a),(1,b),(2,c),(3,d),(4,e),(8,f),(9,g),(10,h),(12,i),(14,j),(15,k),(17,m),(18,n),(20,o),(21,p),(23,q),(28,r),(37,U),(45,t),(46,u),(47,v),(48,w),(49,x),(60,y),(62,z),(63,A),(64,B),(65,C),(76,D),(83,E),(84,F),(85,G),(86,H),(87,I),(90,J),(91,K),(92,L),(93,M)] := by intros; rfl
   refine R_nil (tr ..) ?_; clear tr
   refine then_n ?_
   refine cdd (fun h3 => ?_) (fun h3 => ?_)
   ·
    try simp only [decide_eq_true_eq, decide_eq_false_iff_not, Bool.not_eq_true', Bool.not_eq_false', beq_iff_eq, beq_eq_false_iff_ne, ne_eq] at h3
    refine at_seq rfl ?_
    refine rg rfl ?_
    refine Rq ?_
    refine Rq ?_
    have tr : ∀ a b c d e f g h i j k m n o p q r s t u v w x y z A B C D E F G H I J K L M N O : AV, let l := lc_costs6 a b c d e f g h i j k m n o p q r s t u v w x y z A B C D E F G H I J K L M; trim ((9,O)::(8,N)::l) l = [(0,a),(1,b),(2,c),(3,d),(4,e),(8,N),(9,O),(10,h),(12,i),(14,j),(15,k),(17,m),(18,n),(20,o),(21,p),(23,q),(28,r),(37,s),(45,t),(46,u),(47,v),(48,w),(49,x),(60,y),(62,z),(63,A),(64,B),(65,C),(76,D),(83,E),(84,F),(85,G),(86,H),(87,I),(90,J),(91,K),(92,L),(93,M)] := by intros; rfl
    refine R_nil (tr ..) ?_; clear tr
    refine then_n ?_
    refine at_ret rfl ?_
    refine then_r ?_
    refine fpure ?_
    refine ⟨?_, rfl⟩
    have he : coE l m bs ws balls = 6 := (by rw [coE, if_neg (fun hh => hh hc), if_pos (by omega)])
    have hne : coE l m bs ws balls ≠ 0 := (by rw [he]; first | decide | assumption)
    rw [coA, if_pos hne, he]
   ·
    try simp only [decide_eq_true_eq, decide_eq_false_iff_not, Bool.not_eq_true', Bool.not_eq_false', beq_iff_eq, beq_eq_false_iff_ne, ne_eq] at h3
    refine at_skip rfl ?_
    refine then_n ?_
    refine at_seq rfl ?_
    refine at_seq rfl ?_
    refine rg rfl ?_
    refine Rq ?_
    refine Rq ?_
    refine Rq ?_
    refine Rq ?_
    refine Rp_split (fun h4 => ?_) (fun h4 => ?_)
    ·
     try simp only [decide_eq_true_eq, decide_eq_false_iff_not, Bool.not_eq_true', Bool.not_eq_false', beq_iff_eq, beq_eq_false_iff_ne, ne_eq] at h4
     refine Rn ?_
     refine Rn ?_
     refine Rn ?_
     refine Rq ?_
     have tr : ∀ a b c d e f g h i j k m n o p q r s t u v w x y z A B C D E F G H I J K L M N O P Q R S T U : AV, let l := lc_costs6 a b c d e f g h i j k m n o p q r s t u v w x y z A B C D E F G H I J K L M; trim ((45,U)::(44,T)::(43,S)::(42,R)::(41,Q)::(40,P)::(39,O)::(38,N)::l) l = [(0,a),(1,b),(2,c),(3,d),(4,e),(8,f),(9,g),(10,h),(12,i),(14,j),(15,k),(17,m),(18,n),(20,o),(21,p),(23,q),(28,r),(37,s),(45,U),(46,u),(47,v),(48,w),(49,x),(60,y),(62,z),(63,A),(64,B),(65,C),(76,D),(83,E),(84,F),(85,G),(86,H),(87,I),(90,J),(91,K),(92,L),(93,M)] := by intros; rfl
     refine R_nil (tr ..) ?_; clear tr
     refine then_n ?_
     refine cdt ?_
     refine at_seq rfl ?_
     refine rg rfl ?_
     refine Rq ?_
     refine Rq ?_
     have tr : ∀ a b c d e f g h i j k m n o p q r s t u v w x y z A B C D E F G H I J K L M N O : AV, let l := lc_costs6 a b c d e f g h i j k m n o p q r s t u v w x y z A B C D E F G H I J K L M; trim ((9,O)::(8,N)::l) l = [(0,a),(1,b),(2,c),(3,d),(4,e),(8,N),(9,O),(10,h),(12,i),(14,j),(15,k),(17,m),(18,n),(20,o),(21,p),(23,q),(28,r),(37,s),(45,t),(46,u),(47,v),(48,w),(49,x),(60,y),(62,z),(63,A),(64,B),(65,C),(76,D),(83,E),(84,F),(85,G),(86,H),(87,I),(90,J),(91,K),(92,L),(93,M)] := by intros; rfl
     refine R_nil (tr ..) ?_; clear tr
     refine then_n ?_
     refine at_ret rfl ?_
     refine then_r ?_
     refine fpure ?_
     refine ⟨?_, rfl⟩
     have he : coE l m bs ws balls = 9 := (by rw [coE, if_neg (fun hh => hh hc), if_neg (by omega), if_pos (by omega)])
     have hne : coE l m bs ws balls ≠ 0 := (by rw [he]; first | decide | assumption)
     rw [coA, if_pos hne, he]
    ·
     try simp only [decide_eq_true_eq, decide_eq_false_iff_not, Bool.not_eq_true', Bool.not_eq_false', beq_iff_eq, beq_eq_false_iff_ne, ne_eq] at h4
     refine Ry ?_
     refine Rq ?_
     refine Ry ?_
     refine Rq ?_
     refine Ry ?_
     refine Rq ?_
     refine Rq ?_
     have tr : ∀ a b c d e f g h i j k m n o p q r s t u v w x y z A B C D E F G H I J K L M N O P Q R S T U : AV, let l := lc_costs6 a b c d e f g h i j k m n o p q r s t u v w x y z A B C D E F G H I J K L M; trim ((45,U)::(44,T)::(43,S)::(42,R)::(41,Q)::(40,P)::(39,O)::(38,N)::l) l = [(0,a),(1,b),(2,c),(3,d),(4,e),(8,f),(9,g),(10,h),(12,i),(14,j),(15,k),(17,m),(18,n),(20,o),(21,p),(23,q),(28,r),(37,s),(45,U),(46,u),(47,v),(48,w),(49,x),(60,y),(62,z),(63,A),(64,B),(65,C),(76,D),(83,E),(84,F),(85,G),(86,H),(87,I),(90,J),(91,K),(92,L),(93,M)] := by intros; rfl
     refine R_nil (tr ..) ?_; clear tr
     refine then_n ?_
     refine cdd (fun h5 => ?_) (fun h5 => ?_)
     ·
      try simp only [decide_eq_true_eq, decide_eq_false_iff_not, Bool.not_eq_true', Bool.not_eq_false', beq_iff_eq, beq_eq_false_iff_ne, ne_eq] at h5
      refine at_seq rfl ?_
      refine rg rfl ?_
      refine Rq ?_
      refine Rq ?_
      have tr : ∀ a b c d e f g h i j k m n o p q r s t u v w x y z A B C D E F G H I J K L M N O : AV, let l := lc_costs6 a b c d e f g h i j k m n o p q r s t u v w x y z A B C D E F G H I J K L M; trim ((9,O)::(8,N)::l) l = [(0,a),(1,b),(2,c),(3,d),(4,e),(8,N),(9,O),(10,h),(12,i),(14,j),(15,k),(17,m),(18,n),(20,o),(21,p),(23,q),(28,r),(37,s),(45,t),(46,u),(47,v),(48,w),(49,x),(60,y),(62,z),(63,A),(64,B),(65,C),(76,D),(83,E),(84,F),(85,G),(86,H),(87,I),(90,J),(91,K),(92,L),(93,M)] := by intros; rfl
      refine R_nil (tr ..) ?_; clear tr
      refine then_n ?_
      refine at_ret rfl ?_
      refine then_r ?_
      refine fpure ?_
      refine ⟨?_, rfl⟩
      have he : coE l m bs ws balls = 9 := (by rw [coE, if_neg (fun hh => hh hc), if_neg (by omega), if_pos (by omega)])
      have hne : coE l m bs ws balls ≠ 0 := (by rw [he]; first | decide | assumption)
      rw [coA, if_pos hne, he]
     ·
      try simp only [decide_eq_true_eq, decide_eq_false_iff_not, Bool.not_eq_true', Bool.not_eq_false', beq_iff_eq, beq_eq_false_iff_ne, ne_eq] at h5
      refine at_skip rfl ?_
      refine then_n ?_
      refine at_seq rfl ?_
      refine at_seq rfl ?_
      refine rg rfl ?_
      refine Rq ?_
      refine Rq ?_
      refine Rq ?_
      have tr : ∀ a b c d e f g h i j k m n o p q r s t u v w x y z A B C D E F G H I J K L M N O P : AV, let l := lc_costs6 a b c d e f g h i j k m n o p q r s t u v w x y z A B C D E F G H I J K L M; trim ((48,P)::(47,O)::(46,N)::l) l = [(0,a),(1,b),(2,c),(3,d),(4,e),(8,f),(9,g),(10,h),(12,i),(14,j),(15,k),(17,m),(18,n),(20,o),(21,p),(23,q),(28,r),(37,s),(45,t),(46,N),(47,O),(48,P),(49,x),(60,y),(62,z),(63,A),(64,B),(65,C),(76,D),(83,E),(84,F),(85,G),(86,H),(87,I),(90,J),(91,K),(92,L),(93,M)] := by intros; rfl
      refine R_nil (tr ..) ?_; clear tr
      refine then_n ?_
      refine at_block rfl ?_
      refine loop_n rfl (fun mm kv H' => ∃ u : Nat, ∃ x8 x9 x12 x49 x60 : AV, (kv = [(8, x8), (9, x9), (12, x12), (48, AV.i u), (49, x49), (60, x60)]) ∧ (mm = bs.length - u) ∧ (hget H' H.length = some [btsAV l, bwsAV m]) ∧ (u ≤ bs.length) ∧ (∀ i, i < u → ¬ badX l.length (gt bs i))) ⟨0, _, _, _, _, _, rfl, rfl, by exact q4, by omega, by intro i hi; omega⟩ (by rfl) ?_
      rintro mm kv H2 ⟨u, x8, x9, x12, x49, x60, rfl, rfl, q4, hu, hb⟩
      have tr : ∀ a b c d e f g h i j k m n o p q r s t u v w x y z A B C D E F G H I J K L M N O P Q R S : AV, upd [(0,a),(1,b),(2,c),(3,d),(4,e),(8,f),(9,g),(10,h),(12,i),(14,j),(15,k),(17,m),(18,n),(20,o),(21,p),(23,q),(28,r),(37,s),(45,t),(46,u),(47,v),(48,w),(49,x),(60,y),(62,z),(63,A),(64,B),(65,C),(76,D),(83,E),(84,F),(85,G),(86,H),(87,I),(90,J),(91,K),(92,L),(93,M)] [(8,N),(9,O),(12,P),(48,Q),(49,R),(60,S)] = [(0,a),(1,b),(2,c),(3,d),(4,e),(8,N),(9,O),(10,h),(12,P),(14,j),(15,k),(17,m),(18,n),(20,o),(21,p),(23,q),(28,r),(37,s),(45,t),(46,u),(47,v),(48,Q),(49,R),(60,S),(62,z),(63,A),(64,B),(65,C),(76,D),(83,E),(84,F),(85,G),(86,H),(87,I),(90,J),(91,K),(92,L),(93,M)] := by intros; rfl
      refine W_to (tr ..) ?_; clear tr
      refine at_seq rfl ?_
      refine rg rfl ?_
      refine Rq ?_
      have tr : ∀ a b c d e f g h i j k m n o p q r s t u v w x y z A B C D E F G H I J K L M N : AV, let l := lc_costs6 a b c d e f g h i j k m n o p q r s t u v w x y z A B C D E F G H I J K L M; trim ((49,N)::l) l = [(0,a),(1,b),(2,c),(3,d),(4,e),(8,f),(9,g),(10,h),(12,i),(14,j),(15,k),(17,m),(18,n),(20,o),(21,p),(23,q),(28,r),(37,s),(45,t),(46,u),(47,v),(48,w),(49,N),(60,y),(62,z),(63,A),(64,B),(65,C),(76,D),(83,E),(84,F),(85,G),(86,H),(87,I),(90,J),(91,K),(92,L),(93,M)] := by intros; rfl
      refine R_nil (tr ..) ?_; clear tr
      refine then_n ?_
      refine at_seq rfl ?_
      refine cdd (fun h6 => ?_) (fun h6 => ?_)
      ·
       try simp only [decide_eq_true_eq, decide_eq_false_iff_not, Bool.not_eq_true', Bool.not_eq_false', beq_iff_eq, beq_eq_false_iff_ne, ne_eq] at h6
       refine at_skip rfl ?_
       refine then_n ?_
       refine at_seq rfl ?_
       refine at_block rfl ?_
       refine at_seq rfl ?_
       refine rg rfl ?_
       refine Rq ?_
       refine R_q rfl (by simp (disch := first | omega | (simp only [List.length_map, List.length_append, List.length_set, List.length_cons, List.length_nil]; omega)) only [go_sem, ↓reduceIte, Nat.reduceEqDiff, reduceCtorEq, q4] <;> rfl) ?_
       refine Rq ?_
       have tr : ∀ a b c d e f g h i j k m n o p q r s t u v w x y z A B C D E F G H I J K L M N O P : AV, let l := lc_costs6 a b c d e f g h i j k m n o p q r s t u v w x y z A B C D E F G H I J K L M; trim ((12,P)::(51,O)::(50,N)::l) l = [(0,a),(1,b),(2,c),(3,d),(4,e),(8,f),(9,g),(10,h),(12,P),(14,j),(15,k),(17,m),(18,n),(20,o),(21,p),(23,q),(28,r),(37,s),(45,t),(46,u),(47,v),(48,w),(49,x),(60,y),(62,z),(63,A),(64,B),(65,C),(76,D),(83,E),(84,F),(85,G),(86,H),(87,I),(90,J),(91,K),(92,L),(93,M)] := by intros; rfl
       refine R_nil (tr ..) ?_; clear tr
       refine then_n ?_
       refine at_seq rfl ?_
       refine rg rfl ?_
       refine Rq ?_
       refine Rq ?_
       refine Rq ?_
       refine Rp_split (fun h7 => ?_) (fun h7 => ?_)
       ·
        try simp only [decide_eq_true_eq, decide_eq_false_iff_not, Bool.not_eq_true', Bool.not_eq_false', beq_iff_eq, beq_eq_false_iff_ne, ne_eq] at h7
        refine Rn ?_
        refine Rn ?_
        refine Rn ?_
        refine Rn ?_
        refine Rn ?_
        refine Rq ?_
        have tr : ∀ a b c d e f g h i j k m n o p q r s t u v w x y z A B C D E F G H I J K L M N O P Q R S T U V : AV, let l := lc_costs6 a b c d e f g h i j k m n o p q r s t u v w x y z A B C D E F G H I J K L M; trim ((60,V)::(59,U)::(58,T)::(57,S)::(56,R)::(55,Q)::(54,P)::(53,O)::(52,N)::l) l = [(0,a),(1,b),(2,c),(3,d),(4,e),(8,f),(9,g),(10,h),(12,i),(14,j),(15,k),(17,m),(18,n),(20,o),(21,p),(23,q),(28,r),(37,s),(45,t),(46,u),(47,v),(48,w),(49,x),(60,V),(62,z),(63,A),(64,B),(65,C),(76,D),(83,E),(84,F),(85,G),(86,H),(87,I),(90,J),(91,K),(92,L),(93,M)] := by intros; rfl
        refine R_nil (tr ..) ?_; clear tr
        refine then_n ?_
        refine cdt ?_
        refine at_seq rfl ?_
        refine rg rfl ?_
        refine Rq ?_
        refine Rq ?_
        have tr : ∀ a b c d e f g h i j k m n o p q r s t u v w x y z A B C D E F G H I J K L M N O : AV, let l := lc_costs6 a b c d e f g h i j k m n o p q r s t u v w x y z A B C D E F G H I J K L M; trim ((9,O)::(8,N)::l) l = [(0,a),(1,b),(2,c),(3,d),(4,e),(8,N),(9,O),(10,h),(12,i),(14,j),(15,k),(17,m),(18,n),(20,o),(21,p),(23,q),(28,r),(37,s),(45,t),(46,u),(47,v),(48,w),(49,x),(60,y),(62,z),(63,A),(64,B),(65,C),(76,D),(83,E),(84,F),(85,G),(86,H),(87,I),(90,J),(91,K),(92,L),(93,M)] := by intros; rfl
        refine R_nil (tr ..) ?_; clear tr
        refine then_n ?_
        refine at_ret rfl ?_
        refine blk_r ?_
        refine then_r ?_
        refine then_r ?_
        refine blk_r ?_
        refine then_r ?_
        refine fpure ?_
        refine ⟨?_, rfl⟩
        have he : coE l m bs ws balls = 1 := (by rw [coE, if_neg (fun hh => hh hc), if_neg (by omega), if_neg (by omega), if_pos ⟨u, by omega, by unfold badX; omega⟩])
        have hne : coE l m bs ws balls ≠ 0 := (by rw [he]; first | decide | assumption)
        rw [coA, if_pos hne, he]
       ·
        try simp only [decide_eq_true_eq, decide_eq_false_iff_not, Bool.not_eq_true', Bool.not_eq_false', beq_iff_eq, beq_eq_false_iff_ne, ne_eq] at h7
        refine Ry ?_
        refine Rq ?_
        refine Ry ?_
        refine Rq ?_
        refine Ry ?_
        refine R_q rfl (by simp (disch := first | omega | (simp only [List.length_map, List.length_append, List.length_set, List.length_cons, List.length_nil]; omega)) only [go_sem, ↓reduceIte, Nat.reduceEqDiff, reduceCtorEq, q4] <;> rfl) ?_
        refine Ry ?_
        refine Rq ?_
        refine Ry ?_
        refine Rq ?_
        refine Rq ?_
        have tr : ∀ a b c d e f g h i j k m n o p q r s t u v w x y z A B C D E F G H I J K L M N O P Q R S T U V : AV, let l := lc_costs6 a b c d e f g h i j k m n o p q r s t u v w x y z A B C D E F G H I J K L M; trim ((60,V)::(59,U)::(58,T)::(57,S)::(56,R)::(55,Q)::(54,P)::(53,O)::(52,N)::l) l = [(0,a),(1,b),(2,c),(3,d),(4,e),(8,f),(9,g),(10,h),(12,i),(14,j),(15,k),(17,m),(18,n),(20,o),(21,p),(23,q),(28,r),(37,s),(45,t),(46,u),(47,v),(48,w),(49,x),(60,V),(62,z),(63,A),(64,B),(65,C),(76,D),(83,E),(84,F),(85,G),(86,H),(87,I),(90,J),(91,K),(92,L),(93,M)] := by intros; rfl
        refine R_nil (tr ..) ?_; clear tr
        refine then_n ?_
        refine cdd (fun h8 => ?_) (fun h8 => ?_)
        ·
         try simp only [decide_eq_true_eq, decide_eq_false_iff_not, Bool.not_eq_true', Bool.not_eq_false', beq_iff_eq, beq_eq_false_iff_ne, ne_eq] at h8
         refine at_seq rfl ?_
         refine rg rfl ?_
         refine Rq ?_
         refine Rq ?_
         have tr : ∀ a b c d e f g h i j k m n o p q r s t u v w x y z A B C D E F G H I J K L M N O : AV, let l := lc_costs6 a b c d e f g h i j k m n o p q r s t u v w x y z A B C D E F G H I J K L M; trim ((9,O)::(8,N)::l) l = [(0,a),(1,b),(2,c),(3,d),(4,e),(8,N),(9,O),(10,h),(12,i),(14,j),(15,k),(17,m),(18,n),(20,o),(21,p),(23,q),(28,r),(37,s),(45,t),(46,u),(47,v),(48,w),(49,x),(60,y),(62,z),(63,A),(64,B),(65,C),(76,D),(83,E),(84,F),(85,G),(86,H),(87,I),(90,J),(91,K),(92,L),(93,M)] := by intros; rfl
         refine R_nil (tr ..) ?_; clear tr
         refine then_n ?_
         refine at_ret rfl ?_
         refine blk_r ?_
         refine then_r ?_
         refine then_r ?_
         refine blk_r ?_
         refine then_r ?_
         refine fpure ?_
         refine ⟨?_, rfl⟩
         have he : coE l m bs ws balls = 1 := (by rw [coE, if_neg (fun hh => hh hc), if_neg (by omega), if_neg (by omega), if_pos ⟨u, by omega, by unfold badX; omega⟩])
         have hne : coE l m bs ws balls ≠ 0 := (by rw [he]; first | decide | assumption)
         rw [coA, if_pos hne, he]
        ·
         try simp only [decide_eq_true_eq, decide_eq_false_iff_not, Bool.not_eq_true', Bool.not_eq_false', beq_iff_eq, beq_eq_false_iff_ne, ne_eq] at h8
         refine at_skip rfl ?_
         refine blk_n ?_
         refine then_n ?_
         refine rg rfl ?_
         refine Rq ?_
         refine Rq ?_
         have tr : ∀ a b c d e f g h i j k m n o p q r s t u v w x y z A B C D E F G H I J K L M N O : AV, let l := lc_costs6 a b c d e f g h i j k m n o p q r s t u v w x y z A B C D E F G H I J K L M; trim ((48,O)::(61,N)::l) l = [(0,a),(1,b),(2,c),(3,d),(4,e),(8,f),(9,g),(10,h),(12,i),(14,j),(15,k),(17,m),(18,n),(20,o),(21,p),(23,q),(28,r),(37,s),(45,t),(46,u),(47,v),(48,O),(49,x),(60,y),(62,z),(63,A),(64,B),(65,C),(76,D),(83,E),(84,F),(85,G),(86,H),(87,I),(90,J),(91,K),(92,L),(93,M)] := by intros; rfl
         refine R_nil (tr ..) ?_; clear tr
         refine then_n ?_
         exact ⟨_, _, ⟨u + 1, _, _, _, _, _, rfl, rfl, by exact q4, by omega, by exact all_step hb (by unfold badX; omega)⟩, by rfl, by omega⟩
      ·
       try simp only [decide_eq_true_eq, decide_eq_false_iff_not, Bool.not_eq_true', Bool.not_eq_false', beq_iff_eq, beq_eq_false_iff_ne, ne_eq] at h6
       refine at_exit rfl ?_
       refine then_x ?_
       refine then_x ?_
       refine blk_x ?_
       refine then_n ?_
       refine at_seq rfl ?_
       refine at_seq rfl ?_
       refine rg rfl ?_
       refine Rq ?_
       refine Rq ?_
       refine Rq ?_
       have tr : ∀ a b c d e f g h i j k m n o p q r s t u v w x y z A B C D E F G H I J K L M N O P : AV, let l := lc_costs6 a b c d e f g h i j k m n o p q r s t u v w x y z A B C D E F G H I J K L M; trim ((64,P)::(63,O)::(62,N)::l) l = [(0,a),(1,b),(2,c),(3,d),(4,e),(8,f),(9,g),(10,h),(12,i),(14,j),(15,k),(17,m),(18,n),(20,o),(21,p),(23,q),(28,r),(37,s),(45,t),(46,u),(47,v),(48,w),(49,x),(60,y),(62,N),(63,O),(64,P),(65,C),(76,D),(83,E),(84,F),(85,G),(86,H),(87,I),(90,J),(91,K),(92,L),(93,M)] := by intros; rfl
       refine R_nil (tr ..) ?_; clear tr
       refine then_n ?_
       refine at_block rfl ?_
       refine loop_n rfl (fun mm kv H' => ∃ v : Nat, ∃ x8 x9 x14 x65 x76 : AV, (kv = [(8, x8), (9, x9), (14, x14), (64, AV.i v), (65, x65), (76, x76)]) ∧ (mm = ws.length - v) ∧ (hget H' H.length = some [btsAV l, bwsAV m]) ∧ (v ≤ ws.length) ∧ (∀ i, i < v → ¬ badX m.length (gt ws i))) ⟨0, _, _, _, _, _, rfl, rfl, by exact q4, by omega, by intro i hi; omega⟩ (by rfl) ?_
       rintro mm kv H3 ⟨v, x8, x9, x14, x65, x76, rfl, rfl, q4, hv, hw⟩
       have tr : ∀ a b c d e f g h i j k m n o p q r s t u v w x y z A B C D E F G H I J K L M N O P Q R S : AV, upd [(0,a),(1,b),(2,c),(3,d),(4,e),(8,f),(9,g),(10,h),(12,i),(14,j),(15,k),(17,m),(18,n),(20,o),(21,p),(23,q),(28,r),(37,s),(45,t),(46,u),(47,v),(48,w),(49,x),(60,y),(62,z),(63,A),(64,B),(65,C),(76,D),(83,E),(84,F),(85,G),(86,H),(87,I),(90,J),(91,K),(92,L),(93,M)] [(8,N),(9,O),(14,P),(64,Q),(65,R),(76,S)] = [(0,a),(1,b),(2,c),(3,d),(4,e),(8,N),(9,O),(10,h),(12,i),(14,P),(15,k),(17,m),(18,n),(20,o),(21,p),(23,q),(28,r),(37,s),(45,t),(46,u),(47,v),(48,w),(49,x),(60,y),(62,z),(63,A),(64,Q),(65,R),(76,S),(83,E),(84,F),(85,G),(86,H),(87,I),(90,J),(91,K),(92,L),(93,M)] := by intros; rfl
       refine W_to (tr ..) ?_; clear tr
       refine at_seq rfl ?_
       refine rg rfl ?_
       refine Rq ?_
       have tr : ∀ a b c d e f g h i j k m n o p q r s t u v w x y z A B C D E F G H I J K L M N : AV, let l := lc_costs6 a b c d e f g h i j k m n o p q r s t u v w x y z A B C D E F G H I J K L M; trim ((65,N)::l) l = [(0,a),(1,b),(2,c),(3,d),(4,e),(8,f),(9,g),(10,h),(12,i),(14,j),(15,k),(17,m),(18,n),(20,o),(21,p),(23,q),(28,r),(37,s),(45,t),(46,u),(47,v),(48,w),(49,x),(60,y),(62,z),(63,A),(64,B),(65,N),(76,D),(83,E),(84,F),(85,G),(86,H),(87,I),(90,J),(91,K),(92,L),(93,M)] := by intros; rfl
       refine R_nil (tr ..) ?_; clear tr
       refine then_n ?_
       refine at_seq rfl ?_
       refine cdd (fun h9 => ?_) (fun h9 => ?_)
       ·
        try simp only [decide_eq_true_eq, decide_eq_false_iff_not, Bool.not_eq_true', Bool.not_eq_false', beq_iff_eq, beq_eq_false_iff_ne, ne_eq] at h9
        refine at_skip rfl ?_
        refine then_n ?_
        refine at_seq rfl ?_
        refine at_block rfl ?_
        refine at_seq rfl ?_
        refine rg rfl ?_
        refine Rq ?_
        refine R_q rfl (by simp (disch := first | omega | (simp only [List.length_map, List.length_append, List.length_set, List.length_cons, List.length_nil]; omega)) only [go_sem, ↓reduceIte, Nat.reduceEqDiff, reduceCtorEq, q4] <;> rfl) ?_
        refine Rq ?_
        have tr : ∀ a b c d e f g h i j k m n o p q r s t u v w x y z A B C D E F G H I J K L M N O P : AV, let l := lc_costs6 a b c d e f g h i j k m n o p q r s t u v w x y z A B C D E F G H I J K L M; trim ((14,P)::(67,O)::(66,N)::l) l = [(0,a),(1,b),(2,c),(3,d),(4,e),(8,f),(9,g),(10,h),(12,i),(14,P),(15,k),(17,m),(18,n),(20,o),(21,p),(23,q),(28,r),(37,s),(45,t),(46,u),(47,v),(48,w),(49,x),(60,y),(62,z),(63,A),(64,B),(65,C),(76,D),(83,E),(84,F),(85,G),(86,H),(87,I),(90,J),(91,K),(92,L),(93,M)] := by intros; rfl
        refine R_nil (tr ..) ?_; clear tr
        refine then_n ?_
        refine at_seq rfl ?_
        refine rg rfl ?_
        refine Rq ?_
        refine Rq ?_
        refine Rq ?_
        refine Rp_split (fun h10 => ?_) (fun h10 => ?_)
        ·
         try simp only [decide_eq_true_eq, decide_eq_false_iff_not, Bool.not_eq_true', Bool.not_eq_false', beq_iff_eq, beq_eq_false_iff_ne, ne_eq] at h10
         refine Rn ?_
         refine Rn ?_
         refine Rn ?_
         refine Rn ?_
         refine Rn ?_
         refine Rq ?_
         have tr : ∀ a b c d e f g h i j k m n o p q r s t u v w x y z A B C D E F G H I J K L M N O P Q R S T U V : AV, let l := lc_costs6 a b c d e f g h i j k m n o p q r s t u v w x y z A B C D E F G H I J K L M; trim ((76,V)::(75,U)::(74,T)::(73,S)::(72,R)::(71,Q)::(70,P)::(69,O)::(68,N)::l) l = [(0,a),(1,b),(2,c),(3,d),(4,e),(8,f),(9,g),(10,h),(12,i),(14,j),(15,k),(17,m),(18,n),(20,o),(21,p),(23,q),(28,r),(37,s),(45,t),(46,u),(47,v),(48,w),(49,x),(60,y),(62,z),(63,A),(64,B),(65,C),(76,V),(83,E),(84,F),(85,G),(86,H),(87,I),(90,J),(91,K),(92,L),(93,M)] := by intros; rfl
         refine R_nil (tr ..) ?_; clear tr
         refine then_n ?_
         refine cdt ?_
         refine at_seq rfl ?_
         refine rg rfl ?_
         refine Rq ?_
         refine Rq ?_
         have tr : ∀ a b c d e f g h i j k m n o p q r s t u v w x y z A B C D E F G H I J K L M N O : AV, let l := lc_costs6 a b c d e f g h i j k m n o p q r s t u v w x y z A B C D E F G H I J K L M; trim ((9,O)::(8,N)::l) l = [(0,a),(1,b),(2,c),(3,d),(4,e),(8,N),(9,O),(10,h),(12,i),(14,j),(15,k),(17,m),(18,n),(20,o),(21,p),(23,q),(28,r),(37,s),(45,t),(46,u),(47,v),(48,w),(49,x),(60,y),(62,z),(63,A),(64,B),(65,C),(76,D),(83,E),(84,F),(85,G),(86,H),(87,I),(90,J),(91,K),(92,L),(93,M)] := by intros; rfl
         refine R_nil (tr ..) ?_; clear tr
         refine then_n ?_
         refine at_ret rfl ?_
         refine blk_r ?_
         refine then_r ?_
         refine then_r ?_
         refine blk_r ?_
         refine then_r ?_
         refine fpure ?_
         refine ⟨?_, rfl⟩
         have he : coE l m bs ws balls = 1 := (by rw [coE, if_neg (fun hh => hh hc), if_neg (by omega), if_neg (by omega), if_neg (fun ⟨i, hi, hbi⟩ => hb i (by omega) hbi), if_pos ⟨v, by omega, by unfold badX; omega⟩])
         have hne : coE l m bs ws balls ≠ 0 := (by rw [he]; first | decide | assumption)
         rw [coA, if_pos hne, he]
        ·
         try simp only [decide_eq_true_eq, decide_eq_false_iff_not, Bool.not_eq_true', Bool.not_eq_false', beq_iff_eq, beq_eq_false_iff_ne, ne_eq] at h10
         refine Ry ?_
         refine Rq ?_
         refine Ry ?_
         refine Rq ?_
         refine Ry ?_
         refine R_q rfl (by simp (disch := first | omega | (simp only [List.length_map, List.length_append, List.length_set, List.length_cons, List.length_nil]; omega)) only [go_sem, ↓reduceIte, Nat.reduceEqDiff, reduceCtorEq, q4] <;> rfl) ?_
         refine Ry ?_
         refine Rq ?_
         refine Ry ?_
         refine Rq ?_
         refine Rq ?_
         have tr : ∀ a b c d e f g h i j k m n o p q r s t u v w x y z A B C D E F G H I J K L M N O P Q R S T U V : AV, let l := lc_costs6 a b c d e f g h i j k m n o p q r s t u v w x y z A B C D E F G H I J K L M; trim ((76,V)::(75,U)::(74,T)::(73,S)::(72,R)::(71,Q)::(70,P)::(69,O)::(68,N)::l) l = [(0,a),(1,b),(2,c),(3,d),(4,e),(8,f),(9,g),(10,h),(12,i),(14,j),(15,k),(17,m),(18,n),(20,o),(21,p),(23,q),(28,r),(37,s),(45,t),(46,u),(47,v),(48,w),(49,x),(60,y),(62,z),(63,A),(64,B),(65,C),(76,V),(83,E),(84,F),(85,G),(86,H),(87,I),(90,J),(91,K),(92,L),(93,M)] := by intros; rfl
         refine R_nil (tr ..) ?_; clear tr
         refine then_n ?_
         refine cdd (fun h11 => ?_) (fun h11 => ?_)
         ·
          try simp only [decide_eq_true_eq, decide_eq_false_iff_not, Bool.not_eq_true', Bool.not_eq_false', beq_iff_eq, beq_eq_false_iff_ne, ne_eq] at h11
          refine at_seq rfl ?_
          refine rg rfl ?_
          refine Rq ?_
          refine Rq ?_
          have tr : ∀ a b c d e f g h i j k m n o p q r s t u v w x y z A B C D E F G H I J K L M N O : AV, let l := lc_costs6 a b c d e f g h i j k m n o p q r s t u v w x y z A B C D E F G H I J K L M; trim ((9,O)::(8,N)::l) l = [(0,a),(1,b),(2,c),(3,d),(4,e),(8,N),(9,O),(10,h),(12,i),(14,j),(15,k),(17,m),(18,n),(20,o),(21,p),(23,q),(28,r),(37,s),(45,t),(46,u),(47,v),(48,w),(49,x),(60,y),(62,z),(63,A),(64,B),(65,C),(76,D),(83,E),(84,F),(85,G),(86,H),(87,I),(90,J),(91,K),(92,L),(93,M)] := by intros; rfl
          refine R_nil (tr ..) ?_; clear tr
          refine then_n ?_
          refine at_ret rfl ?_
          refine blk_r ?_
          refine then_r ?_
          refine then_r ?_
          refine blk_r ?_
          refine then_r ?_
          refine fpure ?_
          refine ⟨?_, rfl⟩
          have he : coE l m bs ws balls = 1 := (by rw [coE, if_neg (fun hh => hh hc), if_neg (by omega), if_neg (by omega), if_neg (fun ⟨i, hi, hbi⟩ => hb i (by omega) hbi), if_pos ⟨v, by omega, by unfold badX; omega⟩])
          have hne : coE l m bs ws balls ≠ 0 := (by rw [he]; first | decide | assumption)
          rw [coA, if_pos hne, he]
         ·
          try simp only [decide_eq_true_eq, decide_eq_false_iff_not, Bool.not_eq_true', Bool.not_eq_false', beq_iff_eq, beq_eq_false_iff_ne, ne_eq] at h11
          refine at_skip rfl ?_
          refine blk_n ?_
          refine then_n ?_
          refine rg rfl ?_
          refine Rq ?_
          refine Rq ?_
          have tr : ∀ a b c d e f g h i j k m n o p q r s t u v w x y z A B C D E F G H I J K L M N O : AV, let l := lc_costs6 a b c d e f g h i j k m n o p q r s t u v w x y z A B C D E F G H I J K L M; trim ((64,O)::(77,N)::l) l = [(0,a),(1,b),(2,c),(3,d),(4,e),(8,f),(9,g),(10,h),(12,i),(14,j),(15,k),(17,m),(18,n),(20,o),(21,p),(23,q),(28,r),(37,s),(45,t),(46,u),(47,v),(48,w),(49,x),(60,y),(62,z),(63,A),(64,O),(65,C),(76,D),(83,E),(84,F),(85,G),(86,H),(87,I),(90,J),(91,K),(92,L),(93,M)] := by intros; rfl
          refine R_nil (tr ..) ?_; clear tr
          refine then_n ?_
          exact ⟨_, _, ⟨v + 1, _, _, _, _, _, rfl, rfl, by exact q4, by omega, by exact all_step hw (by unfold badX; omega)⟩, by rfl, by omega⟩
       ·
        try simp only [decide_eq_true_eq, decide_eq_false_iff_not, Bool.not_eq_true', Bool.not_eq_false', beq_iff_eq, beq_eq_false_iff_ne, ne_eq] at h9
        refine at_exit rfl ?_
        refine then_x ?_
        refine then_x ?_
        refine blk_x ?_
        refine then_n ?_
        refine at_seq rfl ?_
        refine at_seq rfl ?_
        refine rg rfl ?_
        have hub : u = bs.length := (by omega)
        subst hub
        have hvw : v = ws.length := (by omega)
        subst hvw
        refine Rq ?_
        refine Rq ?_
        refine Rq ?_
        refine Rp_split (fun h12 => ?_) (fun h12 => ?_)
        ·
         try simp only [decide_eq_true_eq, decide_eq_false_iff_not, Bool.not_eq_true', Bool.not_eq_false', beq_iff_eq, beq_eq_false_iff_ne, ne_eq] at h12
         refine Rn ?_
         refine Rn ?_
         refine Rq ?_
         have tr : ∀ a b c d e f g h i j k m n o p q r s t u v w x y z A B C D E F G H I J K L M N O P Q R S : AV, let l := lc_costs6 a b c d e f g h i j k m n o p q r s t u v w x y z A B C D E F G H I J K L M; trim ((83,S)::(82,R)::(81,Q)::(80,P)::(79,O)::(78,N)::l) l = [(0,a),(1,b),(2,c),(3,d),(4,e),(8,f),(9,g),(10,h),(12,i),(14,j),(15,k),(17,m),(18,n),(20,o),(21,p),(23,q),(28,r),(37,s),(45,t),(46,u),(47,v),(48,w),(49,x),(60,y),(62,z),(63,A),(64,B),(65,C),(76,D),(83,S),(84,F),(85,G),(86,H),(87,I),(90,J),(91,K),(92,L),(93,M)] := by intros; rfl
         refine R_nil (tr ..) ?_; clear tr
         refine then_n ?_
         refine cdt ?_
         refine at_seq rfl ?_
         refine rg rfl ?_
         refine Rq ?_
         refine Rq ?_
         have tr : ∀ a b c d e f g h i j k m n o p q r s t u v w x y z A B C D E F G H I J K L M N O : AV, let l := lc_costs6 a b c d e f g h i j k m n o p q r s t u v w x y z A B C D E F G H I J K L M; trim ((9,O)::(8,N)::l) l = [(0,a),(1,b),(2,c),(3,d),(4,e),(8,N),(9,O),(10,h),(12,i),(14,j),(15,k),(17,m),(18,n),(20,o),(21,p),(23,q),(28,r),(37,s),(45,t),(46,u),(47,v),(48,w),(49,x),(60,y),(62,z),(63,A),(64,B),(65,C),(76,D),(83,E),(84,F),(85,G),(86,H),(87,I),(90,J),(91,K),(92,L),(93,M)] := by intros; rfl
         refine R_nil (tr ..) ?_; clear tr
         refine then_n ?_
         refine at_ret rfl ?_
         refine then_r ?_
         refine fpure ?_
         refine ⟨?_, rfl⟩
         have he : coE l m bs ws balls = 2 := (by rw [coE, if_neg (fun hh => hh hc), if_neg (by omega), if_neg (by omega), if_neg (fun ⟨i, hi, hbi⟩ => hb i (by omega) hbi), if_neg (fun ⟨i, hi, hbi⟩ => hw i (by omega) hbi), if_pos (by omega)])
         have hne : coE l m bs ws balls ≠ 0 := (by rw [he]; first | decide | assumption)
         rw [coA, if_pos hne, he]
        ·
         try simp only [decide_eq_true_eq, decide_eq_false_iff_not, Bool.not_eq_true', Bool.not_eq_false', beq_iff_eq, beq_eq_false_iff_ne, ne_eq] at h12
         refine Ry ?_
         refine Rq ?_
         refine Ry ?_
         refine Rq ?_
         refine Rq ?_
         have tr : ∀ a b c d e f g h i j k m n o p q r s t u v w x y z A B C D E F G H I J K L M N O P Q R S : AV, let l := lc_costs6 a b c d e f g h i j k m n o p q r s t u v w x y z A B C D E F G H I J K L M; trim ((83,S)::(82,R)::(81,Q)::(80,P)::(79,O)::(78,N)::l) l = [(0,a),(1,b),(2,c),(3,d),(4,e),(8,f),(9,g),(10,h),(12,i),(14,j),(15,k),(17,m),(18,n),(20,o),(21,p),(23,q),(28,r),(37,s),(45,t),(46,u),(47,v),(48,w),(49,x),(60,y),(62,z),(63,A),(64,B),(65,C),(76,D),(83,S),(84,F),(85,G),(86,H),(87,I),(90,J),(91,K),(92,L),(93,M)] := by intros; rfl
         refine R_nil (tr ..) ?_; clear tr
         refine then_n ?_
         refine cdd (fun h13 => ?_) (fun h13 => ?_)
         ·
          try simp only [decide_eq_true_eq, decide_eq_false_iff_not, Bool.not_eq_true', Bool.not_eq_false', beq_iff_eq, beq_eq_false_iff_ne, ne_eq] at h13
          refine at_seq rfl ?_
          refine rg rfl ?_
          refine Rq ?_
          refine Rq ?_
          have tr : ∀ a b c d e f g h i j k m n o p q r s t u v w x y z A B C D E F G H I J K L M N O : AV, let l := lc_costs6 a b c d e f g h i j k m n o p q r s t u v w x y z A B C D E F G H I J K L M; trim ((9,O)::(8,N)::l) l = [(0,a),(1,b),(2,c),(3,d),(4,e),(8,N),(9,O),(10,h),(12,i),(14,j),(15,k),(17,m),(18,n),(20,o),(21,p),(23,q),(28,r),(37,s),(45,t),(46,u),(47,v),(48,w),(49,x),(60,y),(62,z),(63,A),(64,B),(65,C),(76,D),(83,E),(84,F),(85,G),(86,H),(87,I),(90,J),(91,K),(92,L),(93,M)] := by intros; rfl
          refine R_nil (tr ..) ?_; clear tr
          refine then_n ?_
          refine at_ret rfl ?_
          refine then_r ?_
          refine fpure ?_
          refine ⟨?_, rfl⟩
          have he : coE l m bs ws balls = 2 := (by rw [coE, if_neg (fun hh => hh hc), if_neg (by omega), if_neg (by omega), if_neg (fun ⟨i, hi, hbi⟩ => hb i (by omega) hbi), if_neg (fun ⟨i, hi, hbi⟩ => hw i (by omega) hbi), if_pos (by omega)])
          have hne : coE l m bs ws balls ≠ 0 := (by rw [he]; first | decide | assumption)
          rw [coA, if_pos hne, he]
         ·
          try simp only [decide_eq_true_eq, decide_eq_false_iff_not, Bool.not_eq_true', Bool.not_eq_false', beq_iff_eq, beq_eq_false_iff_ne, ne_eq] at h13
          refine at_skip rfl ?_
          refine then_n ?_
          refine at_seq rfl ?_
          refine rg rfl ?_
          refine Rq ?_
          have tr : ∀ a b c d e f g h i j k m n o p q r s t u v w x y z A B C D E F G H I J K L M N : AV, let l := lc_costs6 a b c d e f g h i j k m n o p q r s t u v w x y z A B C D E F G H I J K L M; trim ((15,N)::l) l = [(0,a),(1,b),(2,c),(3,d),(4,e),(8,f),(9,g),(10,h),(12,i),(14,j),(15,N),(17,m),(18,n),(20,o),(21,p),(23,q),(28,r),(37,s),(45,t),(46,u),(47,v),(48,w),(49,x),(60,y),(62,z),(63,A),(64,B),(65,C),(76,D),(83,E),(84,F),(85,G),(86,H),(87,I),(90,J),(91,K),(92,L),(93,M)] := by intros; rfl
          refine R_nil (tr ..) ?_; clear tr
          refine then_n ?_
          refine at_seq rfl ?_
          refine at_seq rfl ?_
          refine rg rfl ?_
          refine Rq ?_
          refine Rq ?_
          refine Rq ?_
          have tr : ∀ a b c d e f g h i j k m n o p q r s t u v w x y z A B C D E F G H I J K L M N O P : AV, let l := lc_costs6 a b c d e f g h i j k m n o p q r s t u v w x y z A B C D E F G H I J K L M; trim ((86,P)::(85,O)::(84,N)::l) l = [(0,a),(1,b),(2,c),(3,d),(4,e),(8,f),(9,g),(10,h),(12,i),(14,j),(15,k),(17,m),(18,n),(20,o),(21,p),(23,q),(28,r),(37,s),(45,t),(46,u),(47,v),(48,w),(49,x),(60,y),(62,z),(63,A),(64,B),(65,C),(76,D),(83,E),(84,N),(85,O),(86,P),(87,I),(90,J),(91,K),(92,L),(93,M)] := by intros; rfl
          refine R_nil (tr ..) ?_; clear tr
          refine then_n ?_
          refine at_block rfl ?_
          refine loop_n rfl (fun mm kv H' => ∃ a : Nat, ∃ o : AV, ∃ x17 x18 x20 x21 x23 x87 x90 x91 x92 x93 : AV, (kv = [(15, o), (17, x17), (18, x18), (20, x20), (21, x21), (23, x23), (86, AV.i a), (87, x87), (90, x90), (91, x91), (92, x92), (93, x93)]) ∧ (mm = bs.length - a) ∧ (hget H' H.length = some [btsAV l, bwsAV m]) ∧ (a ≤ bs.length) ∧ (OutR (H.length + 1) H' o ((coV l m bs ws balls).take a)) ∧ (H.length < H'.length)) ⟨0, nilO, _, _, _, _, _, _, _, _, _, _, rfl, rfl, by exact q4, by omega, by exact .inl ⟨rfl, rfl⟩, by exact hget_lt q4⟩ (by rfl) ?_
          rintro mm kv H4 ⟨a, o, x17, x18, x20, x21, x23, x87, x90, x91, x92, x93, rfl, rfl, q4, ha, hR, hlR⟩
          have tr : ∀ a b c d e f g h i j k m n o p q r s t u v w x y z A B C D E F G H I J K L M N O P Q R S T U V W X Y : AV, upd [(0,a),(1,b),(2,c),(3,d),(4,e),(8,f),(9,g),(10,h),(12,i),(14,j),(15,k),(17,m),(18,n),(20,o),(21,p),(23,q),(28,r),(37,s),(45,t),(46,u),(47,v),(48,w),(49,x),(60,y),(62,z),(63,A),(64,B),(65,C),(76,D),(83,E),(84,F),(85,G),(86,H),(87,I),(90,J),(91,K),(92,L),(93,M)] [(15,N),(17,O),(18,P),(20,Q),(21,R),(23,S),(86,T),(87,U),(90,V),(91,W),(92,X),(93,Y)] = [(0,a),(1,b),(2,c),(3,d),(4,e),(8,f),(9,g),(10,h),(12,i),(14,j),(15,N),(17,O),(18,P),(20,Q),(21,R),(23,S),(28,r),(37,s),(45,t),(46,u),(47,v),(48,w),(49,x),(60,y),(62,z),(63,A),(64,B),(65,C),(76,D),(83,E),(84,F),(85,G),(86,T),(87,U),(90,V),(91,W),(92,X),(93,Y)] := by intros; rfl
          refine W_to (tr ..) ?_; clear tr
          refine at_seq rfl ?_
          refine rg rfl ?_
          have hba := fun ha1 : a < bs.length => hb a ha1
          have hbw0 : ∀ c, c < ws.length → 0 ≤ gt ws c ∧ gt ws c < m.length := fun c hc2 => by have := hw c hc2; unfold badX at this; omega
          refine Rq ?_
          have tr : ∀ a b c d e f g h i j k m n o p q r s t u v w x y z A B C D E F G H I J K L M N : AV, let l := lc_costs6 a b c d e f g h i j k m n o p q r s t u v w x y z A B C D E F G H I J K L M; trim ((87,N)::l) l = [(0,a),(1,b),(2,c),(3,d),(4,e),(8,f),(9,g),(10,h),(12,i),(14,j),(15,k),(17,m),(18,n),(20,o),(21,p),(23,q),(28,r),(37,s),(45,t),(46,u),(47,v),(48,w),(49,x),(60,y),(62,z),(63,A),(64,B),(65,C),(76,D),(83,E),(84,F),(85,G),(86,H),(87,N),(90,J),(91,K),(92,L),(93,M)] := by intros; rfl
          refine R_nil (tr ..) ?_; clear tr
          refine then_n ?_
          refine at_seq rfl ?_
          refine cdd (fun h14 => ?_) (fun h14 => ?_)
          ·
           try simp only [decide_eq_true_eq, decide_eq_false_iff_not, Bool.not_eq_true', Bool.not_eq_false', beq_iff_eq, beq_eq_false_iff_ne, ne_eq] at h14
           refine at_skip rfl ?_
           refine then_n ?_
           refine at_seq rfl ?_
           refine at_block rfl ?_
           refine at_seq rfl ?_
           refine rg rfl ?_
           refine Rq ?_
           refine R_q rfl (by simp (disch := first | omega | (simp only [List.length_map, List.length_append, List.length_set, List.length_cons, List.length_nil]; omega)) only [go_sem, ↓reduceIte, Nat.reduceEqDiff, reduceCtorEq, q4] <;> rfl) ?_
           refine Rq ?_
           have tr : ∀ a b c d e f g h i j k m n o p q r s t u v w x y z A B C D E F G H I J K L M N O P : AV, let l := lc_costs6 a b c d e f g h i j k m n o p q r s t u v w x y z A B C D E F G H I J K L M; trim ((17,P)::(89,O)::(88,N)::l) l = [(0,a),(1,b),(2,c),(3,d),(4,e),(8,f),(9,g),(10,h),(12,i),(14,j),(15,k),(17,P),(18,n),(20,o),(21,p),(23,q),(28,r),(37,s),(45,t),(46,u),(47,v),(48,w),(49,x),(60,y),(62,z),(63,A),(64,B),(65,C),(76,D),(83,E),(84,F),(85,G),(86,H),(87,I),(90,J),(91,K),(92,L),(93,M)] := by intros; rfl
           refine R_nil (tr ..) ?_; clear tr
           refine then_n ?_
           refine at_seq rfl ?_
           refine rg rfl ?_
           refine Rq ?_
           have tr : ∀ a b c d e f g h i j k m n o p q r s t u v w x y z A B C D E F G H I J K L M N : AV, let l := lc_costs6 a b c d e f g h i j k m n o p q r s t u v w x y z A B C D E F G H I J K L M; trim ((18,N)::l) l = [(0,a),(1,b),(2,c),(3,d),(4,e),(8,f),(9,g),(10,h),(12,i),(14,j),(15,k),(17,m),(18,N),(20,o),(21,p),(23,q),(28,r),(37,s),(45,t),(46,u),(47,v),(48,w),(49,x),(60,y),(62,z),(63,A),(64,B),(65,C),(76,D),(83,E),(84,F),(85,G),(86,H),(87,I),(90,J),(91,K),(92,L),(93,M)] := by intros; rfl
           refine R_nil (tr ..) ?_; clear tr
           refine then_n ?_
           refine at_seq rfl ?_
           refine at_seq rfl ?_
           refine rg rfl ?_
           refine Rq ?_
           refine Rq ?_
           refine Rq ?_
           have tr : ∀ a b c d e f g h i j k m n o p q r s t u v w x y z A B C D E F G H I J K L M N O P : AV, let l := lc_costs6 a b c d e f g h i j k m n o p q r s t u v w x y z A B C D E F G H I J K L M; trim ((92,P)::(91,O)::(90,N)::l) l = [(0,a),(1,b),(2,c),(3,d),(4,e),(8,f),(9,g),(10,h),(12,i),(14,j),(15,k),(17,m),(18,n),(20,o),(21,p),(23,q),(28,r),(37,s),(45,t),(46,u),(47,v),(48,w),(49,x),(60,y),(62,z),(63,A),(64,B),(65,C),(76,D),(83,E),(84,F),(85,G),(86,H),(87,I),(90,N),(91,O),(92,P),(93,M)] := by intros; rfl
           refine R_nil (tr ..) ?_; clear tr
           refine then_n ?_
           refine at_block rfl ?_
           refine loop_n rfl (fun mm kv H' => ∃ c : Nat, ∃ p : AV, ∃ x20 x21 x23 x93 : AV, (kv = [(18, p), (20, x20), (21, x21), (23, x23), (92, AV.i c), (93, x93)]) ∧ (mm = ws.length - c) ∧ (hget H' H.length = some [btsAV l, bwsAV m]) ∧ (c ≤ ws.length) ∧ (OutI H4.length H' p ((coR l m ws balls (gt bs a)).take c)) ∧ (∀ b, b < H4.length → hget H' b = hget H4 b) ∧ (H4.length ≤ H'.length)) ⟨0, nilO, _, _, _, _, rfl, rfl, by exact q4, by omega, by exact .inl ⟨rfl, rfl⟩, by exact fun b hb => rfl, by exact Nat.le_refl _⟩ (by rfl) ?_
           rintro mm kv H5 ⟨c, p, x20, x21, x23, x93, rfl, rfl, q4, hcc, hI, hold, hlI⟩
           have tr : ∀ a b c d e f g h i j k m n o p q r s t u v w x y z A B C D E F G H I J K L M N O P Q R S : AV, upd [(0,a),(1,b),(2,c),(3,d),(4,e),(8,f),(9,g),(10,h),(12,i),(14,j),(15,k),(17,m),(18,n),(20,o),(21,p),(23,q),(28,r),(37,s),(45,t),(46,u),(47,v),(48,w),(49,x),(60,y),(62,z),(63,A),(64,B),(65,C),(76,D),(83,E),(84,F),(85,G),(86,H),(87,I),(90,J),(91,K),(92,L),(93,M)] [(18,N),(20,O),(21,P),(23,Q),(92,R),(93,S)] = [(0,a),(1,b),(2,c),(3,d),(4,e),(8,f),(9,g),(10,h),(12,i),(14,j),(15,k),(17,m),(18,N),(20,O),(21,P),(23,Q),(28,r),(37,s),(45,t),(46,u),(47,v),(48,w),(49,x),(60,y),(62,z),(63,A),(64,B),(65,C),(76,D),(83,E),(84,F),(85,G),(86,H),(87,I),(90,J),(91,K),(92,R),(93,S)] := by intros; rfl
           refine W_to (tr ..) ?_; clear tr
           have hbw := fun hc : c < ws.length => hbw0 c hc
           refine at_seq rfl ?_
           refine rg rfl ?_
           have hba2 : 0 ≤ gt bs a ∧ gt bs a < l.length := by have := hba (by omega); unfold badX at this; omega
           refine Rq ?_
           have tr : ∀ a b c d e f g h i j k m n o p q r s t u v w x y z A B C D E F G H I J K L M N : AV, let l := lc_costs6 a b c d e f g h i j k m n o p q r s t u v w x y z A B C D E F G H I J K L M; trim ((93,N)::l) l = [(0,a),(1,b),(2,c),(3,d),(4,e),(8,f),(9,g),(10,h),(12,i),(14,j),(15,k),(17,m),(18,n),(20,o),(21,p),(23,q),(28,r),(37,s),(45,t),(46,u),(47,v),(48,w),(49,x),(60,y),(62,z),(63,A),(64,B),(65,C),(76,D),(83,E),(84,F),(85,G),(86,H),(87,I),(90,J),(91,K),(92,L),(93,N)] := by intros; rfl
           refine R_nil (tr ..) ?_; clear tr
           refine then_n ?_
           refine at_seq rfl ?_
           refine cdd (fun h15 => ?_) (fun h15 => ?_)
           ·
            try simp only [decide_eq_true_eq, decide_eq_false_iff_not, Bool.not_eq_true', Bool.not_eq_false', beq_iff_eq, beq_eq_false_iff_ne, ne_eq] at h15
            refine at_skip rfl ?_
            refine then_n ?_
            refine at_seq rfl ?_
            refine at_block rfl ?_
            refine at_seq rfl ?_
            refine rg rfl ?_
            refine Rq ?_
            refine R_q rfl (by simp (disch := first | omega | (simp only [List.length_map, List.length_append, List.length_set, List.length_cons, List.length_nil]; omega)) only [go_sem, ↓reduceIte, Nat.reduceEqDiff, reduceCtorEq, q4] <;> rfl) ?_
            refine Rq ?_
            have tr : ∀ a b c d e f g h i j k m n o p q r s t u v w x y z A B C D E F G H I J K L M N O P : AV, let l := lc_costs6 a b c d e f g h i j k m n o p q r s t u v w x y z A B C D E F G H I J K L M; trim ((20,P)::(95,O)::(94,N)::l) l = [(0,a),(1,b),(2,c),(3,d),(4,e),(8,f),(9,g),(10,h),(12,i),(14,j),(15,k),(17,m),(18,n),(20,P),(21,p),(23,q),(28,r),(37,s),(45,t),(46,u),(47,v),(48,w),(49,x),(60,y),(62,z),(63,A),(64,B),(65,C),(76,D),(83,E),(84,F),(85,G),(86,H),(87,I),(90,J),(91,K),(92,L),(93,M)] := by intros; rfl
            refine R_nil (tr ..) ?_; clear tr
            refine then_n ?_
            refine at_seq rfl ?_
            refine rg rfl ?_
            refine R_q rfl (by simp (disch := first | omega | (simp only [List.length_map, List.length_append, List.length_set, List.length_cons, List.length_nil]; omega)) only [go_sem, ↓reduceIte, Nat.reduceEqDiff, reduceCtorEq, q4] <;> rfl) ?_
            refine Rq ?_
            refine Rq ?_
            refine Rcall ?_
            refine ACall_eq (ball14 _ _ l m hL hM hc (gt bs a) (gt ws c) (by omega) (by omega) (by have := hbw (by omega); omega) (by have := hbw (by omega); omega)) ?_
            refine Rq ?_
            refine Rq ?_
            refine Rq ?_
            refine Rq ?_
            refine Rq ?_
            have tr : ∀ a b c d e f g h i j k m n o p q r s t u v w x y z A B C D E F G H I J K L M N O P Q R S T U V : AV, let l := lc_costs6 a b c d e f g h i j k m n o p q r s t u v w x y z A B C D E F G H I J K L M; trim ((22,V)::(21,U)::(102,T)::(101,S)::(96,R)::(100,Q)::(99,P)::(98,O)::(97,N)::l) l = [(0,a),(1,b),(2,c),(3,d),(4,e),(8,f),(9,g),(10,h),(12,i),(14,j),(15,k),(17,m),(18,n),(20,o),(21,U),(23,q),(28,r),(37,s),(45,t),(46,u),(47,v),(48,w),(49,x),(60,y),(62,z),(63,A),(64,B),(65,C),(76,D),(83,E),(84,F),(85,G),(86,H),(87,I),(90,J),(91,K),(92,L),(93,M)] := by intros; rfl
            refine R_nil (tr ..) ?_; clear tr
            refine then_n ?_
            refine at_seq rfl ?_
            refine rg rfl ?_
            refine Rq ?_
            refine Rcall ?_
            refine ACall_eq (mean15 _ _ (shS (gt l (gt bs a).toNat).ds (gt m (gt ws c).toNat).sh)) ?_
            refine Rq ?_
            refine Rq ?_
            refine Rq ?_
            refine Rq ?_
            refine Rq ?_
            have tr : ∀ a b c d e f g h i j k m n o p q r s t u v w x y z A B C D E F G H I J K L M N O P Q R S T : AV, let l := lc_costs6 a b c d e f g h i j k m n o p q r s t u v w x y z A B C D E F G H I J K L M; trim ((24,T)::(23,S)::(107,R)::(106,Q)::(103,P)::(105,O)::(104,N)::l) l = [(0,a),(1,b),(2,c),(3,d),(4,e),(8,f),(9,g),(10,h),(12,i),(14,j),(15,k),(17,m),(18,n),(20,o),(21,p),(23,S),(28,r),(37,s),(45,t),(46,u),(47,v),(48,w),(49,x),(60,y),(62,z),(63,A),(64,B),(65,C),(76,D),(83,E),(84,F),(85,G),(86,H),(87,I),(90,J),(91,K),(92,L),(93,M)] := by intros; rfl
            refine R_nil (tr ..) ?_; clear tr
            refine then_n ?_
            refine rg rfl ?_
            have hmb := mean_box (shS (gt l (gt bs a).toNat).ds (gt m (gt ws c).toNat).sh)
            have hmp := Int.mul_le_mul (show balls ≤ 8 by omega) hmb.2 hmb.1 (by omega)
            have hmq := Int.mul_nonneg (show 0 ≤ balls by omega) hmb.1
            refine Rq ?_
            refine Rq ?_
            refine Rq ?_
            refine Rq ?_
            refine A_buildSlice (bs36 _ _ _ _ (balls * (meanS (shS (gt l (gt bs a).toNat).ds (gt m (gt ws c).toNat).sh)).1) (by simp (disch := first | omega | (simp only [List.length_map, List.length_append, List.length_set, List.length_cons, List.length_nil]; omega)) only [go_sem, ↓reduceIte, Nat.reduceEqDiff, reduceCtorEq] <;> rfl)) ?_
            intro H6 n6
            have en6 := n6.len
            have q6 := n6.new
            have q4 := (n6.old _ (hget_lt q4)).trans q4
            have hI := hI.mono fun b hb k hk => (n6.old _ (hget_lt hk)).trans hk
            obtain ⟨H8, hap, hI8, hlen8, hk8⟩ := outI_app (lim := H.length) hI q6 (by omega) (by omega) (by have := List.length_take_le c (coR l m ws balls (gt bs a)); omega)
            refine R_append (by simp (disch := first | omega | (simp only [List.length_map, List.length_append, List.length_set, List.length_cons, List.length_nil]; omega)) only [go_sem, ↓reduceIte, Nat.reduceEqDiff, reduceCtorEq]; exact hap) ?_
            have q4 := (hk8 _ (by omega)).trans q4
            have hold8 : ∀ b, b < H4.length → hget H8 b = hget H4 b := fun b hb => (hk8 b hb).trans ((n6.old b (by omega)).trans (hold b hb))
            have hl8 : H4.length ≤ H8.length := by omega
            refine Rq ?_
            have tr : ∀ a b c d e f g h i j k m n o p q r s t u v w x y z A B C D E F G H I J K L M N O P Q R S T : AV, let l := lc_costs6 a b c d e f g h i j k m n o p q r s t u v w x y z A B C D E F G H I J K L M; trim ((18,T)::(113,S)::(112,R)::(111,Q)::(110,P)::(109,O)::(108,N)::l) l = [(0,a),(1,b),(2,c),(3,d),(4,e),(8,f),(9,g),(10,h),(12,i),(14,j),(15,k),(17,m),(18,T),(20,o),(21,p),(23,q),(28,r),(37,s),(45,t),(46,u),(47,v),(48,w),(49,x),(60,y),(62,z),(63,A),(64,B),(65,C),(76,D),(83,E),(84,F),(85,G),(86,H),(87,I),(90,J),(91,K),(92,L),(93,M)] := by intros; rfl
            refine R_nil (tr ..) ?_; clear tr
            refine blk_n ?_
            refine then_n ?_
            refine rg rfl ?_
            refine Rq ?_
            refine Rq ?_
            have tr : ∀ a b c d e f g h i j k m n o p q r s t u v w x y z A B C D E F G H I J K L M N O : AV, let l := lc_costs6 a b c d e f g h i j k m n o p q r s t u v w x y z A B C D E F G H I J K L M; trim ((92,O)::(114,N)::l) l = [(0,a),(1,b),(2,c),(3,d),(4,e),(8,f),(9,g),(10,h),(12,i),(14,j),(15,k),(17,m),(18,n),(20,o),(21,p),(23,q),(28,r),(37,s),(45,t),(46,u),(47,v),(48,w),(49,x),(60,y),(62,z),(63,A),(64,B),(65,C),(76,D),(83,E),(84,F),(85,G),(86,H),(87,I),(90,J),(91,K),(92,O),(93,M)] := by intros; rfl
            refine R_nil (tr ..) ?_; clear tr
            refine then_n ?_
            exact ⟨_, _, ⟨c + 1, _, _, _, _, _, rfl, rfl, by exact q4, by omega, by rw [coR_step (by omega)]; exact hI8, by exact hold8, by exact hl8⟩, by rfl, by omega⟩
           ·
            try simp only [decide_eq_true_eq, decide_eq_false_iff_not, Bool.not_eq_true', Bool.not_eq_false', beq_iff_eq, beq_eq_false_iff_ne, ne_eq] at h15
            refine at_exit rfl ?_
            refine then_x ?_
            refine then_x ?_
            refine blk_x ?_
            refine then_n ?_
            refine rg rfl ?_
            have e16 : (coR l m ws balls (gt bs a)).take c = (coR l m ws balls (gt bs a)) := List.take_of_length_le (by rw [coR_len]; omega)
            rewrite [e16] at hI
            obtain ⟨hr0, br, rfl, hbr, qr⟩ := hI.resolve_left (fun hh => by have h7 := congrArg List.length hh.1; rw [coR_len, List.length_nil] at h7; omega)
            have hR := hR.mono fun b hb k hk => (hold b (hget_lt hk)).trans hk
            refine Rq ?_
            refine Rq ?_
            refine A_buildSlice (bs32 _ _ _ _ br (coR l m ws balls (gt bs a)).length (by simp (disch := first | omega | (simp only [List.length_map, List.length_append, List.length_set, List.length_cons, List.length_nil]; omega)) only [go_sem, ↓reduceIte, Nat.reduceEqDiff, reduceCtorEq] <;> rfl)) ?_
            intro H9 n9
            have en9 := n9.len
            have q9 := n9.new
            have q4 := (n9.old _ (hget_lt q4)).trans q4
            have qr := (n9.old _ (hget_lt qr)).trans qr
            have hR := hR.mono fun b hb k hk => (n9.old _ (hget_lt hk)).trans hk
            obtain ⟨HB, hap, hR2, hlenB, hkB⟩ := outR_app (lim := H.length) hR q9 qr hr0 (by omega) (by omega) (by omega) (by have := List.length_take_le a (coV l m bs ws balls); omega)
            refine R_append (by simp (disch := first | omega | (simp only [List.length_map, List.length_append, List.length_set, List.length_cons, List.length_nil]; omega)) only [go_sem, ↓reduceIte, Nat.reduceEqDiff, reduceCtorEq]; exact hap) ?_
            have q4 := (hkB _ (by omega)).trans q4
            have hR := hR2
            refine Rq ?_
            have tr : ∀ a b c d e f g h i j k m n o p q r s t u v w x y z A B C D E F G H I J K L M N O P Q R : AV, let l := lc_costs6 a b c d e f g h i j k m n o p q r s t u v w x y z A B C D E F G H I J K L M; trim ((15,R)::(118,Q)::(117,P)::(116,O)::(115,N)::l) l = [(0,a),(1,b),(2,c),(3,d),(4,e),(8,f),(9,g),(10,h),(12,i),(14,j),(15,R),(17,m),(18,n),(20,o),(21,p),(23,q),(28,r),(37,s),(45,t),(46,u),(47,v),(48,w),(49,x),(60,y),(62,z),(63,A),(64,B),(65,C),(76,D),(83,E),(84,F),(85,G),(86,H),(87,I),(90,J),(91,K),(92,L),(93,M)] := by intros; rfl
            refine R_nil (tr ..) ?_; clear tr
            refine blk_n ?_
            refine then_n ?_
            refine rg rfl ?_
            refine Rq ?_
            refine Rq ?_
            have tr : ∀ a b c d e f g h i j k m n o p q r s t u v w x y z A B C D E F G H I J K L M N O : AV, let l := lc_costs6 a b c d e f g h i j k m n o p q r s t u v w x y z A B C D E F G H I J K L M; trim ((86,O)::(119,N)::l) l = [(0,a),(1,b),(2,c),(3,d),(4,e),(8,f),(9,g),(10,h),(12,i),(14,j),(15,k),(17,m),(18,n),(20,o),(21,p),(23,q),(28,r),(37,s),(45,t),(46,u),(47,v),(48,w),(49,x),(60,y),(62,z),(63,A),(64,B),(65,C),(76,D),(83,E),(84,F),(85,G),(86,O),(87,I),(90,J),(91,K),(92,L),(93,M)] := by intros; rfl
            refine R_nil (tr ..) ?_; clear tr
            refine then_n ?_
            exact ⟨_, _, ⟨a + 1, _, _, _, _, _, _, _, _, _, _, _, rfl, rfl, by exact q4, by omega, by rw [coV_step (by omega)]; exact hR, by exact hget_lt q4⟩, by rfl, by omega⟩
          ·
           try simp only [decide_eq_true_eq, decide_eq_false_iff_not, Bool.not_eq_true', Bool.not_eq_false', beq_iff_eq, beq_eq_false_iff_ne, ne_eq] at h14
           refine at_exit rfl ?_
           refine then_x ?_
           refine then_x ?_
           refine blk_x ?_
           refine then_n ?_
           refine at_seq rfl ?_
           refine rg rfl ?_
           refine Rq ?_
           refine Rq ?_
           refine Rq ?_
           have tr : ∀ a b c d e f g h i j k m n o p q r s t u v w x y z A B C D E F G H I J K L M N O P : AV, let l := lc_costs6 a b c d e f g h i j k m n o p q r s t u v w x y z A B C D E F G H I J K L M; trim ((9,P)::(8,O)::(120,N)::l) l = [(0,a),(1,b),(2,c),(3,d),(4,e),(8,O),(9,P),(10,h),(12,i),(14,j),(15,k),(17,m),(18,n),(20,o),(21,p),(23,q),(28,r),(37,s),(45,t),(46,u),(47,v),(48,w),(49,x),(60,y),(62,z),(63,A),(64,B),(65,C),(76,D),(83,E),(84,F),(85,G),(86,H),(87,I),(90,J),(91,K),(92,L),(93,M)] := by intros; rfl
           refine R_nil (tr ..) ?_; clear tr
           refine then_n ?_
           refine at_ret rfl ?_
           refine fpure ?_
           refine ⟨?_, rfl⟩
           have he : coE l m bs ws balls = 0 := (by rw [coE, if_neg (fun hh => hh hc), if_neg (by omega), if_neg (by omega), if_neg (fun ⟨i, hi, hbi⟩ => hb i (by omega) hbi), if_neg (fun ⟨i, hi, hbi⟩ => hw i (by omega) hbi), if_neg (by omega)])
           have e17 : (coV l m bs ws balls).take a = (coV l m bs ws balls) := List.take_of_length_le (by rw [coV_len]; omega)
           rw [e17] at hR
           rw [coA, if_neg (fun hh => hh he), he]
           exact congrArg (fun z => AV.tup [z, AV.i 0]) ((hR.mono2 (by omega)).frz (fun hh => by have h7 := congrArg List.length hh; rw [coV_len, List.length_nil] at h7; omega))

end Go.Proofs.Ytplockpopmaejaa
end
