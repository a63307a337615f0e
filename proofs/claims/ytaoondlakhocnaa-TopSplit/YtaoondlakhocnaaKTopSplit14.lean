/-
  What is proved: TopSplit returns true for every input, and each argument reads behind the call as it read before. No conditions. (The step from the walk to the row, written by program.)
-/
import Derived.Test.YtaoondlakhocnaaKTopSplit10
import Derived.Test.YtaoondlakhocnaaKTopSplit11
import Derived.Test.YtaoondlakhocnaaKTopSplit12
import Derived.Test.YtaoondlakhocnaaKTopSplit13
import Derived.Test.YtaoondlakhocnaaKTopSplit3
import Derived.ProofKit
import Derived.ChangeArms
import Derived.DataReads
import Derived.OpenShut
import Derived.WideShapes
import Derived.KernelRfl
import Derived.Test.YtaoondlakhocnaaKTopSplit8
import Derived.Test.YtaoondlakhocnaaRows
import Derived.ChangeOld
import Derived.Below
section
set_option linter.unusedSimpArgs false
set_option linter.unusedVariables false
set_option maxHeartbeats 40000000
set_option maxRecDepth 4000
namespace Go.Proofs.Ytaoondlakhocnaa
open Go Go.Am

abbrev lc_topsplit_ok (a b c d e f g h i j k m n o p q r s t u v w x y z A B C D E F G : AV) : Env := [(0,a),(1,b),(2,c),(3,d),(4,e),(5,f),(6,g),(7,h),(9,i),(10,j),(11,k),(12,m),(13,n),(14,o),(15,p),(16,q),(17,r),(19,s),(20,t),(21,u),(22,v),(23,w),(24,x),(25,y),(27,z),(42,A),(51,B),(101,C),(102,D),(103,E),(104,F),(159,G)]
theorem topsplit_ok (lim : Nat) (H : Heap) (rows : Tb) (per tot wth balls : Int) (l m : List Stp) (c1 c2 : List Int) (x y z : Int) : ACall sig lim 3 [.agg [rowsAV rows, AV.i per, AV.i tot, AV.i wth, AV.i balls, stopsAV l, stopsAV m], .agg [rowAV c1, rowAV c2], .agg [AV.i x, AV.i y, AV.i z]] H fun r _ => r = .v (.bool true) := by
 have q3 : True := trivial
 have q4 : True := trivial
 have q5 : True := trivial
 have q7 : True := trivial
 have q10 : True := trivial
 have q11 : True := trivial
 have q16 : True := trivial
 have q19 : True := trivial
 refine ACall_pure (fa := fa3) rfl rfl rfl rfl ?_
 have tr : ∀ a0 a1 a2 : AV, env0 fa3.keep [a0, a1, a2] = [(0,a0),(1,a1),(2,a2),(3,.any),(4,.any),(5,.any),(6,.any),(7,.any),(9,.any),(10,.any),(11,.any),(12,.any),(13,.any),(14,.any),(15,.any),(16,.any),(17,.any),(19,.any),(20,.any),(21,.any),(22,.any),(23,.any),(24,.any),(25,.any),(27,.any),(42,.any),(51,.any),(101,.any),(102,.any),(103,.any),(104,.any),(159,.any)] := fun a0 a1 a2 => rfl
 refine W_to (tr _ _ _) ?_; clear tr
 refine at_seq rfl ?_
 refine rg rfl ?_
 refine A_box rfl (by simp (disch := first | omega | (simp only [List.length_map, List.length_append, List.length_set, List.length_cons, List.length_nil]; omega)) only [go_sem, ↓reduceIte, Nat.reduceEqDiff, reduceCtorEq] <;> rfl) ?_
 intro H1 n0
 have en0 := n0.len
 have q3 := n0.new
 refine A_box rfl (by simp (disch := first | omega | (simp only [List.length_map, List.length_append, List.length_set, List.length_cons, List.length_nil]; omega)) only [go_sem, ↓reduceIte, Nat.reduceEqDiff, reduceCtorEq, q3] <;> rfl) ?_
 intro H2 n1
 have en1 := n1.len
 have q3 := (n1.old _ (hget_lt q3)).trans q3
 have q4 := n1.new
 refine A_box rfl (by simp (disch := first | omega | (simp only [List.length_map, List.length_append, List.length_set, List.length_cons, List.length_nil]; omega)) only [go_sem, ↓reduceIte, Nat.reduceEqDiff, reduceCtorEq, q3, q4] <;> rfl) ?_
 intro H3 n2
 have en2 := n2.len
 have q3 := (n2.old _ (hget_lt q3)).trans q3
 have q4 := (n2.old _ (hget_lt q4)).trans q4
 have q5 := n2.new
 refine Rq ?_
 have tr : ∀ a b c d e f g h i j k m n o p q r s t u v w x y z A B C D E F G H I J K : AV, let l := lc_topsplit_ok a b c d e f g h i j k m n o p q r s t u v w x y z A B C D E F G; trim ((6,K)::(5,J)::(4,I)::(3,H)::l) l = [(0,a),(1,b),(2,c),(3,H),(4,I),(5,J),(6,K),(7,h),(9,i),(10,j),(11,k),(12,m),(13,n),(14,o),(15,p),(16,q),(17,r),(19,s),(20,t),(21,u),(22,v),(23,w),(24,x),(25,y),(27,z),(42,A),(51,B),(101,C),(102,D),(103,E),(104,F),(159,G)] := by intros; rfl
 refine R_nil (tr ..) ?_; clear tr
 refine then_n ?_
 refine at_seq rfl ?_
 refine at_seq rfl ?_
 refine rg rfl ?_
 refine Rcall ?_
 refine ACall_eval 300 (awake20 _ _) ?_
 refine Rq ?_
 have tr : ∀ a b c d e f g h i j k m n o p q r s t u v w x y z A B C D E F G H I : AV, let l := lc_topsplit_ok a b c d e f g h i j k m n o p q r s t u v w x y z A B C D E F G; trim ((27,I)::(26,H)::l) l = [(0,a),(1,b),(2,c),(3,d),(4,e),(5,f),(6,g),(7,h),(9,i),(10,j),(11,k),(12,m),(13,n),(14,o),(15,p),(16,q),(17,r),(19,s),(20,t),(21,u),(22,v),(23,w),(24,x),(25,y),(27,I),(42,A),(51,B),(101,C),(102,D),(103,E),(104,F),(159,G)] := by intros; rfl
 refine R_nil (tr ..) ?_; clear tr
 refine then_n ?_
 refine cdf ?_
 refine at_skip rfl ?_
 refine then_n ?_
 refine at_seq rfl ?_
 refine at_seq rfl ?_
 refine rg rfl ?_
 refine R_q rfl (by simp (disch := first | omega | (simp only [List.length_map, List.length_append, List.length_set, List.length_cons, List.length_nil]; omega)) only [go_sem, ↓reduceIte, Nat.reduceEqDiff, reduceCtorEq, q3, q4, q5, q7, q10, q11, q16, q19] <;> rfl) ?_
 refine Rcall ?_
 refine ACall_mono (small20_ok _ _ rows per tot wth balls l m) ?_
 rintro r H3 ⟨⟨b, rfl, hbl⟩, rfl⟩
 refine Rq ?_
 refine Rq ?_
 refine Rp_split (fun h1 => ?_) (fun h1 => ?_)
 ·
  try simp only [decide_eq_true_eq, decide_eq_false_iff_not, Bool.not_eq_true', Bool.not_eq_false', beq_iff_eq, beq_eq_false_iff_ne, ne_eq] at h1
  refine Rn ?_
  refine Rn ?_
  refine Rn ?_
  refine Rn ?_
  refine Rq ?_
  refine Rq ?_
  refine Rn ?_
  refine Rn ?_
  refine Rn ?_
  refine Rn ?_
  refine Rq ?_
  have tr : ∀ a b c d e f g h i j k m n o p q r s t u v w x y z A B C D E F G H I J K L M N O P Q R S T U V : AV, let l := lc_topsplit_ok a b c d e f g h i j k m n o p q r s t u v w x y z A B C D E F G; trim ((42,V)::(41,U)::(40,T)::(39,S)::(38,R)::(37,Q)::(36,P)::(35,O)::(34,N)::(33,M)::(32,L)::(31,K)::(30,J)::(29,I)::(28,H)::l) l = [(0,a),(1,b),(2,c),(3,d),(4,e),(5,f),(6,g),(7,h),(9,i),(10,j),(11,k),(12,m),(13,n),(14,o),(15,p),(16,q),(17,r),(19,s),(20,t),(21,u),(22,v),(23,w),(24,x),(25,y),(27,z),(42,V),(51,B),(101,C),(102,D),(103,E),(104,F),(159,G)] := by intros; rfl
  refine R_nil (tr ..) ?_; clear tr
  refine then_n ?_
  refine cdt ?_
  refine at_seq rfl ?_
  refine rg rfl ?_
  refine Rq ?_
  have tr : ∀ a b c d e f g h i j k m n o p q r s t u v w x y z A B C D E F G H : AV, let l := lc_topsplit_ok a b c d e f g h i j k m n o p q r s t u v w x y z A B C D E F G; trim ((6,H)::l) l = [(0,a),(1,b),(2,c),(3,d),(4,e),(5,f),(6,H),(7,h),(9,i),(10,j),(11,k),(12,m),(13,n),(14,o),(15,p),(16,q),(17,r),(19,s),(20,t),(21,u),(22,v),(23,w),(24,x),(25,y),(27,z),(42,A),(51,B),(101,C),(102,D),(103,E),(104,F),(159,G)] := by intros; rfl
  refine R_nil (tr ..) ?_; clear tr
  refine then_n ?_
  refine at_ret rfl ?_
  refine then_r ?_
  refine fpure ?_
  first | rfl | (simp; done)
 ·
  try simp only [decide_eq_true_eq, decide_eq_false_iff_not, Bool.not_eq_true', Bool.not_eq_false', beq_iff_eq, beq_eq_false_iff_ne, ne_eq] at h1
  refine Ry ?_
  refine Rq ?_
  refine Ry ?_
  refine R_q rfl (by simp (disch := first | omega | (simp only [List.length_map, List.length_append, List.length_set, List.length_cons, List.length_nil]; omega)) only [go_sem, ↓reduceIte, Nat.reduceEqDiff, reduceCtorEq, q3, q4, q5, q7, q10, q11, q16, q19] <;> rfl) ?_
  refine Ry ?_
  refine Rq ?_
  refine Ry ?_
  refine Rq ?_
  refine Rq ?_
  refine Rq ?_
  refine Rp_split (fun h2 => ?_) (fun h2 => ?_)
  ·
   try simp only [decide_eq_true_eq, decide_eq_false_iff_not, Bool.not_eq_true', Bool.not_eq_false', beq_iff_eq, beq_eq_false_iff_ne, ne_eq] at h2
   refine Rn ?_
   refine Rn ?_
   refine Rn ?_
   refine Rn ?_
   refine Rq ?_
   have tr : ∀ a b c d e f g h i j k m n o p q r s t u v w x y z A B C D E F G H I J K L M N O P Q R S T U V : AV, let l := lc_topsplit_ok a b c d e f g h i j k m n o p q r s t u v w x y z A B C D E F G; trim ((42,V)::(41,U)::(40,T)::(39,S)::(38,R)::(37,Q)::(36,P)::(35,O)::(34,N)::(33,M)::(32,L)::(31,K)::(30,J)::(29,I)::(28,H)::l) l = [(0,a),(1,b),(2,c),(3,d),(4,e),(5,f),(6,g),(7,h),(9,i),(10,j),(11,k),(12,m),(13,n),(14,o),(15,p),(16,q),(17,r),(19,s),(20,t),(21,u),(22,v),(23,w),(24,x),(25,y),(27,z),(42,V),(51,B),(101,C),(102,D),(103,E),(104,F),(159,G)] := by intros; rfl
   refine R_nil (tr ..) ?_; clear tr
   refine then_n ?_
   refine cdt ?_
   refine at_seq rfl ?_
   refine rg rfl ?_
   refine Rq ?_
   have tr : ∀ a b c d e f g h i j k m n o p q r s t u v w x y z A B C D E F G H : AV, let l := lc_topsplit_ok a b c d e f g h i j k m n o p q r s t u v w x y z A B C D E F G; trim ((6,H)::l) l = [(0,a),(1,b),(2,c),(3,d),(4,e),(5,f),(6,H),(7,h),(9,i),(10,j),(11,k),(12,m),(13,n),(14,o),(15,p),(16,q),(17,r),(19,s),(20,t),(21,u),(22,v),(23,w),(24,x),(25,y),(27,z),(42,A),(51,B),(101,C),(102,D),(103,E),(104,F),(159,G)] := by intros; rfl
   refine R_nil (tr ..) ?_; clear tr
   refine then_n ?_
   refine at_ret rfl ?_
   refine then_r ?_
   refine fpure ?_
   first | rfl | (simp; done)
  ·
   try simp only [decide_eq_true_eq, decide_eq_false_iff_not, Bool.not_eq_true', Bool.not_eq_false', beq_iff_eq, beq_eq_false_iff_ne, ne_eq] at h2
   refine Ry ?_
   refine Rq ?_
   refine Ry ?_
   refine R_q rfl (by simp (disch := first | omega | (simp only [List.length_map, List.length_append, List.length_set, List.length_cons, List.length_nil]; omega)) only [go_sem, ↓reduceIte, Nat.reduceEqDiff, reduceCtorEq, q3, q4, q5, q7, q10, q11, q16, q19] <;> rfl) ?_
   refine Ry ?_
   refine Rq ?_
   refine Ry ?_
   refine Rq ?_
   refine Rq ?_
   have tr : ∀ a b c d e f g h i j k m n o p q r s t u v w x y z A B C D E F G H I J K L M N O P Q R S T U V : AV, let l := lc_topsplit_ok a b c d e f g h i j k m n o p q r s t u v w x y z A B C D E F G; trim ((42,V)::(41,U)::(40,T)::(39,S)::(38,R)::(37,Q)::(36,P)::(35,O)::(34,N)::(33,M)::(32,L)::(31,K)::(30,J)::(29,I)::(28,H)::l) l = [(0,a),(1,b),(2,c),(3,d),(4,e),(5,f),(6,g),(7,h),(9,i),(10,j),(11,k),(12,m),(13,n),(14,o),(15,p),(16,q),(17,r),(19,s),(20,t),(21,u),(22,v),(23,w),(24,x),(25,y),(27,z),(42,V),(51,B),(101,C),(102,D),(103,E),(104,F),(159,G)] := by intros; rfl
   refine R_nil (tr ..) ?_; clear tr
   refine then_n ?_
   refine cdd (fun h3 => ?_) (fun h3 => ?_)
   ·
    try simp only [decide_eq_true_eq, decide_eq_false_iff_not, Bool.not_eq_true', Bool.not_eq_false', beq_iff_eq, beq_eq_false_iff_ne, ne_eq] at h3
    refine at_seq rfl ?_
    refine rg rfl ?_
    refine Rq ?_
    have tr : ∀ a b c d e f g h i j k m n o p q r s t u v w x y z A B C D E F G H : AV, let l := lc_topsplit_ok a b c d e f g h i j k m n o p q r s t u v w x y z A B C D E F G; trim ((6,H)::l) l = [(0,a),(1,b),(2,c),(3,d),(4,e),(5,f),(6,H),(7,h),(9,i),(10,j),(11,k),(12,m),(13,n),(14,o),(15,p),(16,q),(17,r),(19,s),(20,t),(21,u),(22,v),(23,w),(24,x),(25,y),(27,z),(42,A),(51,B),(101,C),(102,D),(103,E),(104,F),(159,G)] := by intros; rfl
    refine R_nil (tr ..) ?_; clear tr
    refine then_n ?_
    refine at_ret rfl ?_
    refine then_r ?_
    refine fpure ?_
    first | rfl | (simp; done)
   ·
    try simp only [decide_eq_true_eq, decide_eq_false_iff_not, Bool.not_eq_true', Bool.not_eq_false', beq_iff_eq, beq_eq_false_iff_ne, ne_eq] at h3
    refine at_skip rfl ?_
    refine then_n ?_
    refine at_seq rfl ?_
    refine rg rfl ?_
    obtain ⟨hl8, hm8⟩ := hbl (by assumption)
    refine R_q rfl (by simp (disch := first | omega | (simp only [List.length_map, List.length_append, List.length_set, List.length_cons, List.length_nil]; omega)) only [go_sem, ↓reduceIte, Nat.reduceEqDiff, reduceCtorEq, q3, q4, q5, q7, q10, q11, q16, q19] <;> rfl) ?_
    refine Rcall ?_
    refine ACall_eq (of20_gen _ _ rows per tot wth balls (stopsAV l) (stopsAV m) rfl rfl rfl rfl (fun _ => frz_stops _ _ _ _) (fun _ => frz_stops _ _ _ _)) ?_
    refine A_alloc rfl ?_
    intro H4 n3
    have en3 := n3.len
    have q3 := (n3.old _ (hget_lt q3)).trans q3
    have q4 := (n3.old _ (hget_lt q4)).trans q4
    have q5 := (n3.old _ (hget_lt q5)).trans q5
    have q7 := n3.new
    have lq3 := hget_lt q3
    have lq4 := hget_lt q4
    have lq5 := hget_lt q5
    have lq7 := hget_lt q7
    refine A_store ty34 (by simp (disch := first | omega | (simp only [List.length_map, List.length_append, List.length_set, List.length_cons, List.length_nil]; omega)) only [go_sem, ↓reduceIte, Nat.reduceEqDiff, reduceCtorEq, q3, q4, q5, q7] <;> rfl) (by simp (disch := first | omega | (simp only [List.length_map, List.length_append, List.length_set, List.length_cons, List.length_nil]; omega)) only [go_sem, ↓reduceIte, Nat.reduceEqDiff, reduceCtorEq, q3, q4, q5, q7] <;> rfl) q7 ⟨by omega, rfl, by first | exact Nat.le_refl _ | (show _ ≤ 7; decide)⟩ (k' := [rowsAV rows, AV.i per, AV.i tot, AV.i wth, AV.i balls, stopsAV l, stopsAV m]) rfl ?_
    intro H5 w4
    have ew4 := w4.len
    have q3 := (w4.old _ (by omega)).trans q3
    have q4 := (w4.old _ (by omega)).trans q4
    have q5 := (w4.old _ (by omega)).trans q5
    have q7 := w4.new
    have tr : ∀ a b c d e f g h i j k m n o p q r s t u v w x y z A B C D E F G H I J : AV, let l := lc_topsplit_ok a b c d e f g h i j k m n o p q r s t u v w x y z A B C D E F G; trim ((7,J)::(44,I)::(43,H)::l) l = [(0,a),(1,b),(2,c),(3,d),(4,e),(5,f),(6,g),(7,J),(9,i),(10,j),(11,k),(12,m),(13,n),(14,o),(15,p),(16,q),(17,r),(19,s),(20,t),(21,u),(22,v),(23,w),(24,x),(25,y),(27,z),(42,A),(51,B),(101,C),(102,D),(103,E),(104,F),(159,G)] := by intros; rfl
    refine R_nil (tr ..) ?_; clear tr
    refine then_n ?_
    refine at_seq rfl ?_
    refine at_seq rfl ?_
    refine rg rfl ?_
    refine R_q rfl (by simp (disch := first | omega | (simp only [List.length_map, List.length_append, List.length_set, List.length_cons, List.length_nil]; omega)) only [go_sem, ↓reduceIte, Nat.reduceEqDiff, reduceCtorEq, q3, q4, q5, q7, q10, q11, q16, q19] <;> rfl) ?_
    refine Rcall ?_
    refine ACall_eq (tgt_any _ _ rows per tot wth balls l m _ _ (.inl rfl) (.inl rfl)) ?_
    refine Rq ?_
    refine Rq ?_
    refine Rq ?_
    refine Rq ?_
    refine Rq ?_
    have tr : ∀ a b c d e f g h i j k m n o p q r s t u v w x y z A B C D E F G H I J K L M N : AV, let l := lc_topsplit_ok a b c d e f g h i j k m n o p q r s t u v w x y z A B C D E F G; trim ((9,N)::(8,M)::(49,L)::(48,K)::(45,J)::(47,I)::(46,H)::l) l = [(0,a),(1,b),(2,c),(3,d),(4,e),(5,f),(6,g),(7,h),(9,N),(10,j),(11,k),(12,m),(13,n),(14,o),(15,p),(16,q),(17,r),(19,s),(20,t),(21,u),(22,v),(23,w),(24,x),(25,y),(27,z),(42,A),(51,B),(101,C),(102,D),(103,E),(104,F),(159,G)] := by intros; rfl
    refine R_nil (tr ..) ?_; clear tr
    refine then_n ?_
    refine at_seq rfl ?_
    refine rg rfl ?_
    refine Rq ?_
    refine Rq ?_
    have tr : ∀ a b c d e f g h i j k m n o p q r s t u v w x y z A B C D E F G H I : AV, let l := lc_topsplit_ok a b c d e f g h i j k m n o p q r s t u v w x y z A B C D E F G; trim ((51,I)::(50,H)::l) l = [(0,a),(1,b),(2,c),(3,d),(4,e),(5,f),(6,g),(7,h),(9,i),(10,j),(11,k),(12,m),(13,n),(14,o),(15,p),(16,q),(17,r),(19,s),(20,t),(21,u),(22,v),(23,w),(24,x),(25,y),(27,z),(42,A),(51,I),(101,C),(102,D),(103,E),(104,F),(159,G)] := by intros; rfl
    refine R_nil (tr ..) ?_; clear tr
    refine then_n ?_
    refine cdd (fun h4 => ?_) (fun h4 => ?_)
    ·
     try simp only [decide_eq_true_eq, decide_eq_false_iff_not, Bool.not_eq_true', Bool.not_eq_false', beq_iff_eq, beq_eq_false_iff_ne, ne_eq] at h4
     refine at_seq rfl ?_
     refine rg rfl ?_
     refine Rq ?_
     have tr : ∀ a b c d e f g h i j k m n o p q r s t u v w x y z A B C D E F G H : AV, let l := lc_topsplit_ok a b c d e f g h i j k m n o p q r s t u v w x y z A B C D E F G; trim ((6,H)::l) l = [(0,a),(1,b),(2,c),(3,d),(4,e),(5,f),(6,H),(7,h),(9,i),(10,j),(11,k),(12,m),(13,n),(14,o),(15,p),(16,q),(17,r),(19,s),(20,t),(21,u),(22,v),(23,w),(24,x),(25,y),(27,z),(42,A),(51,B),(101,C),(102,D),(103,E),(104,F),(159,G)] := by intros; rfl
     refine R_nil (tr ..) ?_; clear tr
     refine then_n ?_
     refine at_ret rfl ?_
     refine then_r ?_
     refine fpure ?_
     first | rfl | (simp; done)
    ·
     try simp only [decide_eq_true_eq, decide_eq_false_iff_not, Bool.not_eq_true', Bool.not_eq_false', beq_iff_eq, beq_eq_false_iff_ne, ne_eq] at h4
     refine at_skip rfl ?_
     refine then_n ?_
     refine at_seq rfl ?_
     refine rg rfl ?_
     have ht : (tgtS rows per tot wth balls l m).2 = 0 := by assumption
     obtain ⟨kL, kM⟩ := lefts_of ht
     refine R_q rfl (by simp (disch := first | omega | (simp only [List.length_map, List.length_append, List.length_set, List.length_cons, List.length_nil]; omega)) only [go_sem, ↓reduceIte, Nat.reduceEqDiff, reduceCtorEq, q3, q4, q5, q7, q10, q11, q16, q19] <;> rfl) ?_
     refine A_alloc rfl ?_
     intro H6 n5
     have en5 := n5.len
     have q3 := (n5.old _ (hget_lt q3)).trans q3
     have q4 := (n5.old _ (hget_lt q4)).trans q4
     have q5 := (n5.old _ (hget_lt q5)).trans q5
     have q7 := (n5.old _ (hget_lt q7)).trans q7
     have q10 := n5.new
     have lq3 := hget_lt q3
     have lq4 := hget_lt q4
     have lq5 := hget_lt q5
     have lq7 := hget_lt q7
     have lq10 := hget_lt q10
     refine A_store ty34 (by simp (disch := first | omega | (simp only [List.length_map, List.length_append, List.length_set, List.length_cons, List.length_nil]; omega)) only [go_sem, ↓reduceIte, Nat.reduceEqDiff, reduceCtorEq, q3, q4, q5, q7, q10] <;> rfl) (by simp (disch := first | omega | (simp only [List.length_map, List.length_append, List.length_set, List.length_cons, List.length_nil]; omega)) only [go_sem, ↓reduceIte, Nat.reduceEqDiff, reduceCtorEq, q3, q4, q5, q7, q10] <;> rfl) q10 ⟨by omega, rfl, by first | exact Nat.le_refl _ | (show _ ≤ 7; decide)⟩ (k' := [rowsAV rows, AV.i per, AV.i tot, AV.i wth, AV.i balls, stopsAV l, stopsAV m]) rfl ?_
     intro H7 w6
     have ew6 := w6.len
     have q3 := (w6.old _ (by omega)).trans q3
     have q4 := (w6.old _ (by omega)).trans q4
     have q5 := (w6.old _ (by omega)).trans q5
     have q7 := (w6.old _ (by omega)).trans q7
     have q10 := w6.new
     have tr : ∀ a b c d e f g h i j k m n o p q r s t u v w x y z A B C D E F G H I : AV, let l := lc_topsplit_ok a b c d e f g h i j k m n o p q r s t u v w x y z A B C D E F G; trim ((10,I)::(52,H)::l) l = [(0,a),(1,b),(2,c),(3,d),(4,e),(5,f),(6,g),(7,h),(9,i),(10,I),(11,k),(12,m),(13,n),(14,o),(15,p),(16,q),(17,r),(19,s),(20,t),(21,u),(22,v),(23,w),(24,x),(25,y),(27,z),(42,A),(51,B),(101,C),(102,D),(103,E),(104,F),(159,G)] := by intros; rfl
     refine R_nil (tr ..) ?_; clear tr
     refine then_n ?_
     refine at_seq rfl ?_
     refine rls2 rfl rfl ?_
     refine Lq ?_
     refine L_q rfl (by simp (disch := first | omega | (simp only [List.length_map, List.length_append, List.length_set, List.length_cons, List.length_nil]; omega)) only [go_sem, ↓reduceIte, Nat.reduceEqDiff, reduceCtorEq, q3, q4, q5, q7, q10, q11, q16, q19] <;> rfl) rfl ?_
     refine Lq ?_
     refine L_q rfl (by simp (disch := first | omega | (simp only [List.length_map, List.length_append, List.length_set, List.length_cons, List.length_nil]; omega)) only [go_sem, ↓reduceIte, Nat.reduceEqDiff, reduceCtorEq, q3, q4, q5, q7, q10, q11, q16, q19] <;> rfl) rfl ?_
     refine Lq ?_
     refine L_q rfl (by simp (disch := first | omega | (simp only [List.length_map, List.length_append, List.length_set, List.length_cons, List.length_nil]; omega)) only [go_sem, ↓reduceIte, Nat.reduceEqDiff, reduceCtorEq, q3, q4, q5, q7, q10, q11, q16, q19] <;> rfl) rfl ?_
     refine Lq ?_
     refine L_q rfl (by simp (disch := first | omega | (simp only [List.length_map, List.length_append, List.length_set, List.length_cons, List.length_nil]; omega)) only [go_sem, ↓reduceIte, Nat.reduceEqDiff, reduceCtorEq, q3, q4, q5, q7, q10, q11, q16, q19] <;> rfl) rfl ?_
     refine L_nil ?_
     refine Rcall ?_
     refine ACall_eq (dvd_ok _ _ l c1 (by omega) (by omega)) ?_
     refine Rcall ?_
     refine ACall_eq (dvd_ok _ _ m c2 (by omega) (by omega)) ?_
     refine Rq ?_
     refine R_end ⟨?_, ?_⟩
     ·
      refine ⟨?_, ?_⟩
      ·
       refine Rcall ?_
       refine ACall_eq (dvd_ok _ _ l c1 (by omega) (by omega)) ?_
       refine Rq ?_
       refine Rcall ?_
       refine ACall_eq (dvd_ok _ _ m c2 (by omega) (by omega)) ?_
       refine R_end ?_
       refine same_H ?_
       intro t2 ht
       simp only [List.mem_cons, List.not_mem_nil, or_false] at ht
       rcases ht with rfl | rfl | rfl <;> (simp only [get_cons, put_some, ↓reduceIte, Nat.reduceEqDiff]; first | rfl | exact ren_stops _ _ _ | exact ren_outT _ _ _ | (show AV.ptr (rnB _ _ _) _ = _; rw [rnB, if_pos (by omega)]))
      exact trivial
     rewrite [keep_all (fun i hi => .inl hi)]
     refine Rp_env (e' := [(57, _), (62, _), (63, _), (53, .any), (54, .any), (55, .any), (56, .any), (57, .any), (58, .any), (59, .any), (60, .any), (61, .any), (62, .any), (63, .any), (64, .any), (0, _), (1, _), (2, _), (3, _), (4, _), (5, _), (6, _), (7, _), (9, _), (10, _), (11, _), (12, _), (13, _), (14, _), (15, _), (16, _), (17, _), (19, _), (20, _), (21, _), (22, _), (23, _), (24, _), (25, _), (27, _), (42, _), (51, _), (101, _), (102, _), (103, _), (104, _), (159, _)]) rfl ?_
     simp only [put_some, get_cons, ↓reduceIte, Nat.reduceEqDiff]
     have lq3 := hget_lt q3
     have lq4 := hget_lt q4
     have lq5 := hget_lt q5
     have lq7 := hget_lt q7
     have lq10 := hget_lt q10
     refine A_store ty25 (by simp (disch := first | omega | (simp only [List.length_map, List.length_append, List.length_set, List.length_cons, List.length_nil]; omega)) only [go_sem, ↓reduceIte, Nat.reduceEqDiff, reduceCtorEq, q3, q4, q5, q7, q10] <;> rfl) (by simp (disch := first | omega | (simp only [List.length_map, List.length_append, List.length_set, List.length_cons, List.length_nil]; omega)) only [go_sem, ↓reduceIte, Nat.reduceEqDiff, reduceCtorEq, q3, q4, q5, q7, q10] <;> rfl) q10 ⟨by omega, rfl, by first | exact Nat.le_refl _ | (show _ ≤ 7; decide)⟩ (k' := (chC rows per tot wth balls (stopsAV (dvd l c1)) (stopsAV m))) rfl ?_
     intro H8 w7
     have ew7 := w7.len
     have q3 := (w7.old _ (by omega)).trans q3
     have q4 := (w7.old _ (by omega)).trans q4
     have q5 := (w7.old _ (by omega)).trans q5
     have q7 := (w7.old _ (by omega)).trans q7
     have q10 := w7.new
     refine Rq ?_
     have lq3 := hget_lt q3
     have lq4 := hget_lt q4
     have lq5 := hget_lt q5
     have lq7 := hget_lt q7
     have lq10 := hget_lt q10
     refine A_store ty25 (by simp (disch := first | omega | (simp only [List.length_map, List.length_append, List.length_set, List.length_cons, List.length_nil]; omega)) only [go_sem, ↓reduceIte, Nat.reduceEqDiff, reduceCtorEq, q3, q4, q5, q7, q10] <;> rfl) (by simp (disch := first | omega | (simp only [List.length_map, List.length_append, List.length_set, List.length_cons, List.length_nil]; omega)) only [go_sem, ↓reduceIte, Nat.reduceEqDiff, reduceCtorEq, q3, q4, q5, q7, q10] <;> rfl) q10 ⟨by omega, rfl, by first | exact Nat.le_refl _ | (show _ ≤ 7; decide)⟩ (k' := (chC rows per tot wth balls (stopsAV (dvd l c1)) (stopsAV (dvd m c2)))) rfl ?_
     intro H9 w8
     have ew8 := w8.len
     have q3 := (w8.old _ (by omega)).trans q3
     have q4 := (w8.old _ (by omega)).trans q4
     have q5 := (w8.old _ (by omega)).trans q5
     have q7 := (w8.old _ (by omega)).trans q7
     have q10 := w8.new
     have tr : ∀ a b c d e f g h i j k m n o p q r s t u v w x y z A B C D E F G H I J K L M N O P Q R S T U V W : AV, let l := lc_topsplit_ok a b c d e f g h i j k m n o p q r s t u v w x y z A B C D E F G; trim ((64,W)::(57,V)::(62,U)::(63,T)::(53,S)::(54,R)::(55,Q)::(56,P)::(57,O)::(58,N)::(59,M)::(60,L)::(61,K)::(62,J)::(63,I)::(64,H)::l) l = [(0,a),(1,b),(2,c),(3,d),(4,e),(5,f),(6,g),(7,h),(9,i),(10,j),(11,k),(12,m),(13,n),(14,o),(15,p),(16,q),(17,r),(19,s),(20,t),(21,u),(22,v),(23,w),(24,x),(25,y),(27,z),(42,A),(51,B),(101,C),(102,D),(103,E),(104,F),(159,G)] := by intros; rfl
     refine R_nil (tr ..) ?_; clear tr
     refine then_n ?_
     refine at_seq rfl ?_
     refine rg rfl ?_
     have hd1 := (dvd_dv l c1).len
     have hd2 := (dvd_dv m c2).len
     have aL := outT_any (jn (dvd l c1) (dvd l c1).length)
     have aM := outT_any (jn (dvd m c2) (dvd m c2).length)
     obtain ⟨kL1, eL1, fL1, gL1⟩ := (dvd_dv l c1).keeps kL
     obtain ⟨kM1, eM1, fM1, gM1⟩ := (dvd_dv m c2).keeps kM
     obtain ⟨eL2, fL2, gL2⟩ := join_keeps kL1
     obtain ⟨eM2, fM2, gM2⟩ := join_keeps kM1
     refine R_q rfl (by simp (disch := first | omega | (simp only [List.length_map, List.length_append, List.length_set, List.length_cons, List.length_nil]; omega)) only [go_sem, ↓reduceIte, Nat.reduceEqDiff, reduceCtorEq, q3, q4, q5, q7, q10, q11, q16, q19] <;> rfl) ?_
     refine A_alloc rfl ?_
     intro H10 n9
     have en9 := n9.len
     have q3 := (n9.old _ (hget_lt q3)).trans q3
     have q4 := (n9.old _ (hget_lt q4)).trans q4
     have q5 := (n9.old _ (hget_lt q5)).trans q5
     have q7 := (n9.old _ (hget_lt q7)).trans q7
     have q10 := (n9.old _ (hget_lt q10)).trans q10
     have q11 := n9.new
     have lq3 := hget_lt q3
     have lq4 := hget_lt q4
     have lq5 := hget_lt q5
     have lq7 := hget_lt q7
     have lq10 := hget_lt q10
     have lq11 := hget_lt q11
     refine A_store ty34 (by simp (disch := first | omega | (simp only [List.length_map, List.length_append, List.length_set, List.length_cons, List.length_nil]; omega)) only [go_sem, ↓reduceIte, Nat.reduceEqDiff, reduceCtorEq, q3, q4, q5, q7, q10, q11] <;> rfl) (by simp (disch := first | omega | (simp only [List.length_map, List.length_append, List.length_set, List.length_cons, List.length_nil]; omega)) only [go_sem, ↓reduceIte, Nat.reduceEqDiff, reduceCtorEq, q3, q4, q5, q7, q10, q11] <;> rfl) q11 ⟨by omega, rfl, by first | exact Nat.le_refl _ | (show _ ≤ 7; decide)⟩ (k' := [rowsAV rows, AV.i per, AV.i tot, AV.i wth, AV.i balls, stopsAV l, stopsAV m]) rfl ?_
     intro H11 w10
     have ew10 := w10.len
     have q3 := (w10.old _ (by omega)).trans q3
     have q4 := (w10.old _ (by omega)).trans q4
     have q5 := (w10.old _ (by omega)).trans q5
     have q7 := (w10.old _ (by omega)).trans q7
     have q10 := (w10.old _ (by omega)).trans q10
     have q11 := w10.new
     have tr : ∀ a b c d e f g h i j k m n o p q r s t u v w x y z A B C D E F G H I : AV, let l := lc_topsplit_ok a b c d e f g h i j k m n o p q r s t u v w x y z A B C D E F G; trim ((11,I)::(65,H)::l) l = [(0,a),(1,b),(2,c),(3,d),(4,e),(5,f),(6,g),(7,h),(9,i),(10,j),(11,I),(12,m),(13,n),(14,o),(15,p),(16,q),(17,r),(19,s),(20,t),(21,u),(22,v),(23,w),(24,x),(25,y),(27,z),(42,A),(51,B),(101,C),(102,D),(103,E),(104,F),(159,G)] := by intros; rfl
     refine R_nil (tr ..) ?_; clear tr
     refine then_n ?_
     refine at_seq rfl ?_
     refine rls2 rfl rfl ?_
     refine Lq ?_
     refine L_q rfl (by simp (disch := first | omega | (simp only [List.length_map, List.length_append, List.length_set, List.length_cons, List.length_nil]; omega)) only [go_sem, ↓reduceIte, Nat.reduceEqDiff, reduceCtorEq, q3, q4, q5, q7, q10, q11, q16, q19] <;> rfl) rfl ?_
     refine Lq ?_
     refine L_q rfl (by simp (disch := first | omega | (simp only [List.length_map, List.length_append, List.length_set, List.length_cons, List.length_nil]; omega)) only [go_sem, ↓reduceIte, Nat.reduceEqDiff, reduceCtorEq, q3, q4, q5, q7, q10, q11, q16, q19] <;> rfl) rfl ?_
     refine L_nil ?_
     refine Rcall ?_
     refine ACall_eq (join_ok _ _ (dvd l c1) (by omega)) ?_
     refine Rcall ?_
     refine ACall_eq (join_ok _ _ (dvd m c2) (by omega)) ?_
     refine Rq ?_
     refine R_end ⟨?_, ?_⟩
     ·
      refine ⟨?_, ?_⟩
      ·
       refine Rcall ?_
       refine ACall_eq (join_ok _ _ (dvd l c1) (by omega)) ?_
       refine Rq ?_
       refine Rcall ?_
       refine ACall_eq (join_ok _ _ (dvd m c2) (by omega)) ?_
       refine R_end ?_
       refine same_H ?_
       intro t2 ht
       simp only [List.mem_cons, List.not_mem_nil, or_false] at ht
       rcases ht with rfl | rfl | rfl <;> (simp only [get_cons, put_some, ↓reduceIte, Nat.reduceEqDiff]; first | rfl | exact ren_stops _ _ _ | exact ren_outT _ _ _ | (show AV.ptr (rnB _ _ _) _ = _; rw [rnB, if_pos (by omega)]))
      exact trivial
     rewrite [keep_all (fun i hi => .inl hi)]
     refine Rp_env (e' := [(68, _), (71, _), (72, _), (66, .any), (67, .any), (68, .any), (69, .any), (70, .any), (71, .any), (72, .any), (73, .any), (0, _), (1, _), (2, _), (3, _), (4, _), (5, _), (6, _), (7, _), (9, _), (10, _), (11, _), (12, _), (13, _), (14, _), (15, _), (16, _), (17, _), (19, _), (20, _), (21, _), (22, _), (23, _), (24, _), (25, _), (27, _), (42, _), (51, _), (101, _), (102, _), (103, _), (104, _), (159, _)]) rfl ?_
     simp only [put_some, get_cons, ↓reduceIte, Nat.reduceEqDiff]
     skip
     have lq3 := hget_lt q3
     have lq4 := hget_lt q4
     have lq5 := hget_lt q5
     have lq7 := hget_lt q7
     have lq10 := hget_lt q10
     have lq11 := hget_lt q11
     refine A_store ty25 (by simp (disch := first | omega | (simp only [List.length_map, List.length_append, List.length_set, List.length_cons, List.length_nil]; omega)) only [go_sem, ↓reduceIte, Nat.reduceEqDiff, reduceCtorEq, q3, q4, q5, q7, q10, q11] <;> rfl) (by simp (disch := first | omega | (simp only [List.length_map, List.length_append, List.length_set, List.length_cons, List.length_nil]; omega)) only [go_sem, ↓reduceIte, Nat.reduceEqDiff, reduceCtorEq, q3, q4, q5, q7, q10, q11]; exact aL.cells) q11 ⟨by omega, rfl, by first | exact Nat.le_refl _ | (show _ ≤ 7; decide)⟩ (k' := (chC rows per tot wth balls (outT (jn (dvd l c1) (dvd l c1).length)) (stopsAV m))) rfl ?_
     intro H12 w11
     have ew11 := w11.len
     have q3 := (w11.old _ (by omega)).trans q3
     have q4 := (w11.old _ (by omega)).trans q4
     have q5 := (w11.old _ (by omega)).trans q5
     have q7 := (w11.old _ (by omega)).trans q7
     have q10 := (w11.old _ (by omega)).trans q10
     have q11 := w11.new
     refine Rq ?_
     have lq3 := hget_lt q3
     have lq4 := hget_lt q4
     have lq5 := hget_lt q5
     have lq7 := hget_lt q7
     have lq10 := hget_lt q10
     have lq11 := hget_lt q11
     refine A_store ty25 (by simp (disch := first | omega | (simp only [List.length_map, List.length_append, List.length_set, List.length_cons, List.length_nil]; omega)) only [go_sem, ↓reduceIte, Nat.reduceEqDiff, reduceCtorEq, q3, q4, q5, q7, q10, q11] <;> rfl) (by simp (disch := first | omega | (simp only [List.length_map, List.length_append, List.length_set, List.length_cons, List.length_nil]; omega)) only [go_sem, ↓reduceIte, Nat.reduceEqDiff, reduceCtorEq, q3, q4, q5, q7, q10, q11]; exact aM.cells) q11 ⟨by omega, rfl, by first | exact Nat.le_refl _ | (show _ ≤ 7; decide)⟩ (k' := (chC rows per tot wth balls (outT (jn (dvd l c1) (dvd l c1).length)) (outT (jn (dvd m c2) (dvd m c2).length)))) rfl ?_
     intro H13 w12
     have ew12 := w12.len
     have q3 := (w12.old _ (by omega)).trans q3
     have q4 := (w12.old _ (by omega)).trans q4
     have q5 := (w12.old _ (by omega)).trans q5
     have q7 := (w12.old _ (by omega)).trans q7
     have q10 := (w12.old _ (by omega)).trans q10
     have q11 := w12.new
     have tr : ∀ a b c d e f g h i j k m n o p q r s t u v w x y z A B C D E F G H I J K L M N O P Q R S : AV, let l := lc_topsplit_ok a b c d e f g h i j k m n o p q r s t u v w x y z A B C D E F G; trim ((73,S)::(68,R)::(71,Q)::(72,P)::(66,O)::(67,N)::(68,M)::(69,L)::(70,K)::(71,J)::(72,I)::(73,H)::l) l = [(0,a),(1,b),(2,c),(3,d),(4,e),(5,f),(6,g),(7,h),(9,i),(10,j),(11,k),(12,m),(13,n),(14,o),(15,p),(16,q),(17,r),(19,s),(20,t),(21,u),(22,v),(23,w),(24,x),(25,y),(27,z),(42,A),(51,B),(101,C),(102,D),(103,E),(104,F),(159,G)] := by intros; rfl
     refine R_nil (tr ..) ?_; clear tr
     refine then_n ?_
     refine at_seq rfl ?_
     refine rg rfl ?_
     refine R_q rfl (by simp (disch := first | omega | (simp only [List.length_map, List.length_append, List.length_set, List.length_cons, List.length_nil]; omega)) only [go_sem, ↓reduceIte, Nat.reduceEqDiff, reduceCtorEq, q3, q4, q5, q7, q10, q11, q16, q19] <;> rfl) ?_
     refine Rcall ?_
     refine ACall_eq (tgt_any _ _ rows per tot wth balls l m _ _ (.inl rfl) (.inl rfl)) ?_
     refine Rq ?_
     refine Rq ?_
     refine Rq ?_
     refine Rq ?_
     refine Rq ?_
     have tr : ∀ a b c d e f g h i j k m n o p q r s t u v w x y z A B C D E F G H I J K L M N : AV, let l := lc_topsplit_ok a b c d e f g h i j k m n o p q r s t u v w x y z A B C D E F G; trim ((13,N)::(12,M)::(78,L)::(77,K)::(74,J)::(76,I)::(75,H)::l) l = [(0,a),(1,b),(2,c),(3,d),(4,e),(5,f),(6,g),(7,h),(9,i),(10,j),(11,k),(12,M),(13,N),(14,o),(15,p),(16,q),(17,r),(19,s),(20,t),(21,u),(22,v),(23,w),(24,x),(25,y),(27,z),(42,A),(51,B),(101,C),(102,D),(103,E),(104,F),(159,G)] := by intros; rfl
     refine R_nil (tr ..) ?_; clear tr
     refine then_n ?_
     refine at_seq rfl ?_
     refine rg rfl ?_
     refine R_q rfl (by simp (disch := first | omega | (simp only [List.length_map, List.length_append, List.length_set, List.length_cons, List.length_nil]; omega)) only [go_sem, ↓reduceIte, Nat.reduceEqDiff, reduceCtorEq, q3, q4, q5, q7, q10, q11, q16, q19] <;> rfl) ?_
     refine Rq ?_
     refine R_q rfl (by simp (disch := first | omega | (simp only [List.length_map, List.length_append, List.length_set, List.length_cons, List.length_nil]; omega)) only [go_sem, ↓reduceIte, Nat.reduceEqDiff, reduceCtorEq, q3, q4, q5, q7, q10, q11, q16, q19] <;> rfl) ?_
     refine Rq ?_
     refine R_q rfl (by simp (disch := first | omega | (simp only [List.length_map, List.length_append, List.length_set, List.length_cons, List.length_nil]; omega)) only [go_sem, ↓reduceIte, Nat.reduceEqDiff, reduceCtorEq, q3, q4, q5, q7, q10, q11, q16, q19] <;> rfl) ?_
     refine Rq ?_
     refine R_q rfl (by simp (disch := first | omega | (simp only [List.length_map, List.length_append, List.length_set, List.length_cons, List.length_nil]; omega)) only [go_sem, ↓reduceIte, Nat.reduceEqDiff, reduceCtorEq, q3, q4, q5, q7, q10, q11, q16, q19] <;> rfl) ?_
     refine Rcall ?_
     refine ACall_eq (win_any _ _ rows per tot wth balls l m x y z _ _ (.inl rfl) (.inl rfl)) ?_
     refine Rq ?_
     refine Rq ?_
     refine Rq ?_
     refine Rq ?_
     refine Rq ?_
     have tr : ∀ a b c d e f g h i j k m n o p q r s t u v w x y z A B C D E F G H I J K L M N O P Q R S T : AV, let l := lc_topsplit_ok a b c d e f g h i j k m n o p q r s t u v w x y z A B C D E F G; trim ((15,T)::(14,S)::(89,R)::(88,Q)::(79,P)::(87,O)::(86,N)::(85,M)::(84,L)::(83,K)::(82,J)::(81,I)::(80,H)::l) l = [(0,a),(1,b),(2,c),(3,d),(4,e),(5,f),(6,g),(7,h),(9,i),(10,j),(11,k),(12,m),(13,n),(14,S),(15,T),(16,q),(17,r),(19,s),(20,t),(21,u),(22,v),(23,w),(24,x),(25,y),(27,z),(42,A),(51,B),(101,C),(102,D),(103,E),(104,F),(159,G)] := by intros; rfl
     refine R_nil (tr ..) ?_; clear tr
     refine then_n ?_
     refine at_seq rfl ?_
     refine rg rfl ?_
     refine R_q rfl (by simp (disch := first | omega | (simp only [List.length_map, List.length_append, List.length_set, List.length_cons, List.length_nil]; omega)) only [go_sem, ↓reduceIte, Nat.reduceEqDiff, reduceCtorEq, q3, q4, q5, q7, q10, q11, q16, q19] <;> rfl) ?_
     refine Rq ?_
     refine R_q rfl (by simp (disch := first | omega | (simp only [List.length_map, List.length_append, List.length_set, List.length_cons, List.length_nil]; omega)) only [go_sem, ↓reduceIte, Nat.reduceEqDiff, reduceCtorEq, q3, q4, q5, q7, q10, q11, q16, q19] <;> rfl) ?_
     refine Rq ?_
     refine R_q rfl (by simp (disch := first | omega | (simp only [List.length_map, List.length_append, List.length_set, List.length_cons, List.length_nil]; omega)) only [go_sem, ↓reduceIte, Nat.reduceEqDiff, reduceCtorEq, q3, q4, q5, q7, q10, q11, q16, q19] <;> rfl) ?_
     refine Rcall ?_
     refine ACall_eq (pat_any _ _ rows per tot wth balls l m y z _ _ (.inl rfl) (.inl rfl)) ?_
     refine Rq ?_
     refine Rq ?_
     refine Rq ?_
     refine Rq ?_
     refine Rq ?_
     have tr : ∀ a b c d e f g h i j k m n o p q r s t u v w x y z A B C D E F G H I J K L M N O P Q R : AV, let l := lc_topsplit_ok a b c d e f g h i j k m n o p q r s t u v w x y z A B C D E F G; trim ((17,R)::(16,Q)::(98,P)::(97,O)::(90,N)::(96,M)::(95,L)::(94,K)::(93,J)::(92,I)::(91,H)::l) l = [(0,a),(1,b),(2,c),(3,d),(4,e),(5,f),(6,g),(7,h),(9,i),(10,j),(11,k),(12,m),(13,n),(14,o),(15,p),(16,Q),(17,R),(19,s),(20,t),(21,u),(22,v),(23,w),(24,x),(25,y),(27,z),(42,A),(51,B),(101,C),(102,D),(103,E),(104,F),(159,G)] := by intros; rfl
     refine R_nil (tr ..) ?_; clear tr
     refine then_n ?_
     refine at_seq rfl ?_
     refine at_seq rfl ?_
     refine rg rfl ?_
     refine R_q rfl (by simp (disch := first | omega | (simp only [List.length_map, List.length_append, List.length_set, List.length_cons, List.length_nil]; omega)) only [go_sem, ↓reduceIte, Nat.reduceEqDiff, reduceCtorEq, q3, q4, q5, q7, q10, q11, q16, q19] <;> rfl) ?_
     refine R_q rfl (by simp (disch := first | omega | (simp only [List.length_map, List.length_append, List.length_set, List.length_cons, List.length_nil]; omega)) only [go_sem, ↓reduceIte, Nat.reduceEqDiff, reduceCtorEq, q3, q4, q5, q7, q10, q11, q16, q19] <;> rfl) ?_
     have lq3 := hget_lt q3
     have lq4 := hget_lt q4
     have lq5 := hget_lt q5
     have lq7 := hget_lt q7
     have lq10 := hget_lt q10
     have lq11 := hget_lt q11
     refine A_buildSlice (bs43two _ _ _ _ _ rows per tot wth balls _ _ _ _ (by simp (disch := first | omega | (simp only [List.length_map, List.length_append, List.length_set, List.length_cons, List.length_nil]; omega)) only [go_sem, ↓reduceIte, Nat.reduceEqDiff, reduceCtorEq, q3, q4, q5, q7, q10, q11] <;> rfl) (by simp (disch := first | omega | (simp only [List.length_map, List.length_append, List.length_set, List.length_cons, List.length_nil]; omega)) only [go_sem, ↓reduceIte, Nat.reduceEqDiff, reduceCtorEq, q3, q4, q5, q7, q10, q11] <;> rfl) rfl rfl aL.stor aM.stor) ?_
     intro H14 n13
     have en13 := n13.len
     have q3 := (n13.old _ (hget_lt q3)).trans q3
     have q4 := (n13.old _ (hget_lt q4)).trans q4
     have q5 := (n13.old _ (hget_lt q5)).trans q5
     have q7 := (n13.old _ (hget_lt q7)).trans q7
     have q10 := (n13.old _ (hget_lt q10)).trans q10
     have q11 := (n13.old _ (hget_lt q11)).trans q11
     have q16 := n13.new
     refine Rq ?_
     refine Rq ?_
     have tr : ∀ a b c d e f g h i j k m n o p q r s t u v w x y z A B C D E F G H I J K L : AV, let l := lc_topsplit_ok a b c d e f g h i j k m n o p q r s t u v w x y z A B C D E F G; trim ((103,L)::(102,K)::(101,J)::(100,I)::(99,H)::l) l = [(0,a),(1,b),(2,c),(3,d),(4,e),(5,f),(6,g),(7,h),(9,i),(10,j),(11,k),(12,m),(13,n),(14,o),(15,p),(16,q),(17,r),(19,s),(20,t),(21,u),(22,v),(23,w),(24,x),(25,y),(27,z),(42,A),(51,B),(101,J),(102,K),(103,L),(104,F),(159,G)] := by intros; rfl
     refine R_nil (tr ..) ?_; clear tr
     refine then_n ?_
     refine at_block rfl ?_
     refine loop_n rfl (fun mm kv H' => ∃ u : Nat, ∃ x6 x19 x20 x21 x22 x23 x24 x25 x104 x159 : AV, (kv = [(6, x6), (19, x19), (20, x20), (21, x21), (22, x22), (23, x23), (24, x24), (25, x25), (103, AV.i u), (104, x104), (159, x159)]) ∧ (mm = 2 - u) ∧ (u ≤ 2) ∧ (hget H' H2.length = some [AV.i x, AV.i y, AV.i z]) ∧ (hget H' H13.length = some (chC rows per tot wth balls (stopsAV (dvd l c1)) (stopsAV (dvd m c2)) ++ chC rows per tot wth balls (outT (jn (dvd l c1) (dvd l c1).length)) (outT (jn (dvd m c2) (dvd m c2).length))))) ⟨0, _, _, _, _, _, _, _, _, _, _, rfl, rfl, by omega, by exact q5, by exact q16⟩ (by rfl) ?_
     rintro mm kv H15 ⟨u, x6, x19, x20, x21, x22, x23, x24, x25, x104, x159, rfl, rfl, hu, q5, q16⟩
     have tr : ∀ a b c d e f g h i j k m n o p q r s t u v w x y z A B C D E F G H I J K L M N O P Q R : AV, upd [(0,a),(1,b),(2,c),(3,d),(4,e),(5,f),(6,g),(7,h),(9,i),(10,j),(11,k),(12,m),(13,n),(14,o),(15,p),(16,q),(17,r),(19,s),(20,t),(21,u),(22,v),(23,w),(24,x),(25,y),(27,z),(42,A),(51,B),(101,C),(102,D),(103,E),(104,F),(159,G)] [(6,H),(19,I),(20,J),(21,K),(22,L),(23,M),(24,N),(25,O),(103,P),(104,Q),(159,R)] = [(0,a),(1,b),(2,c),(3,d),(4,e),(5,f),(6,H),(7,h),(9,i),(10,j),(11,k),(12,m),(13,n),(14,o),(15,p),(16,q),(17,r),(19,I),(20,J),(21,K),(22,L),(23,M),(24,N),(25,O),(27,z),(42,A),(51,B),(101,C),(102,D),(103,P),(104,Q),(159,R)] := by intros; rfl
     refine W_to (tr ..) ?_; clear tr
     have lq5 := hget_lt q5
     have lq16 := hget_lt q16
     refine at_seq rfl ?_
     refine rg rfl ?_
     refine Rq ?_
     have tr : ∀ a b c d e f g h i j k m n o p q r s t u v w x y z A B C D E F G H : AV, let l := lc_topsplit_ok a b c d e f g h i j k m n o p q r s t u v w x y z A B C D E F G; trim ((104,H)::l) l = [(0,a),(1,b),(2,c),(3,d),(4,e),(5,f),(6,g),(7,h),(9,i),(10,j),(11,k),(12,m),(13,n),(14,o),(15,p),(16,q),(17,r),(19,s),(20,t),(21,u),(22,v),(23,w),(24,x),(25,y),(27,z),(42,A),(51,B),(101,C),(102,D),(103,E),(104,H),(159,G)] := by intros; rfl
     refine R_nil (tr ..) ?_; clear tr
     refine then_n ?_
     refine at_seq rfl ?_
     refine cdd (fun h5 => ?_) (fun h5 => ?_)
     ·
      try simp only [decide_eq_true_eq, decide_eq_false_iff_not, Bool.not_eq_true', Bool.not_eq_false', beq_iff_eq, beq_eq_false_iff_ne, ne_eq] at h5
      refine at_skip rfl ?_
      refine then_n ?_
      refine at_seq rfl ?_
      refine at_block rfl ?_
      refine at_seq rfl ?_
      refine rg rfl ?_
      have eL : leftS rows per balls (ofT (dvd l c1) (jn (dvd l c1) (dvd l c1).length) u) = leftS rows per balls l := ofT_same (f := leftS rows per balls) eL1 (eL2.trans eL1) u
      have eM : leftS rows per balls (ofT (dvd m c2) (jn (dvd m c2) (dvd m c2).length) u) = leftS rows per balls m := ofT_same (f := leftS rows per balls) eM1 (eM2.trans eM1) u
      have eA : mostS balls (ofT (dvd m c2) (jn (dvd m c2) (dvd m c2).length) u) = mostS balls m := ofT_same (f := mostS balls) fM1 (fM2.trans fM1) u
      have eW : leastS (ofT (dvd m c2) (jn (dvd m c2) (dvd m c2).length) u) = leastS m := ofT_same (f := leastS) gM1 (gM2.trans gM1) u
      refine Rq ?_
      refine R_q (r := .agg (chC rows per tot wth balls (ofT (stopsAV (dvd l c1)) (outT (jn (dvd l c1) (dvd l c1).length)) u) (ofT (stopsAV (dvd m c2)) (outT (jn (dvd m c2) (dvd m c2).length)) u))) rfl (by simp (disch := first | omega | (simp only [List.length_map, List.length_append, List.length_set, List.length_cons, List.length_nil]; omega)) only [go_sem, ↓reduceIte, Nat.reduceEqDiff, reduceCtorEq, q5, q16] <;> first | exact ld_ch2 _ _ _ _ _ _ _ _ _ u (by omega) | exact congrArg (fun k => some (AV.agg k)) (ch2_at _ _ _ _ _ _ _ _ _ u (by omega))) ?_
      refine A_alloc rfl ?_
      intro H16 n15
      have en15 := n15.len
      have q5 := (n15.old _ (hget_lt q5)).trans q5
      have q16 := (n15.old _ (hget_lt q16)).trans q16
      have q19 := n15.new
      have sX := (ofT_any (x := stopsAV (dvd l c1)) (.inl rfl) aL u).stor
      have sY := (ofT_any (x := stopsAV (dvd m c2)) (.inl rfl) aM u).stor
      have lq5 := hget_lt q5
      have lq16 := hget_lt q16
      have lq19 := hget_lt q19
      refine A_store ty34 (by simp (disch := first | omega | (simp only [List.length_map, List.length_append, List.length_set, List.length_cons, List.length_nil]; omega)) only [go_sem, ↓reduceIte, Nat.reduceEqDiff, reduceCtorEq, q5, q16, q19] <;> rfl) (by simp (disch := first | omega | (simp only [List.length_map, List.length_append, List.length_set, List.length_cons, List.length_nil]; omega)) only [go_sem, ↓reduceIte, Nat.reduceEqDiff, reduceCtorEq, q5, q16, q19, sX, sY] <;> rfl) q19 ⟨by omega, rfl, by first | exact Nat.le_refl _ | (show _ ≤ 7; decide)⟩ (k' := (chC rows per tot wth balls (ofT (stopsAV (dvd l c1)) (outT (jn (dvd l c1) (dvd l c1).length)) u) (ofT (stopsAV (dvd m c2)) (outT (jn (dvd m c2) (dvd m c2).length)) u))) rfl ?_
      intro H17 w16
      have ew16 := w16.len
      have q5 := (w16.old _ (by omega)).trans q5
      have q16 := (w16.old _ (by omega)).trans q16
      have q19 := w16.new
      have tr : ∀ a b c d e f g h i j k m n o p q r s t u v w x y z A B C D E F G H I J : AV, let l := lc_topsplit_ok a b c d e f g h i j k m n o p q r s t u v w x y z A B C D E F G; trim ((19,J)::(106,I)::(105,H)::l) l = [(0,a),(1,b),(2,c),(3,d),(4,e),(5,f),(6,g),(7,h),(9,i),(10,j),(11,k),(12,m),(13,n),(14,o),(15,p),(16,q),(17,r),(19,J),(20,t),(21,u),(22,v),(23,w),(24,x),(25,y),(27,z),(42,A),(51,B),(101,C),(102,D),(103,E),(104,F),(159,G)] := by intros; rfl
      refine R_nil (tr ..) ?_; clear tr
      refine then_n ?_
      refine at_seq rfl ?_
      refine rg rfl ?_
      refine R_q rfl (by simp (disch := first | omega | (simp only [List.length_map, List.length_append, List.length_set, List.length_cons, List.length_nil]; omega)) only [go_sem, ↓reduceIte, Nat.reduceEqDiff, reduceCtorEq, q3, q4, q5, q7, q10, q11, q16, q19] <;> rfl) ?_
      refine Rcall ?_
      refine ACall_eq (tgt_any _ _ rows per tot wth balls (ofT (dvd l c1) (jn (dvd l c1) (dvd l c1).length) u) (ofT (dvd m c2) (jn (dvd m c2) (dvd m c2).length) u) _ _ (ofT_any (.inl rfl) aL u) (ofT_any (.inl rfl) aM u)) ?_
      rewrite [tgt_left eL eM]
      refine Rq ?_
      refine Rq ?_
      refine Rq ?_
      refine Rq ?_
      refine Rq ?_
      have tr : ∀ a b c d e f g h i j k m n o p q r s t u v w x y z A B C D E F G H I J K L M N : AV, let l := lc_topsplit_ok a b c d e f g h i j k m n o p q r s t u v w x y z A B C D E F G; trim ((21,N)::(20,M)::(111,L)::(110,K)::(107,J)::(109,I)::(108,H)::l) l = [(0,a),(1,b),(2,c),(3,d),(4,e),(5,f),(6,g),(7,h),(9,i),(10,j),(11,k),(12,m),(13,n),(14,o),(15,p),(16,q),(17,r),(19,s),(20,M),(21,N),(22,v),(23,w),(24,x),(25,y),(27,z),(42,A),(51,B),(101,C),(102,D),(103,E),(104,F),(159,G)] := by intros; rfl
      refine R_nil (tr ..) ?_; clear tr
      refine then_n ?_
      refine at_seq rfl ?_
      refine rg rfl ?_
      refine R_q rfl (by simp (disch := first | omega | (simp only [List.length_map, List.length_append, List.length_set, List.length_cons, List.length_nil]; omega)) only [go_sem, ↓reduceIte, Nat.reduceEqDiff, reduceCtorEq, q3, q4, q5, q7, q10, q11, q16, q19] <;> rfl) ?_
      refine Rq ?_
      refine R_q rfl (by simp (disch := first | omega | (simp only [List.length_map, List.length_append, List.length_set, List.length_cons, List.length_nil]; omega)) only [go_sem, ↓reduceIte, Nat.reduceEqDiff, reduceCtorEq, q3, q4, q5, q7, q10, q11, q16, q19] <;> rfl) ?_
      refine Rq ?_
      refine R_q rfl (by simp (disch := first | omega | (simp only [List.length_map, List.length_append, List.length_set, List.length_cons, List.length_nil]; omega)) only [go_sem, ↓reduceIte, Nat.reduceEqDiff, reduceCtorEq, q3, q4, q5, q7, q10, q11, q16, q19] <;> rfl) ?_
      refine Rq ?_
      refine R_q rfl (by simp (disch := first | omega | (simp only [List.length_map, List.length_append, List.length_set, List.length_cons, List.length_nil]; omega)) only [go_sem, ↓reduceIte, Nat.reduceEqDiff, reduceCtorEq, q3, q4, q5, q7, q10, q11, q16, q19] <;> rfl) ?_
      refine Rcall ?_
      refine ACall_eq (win_any _ _ rows per tot wth balls (ofT (dvd l c1) (jn (dvd l c1) (dvd l c1).length) u) (ofT (dvd m c2) (jn (dvd m c2) (dvd m c2).length) u) x y z _ _ (ofT_any (.inl rfl) aL u) (ofT_any (.inl rfl) aM u)) ?_
      rewrite [win_left eL eM eA eW]
      refine Rq ?_
      refine Rq ?_
      refine Rq ?_
      refine Rq ?_
      refine Rq ?_
      have tr : ∀ a b c d e f g h i j k m n o p q r s t u v w x y z A B C D E F G H I J K L M N O P Q R S T : AV, let l := lc_topsplit_ok a b c d e f g h i j k m n o p q r s t u v w x y z A B C D E F G; trim ((23,T)::(22,S)::(122,R)::(121,Q)::(112,P)::(120,O)::(119,N)::(118,M)::(117,L)::(116,K)::(115,J)::(114,I)::(113,H)::l) l = [(0,a),(1,b),(2,c),(3,d),(4,e),(5,f),(6,g),(7,h),(9,i),(10,j),(11,k),(12,m),(13,n),(14,o),(15,p),(16,q),(17,r),(19,s),(20,t),(21,u),(22,S),(23,T),(24,x),(25,y),(27,z),(42,A),(51,B),(101,C),(102,D),(103,E),(104,F),(159,G)] := by intros; rfl
      refine R_nil (tr ..) ?_; clear tr
      refine then_n ?_
      refine at_seq rfl ?_
      refine rg rfl ?_
      refine R_q rfl (by simp (disch := first | omega | (simp only [List.length_map, List.length_append, List.length_set, List.length_cons, List.length_nil]; omega)) only [go_sem, ↓reduceIte, Nat.reduceEqDiff, reduceCtorEq, q3, q4, q5, q7, q10, q11, q16, q19] <;> rfl) ?_
      refine Rq ?_
      refine R_q rfl (by simp (disch := first | omega | (simp only [List.length_map, List.length_append, List.length_set, List.length_cons, List.length_nil]; omega)) only [go_sem, ↓reduceIte, Nat.reduceEqDiff, reduceCtorEq, q3, q4, q5, q7, q10, q11, q16, q19] <;> rfl) ?_
      refine Rq ?_
      refine R_q rfl (by simp (disch := first | omega | (simp only [List.length_map, List.length_append, List.length_set, List.length_cons, List.length_nil]; omega)) only [go_sem, ↓reduceIte, Nat.reduceEqDiff, reduceCtorEq, q3, q4, q5, q7, q10, q11, q16, q19] <;> rfl) ?_
      refine Rcall ?_
      refine ACall_eq (pat_any _ _ rows per tot wth balls (ofT (dvd l c1) (jn (dvd l c1) (dvd l c1).length) u) (ofT (dvd m c2) (jn (dvd m c2) (dvd m c2).length) u) y z _ _ (ofT_any (.inl rfl) aL u) (ofT_any (.inl rfl) aM u)) ?_
      rewrite [pat_left eL eM eA eW]
      refine Rq ?_
      refine Rq ?_
      refine Rq ?_
      refine Rq ?_
      refine Rq ?_
      have tr : ∀ a b c d e f g h i j k m n o p q r s t u v w x y z A B C D E F G H I J K L M N O P Q R : AV, let l := lc_topsplit_ok a b c d e f g h i j k m n o p q r s t u v w x y z A B C D E F G; trim ((25,R)::(24,Q)::(131,P)::(130,O)::(123,N)::(129,M)::(128,L)::(127,K)::(126,J)::(125,I)::(124,H)::l) l = [(0,a),(1,b),(2,c),(3,d),(4,e),(5,f),(6,g),(7,h),(9,i),(10,j),(11,k),(12,m),(13,n),(14,o),(15,p),(16,q),(17,r),(19,s),(20,t),(21,u),(22,v),(23,w),(24,Q),(25,R),(27,z),(42,A),(51,B),(101,C),(102,D),(103,E),(104,F),(159,G)] := by intros; rfl
      refine R_nil (tr ..) ?_; clear tr
      refine then_n ?_
      refine at_seq rfl ?_
      refine rg rfl ?_
      refine Rq ?_
      refine Rq ?_
      refine Rq ?_
      refine Rq ?_
      refine Rp_split (fun h6 => ?_) (fun h6 => ?_)
      ·
       try simp only [decide_eq_true_eq, decide_eq_false_iff_not, Bool.not_eq_true', Bool.not_eq_false', beq_iff_eq, beq_eq_false_iff_ne, ne_eq] at h6
       first | omega | contradiction | exact absurd rfl (by assumption) | exact absurd trivial (by assumption)
      ·
       try simp only [decide_eq_true_eq, decide_eq_false_iff_not, Bool.not_eq_true', Bool.not_eq_false', beq_iff_eq, beq_eq_false_iff_ne, ne_eq] at h6
       refine Ry ?_
       refine Rq ?_
       refine Ry ?_
       refine Rq ?_
       refine Ry ?_
       refine Rq ?_
       refine Rq ?_
       refine Rq ?_
       refine Rp_split (fun h7 => ?_) (fun h7 => ?_)
       ·
        try simp only [decide_eq_true_eq, decide_eq_false_iff_not, Bool.not_eq_true', Bool.not_eq_false', beq_iff_eq, beq_eq_false_iff_ne, ne_eq] at h7
        first | omega | contradiction | exact absurd rfl (by assumption) | exact absurd trivial (by assumption)
       ·
        try simp only [decide_eq_true_eq, decide_eq_false_iff_not, Bool.not_eq_true', Bool.not_eq_false', beq_iff_eq, beq_eq_false_iff_ne, ne_eq] at h7
        refine Ry ?_
        refine Rq ?_
        refine Ry ?_
        refine Rq ?_
        refine Ry ?_
        refine Rq ?_
        refine Rq ?_
        refine Rq ?_
        refine Rp_split (fun h8 => ?_) (fun h8 => ?_)
        ·
         try simp only [decide_eq_true_eq, decide_eq_false_iff_not, Bool.not_eq_true', Bool.not_eq_false', beq_iff_eq, beq_eq_false_iff_ne, ne_eq] at h8
         first | omega | contradiction | exact absurd rfl (by assumption) | exact absurd trivial (by assumption)
        ·
         try simp only [decide_eq_true_eq, decide_eq_false_iff_not, Bool.not_eq_true', Bool.not_eq_false', beq_iff_eq, beq_eq_false_iff_ne, ne_eq] at h8
         refine Ry ?_
         refine Rq ?_
         refine Ry ?_
         refine Rq ?_
         refine Ry ?_
         refine Rq ?_
         refine Rq ?_
         refine Rq ?_
         refine Rp_split (fun h9 => ?_) (fun h9 => ?_)
         ·
          try simp only [decide_eq_true_eq, decide_eq_false_iff_not, Bool.not_eq_true', Bool.not_eq_false', beq_iff_eq, beq_eq_false_iff_ne, ne_eq] at h9
          first | omega | contradiction | exact absurd rfl (by assumption) | exact absurd trivial (by assumption)
         ·
          try simp only [decide_eq_true_eq, decide_eq_false_iff_not, Bool.not_eq_true', Bool.not_eq_false', beq_iff_eq, beq_eq_false_iff_ne, ne_eq] at h9
          refine Ry ?_
          refine Rq ?_
          refine Ry ?_
          refine Rq ?_
          refine Ry ?_
          refine Rq ?_
          refine Rq ?_
          refine Rq ?_
          refine Rp_split (fun h10 => ?_) (fun h10 => ?_)
          ·
           try simp only [decide_eq_true_eq, decide_eq_false_iff_not, Bool.not_eq_true', Bool.not_eq_false', beq_iff_eq, beq_eq_false_iff_ne, ne_eq] at h10
           first | omega | contradiction | exact absurd rfl (by assumption) | exact absurd trivial (by assumption)
          ·
           try simp only [decide_eq_true_eq, decide_eq_false_iff_not, Bool.not_eq_true', Bool.not_eq_false', beq_iff_eq, beq_eq_false_iff_ne, ne_eq] at h10
           refine Ry ?_
           refine Rq ?_
           refine Ry ?_
           refine Rq ?_
           refine Ry ?_
           refine Rq ?_
           refine Rq ?_
           have tr : ∀ a b c d e f g h i j k m n o p q r s t u v w x y z A B C D E F G H I J K L M N O P Q R S T U V W X Y Z a1 b1 c1 d1 e1 f1 g1 h1 i1 : AV, let l := lc_topsplit_ok a b c d e f g h i j k m n o p q r s t u v w x y z A B C D E F G; trim ((159,i1)::(158,h1)::(157,g1)::(156,f1)::(155,e1)::(154,d1)::(153,c1)::(152,b1)::(151,a1)::(150,Z)::(149,Y)::(148,X)::(147,W)::(146,V)::(145,U)::(144,T)::(143,S)::(142,R)::(141,Q)::(140,P)::(139,O)::(138,N)::(137,M)::(136,L)::(135,K)::(134,J)::(133,I)::(132,H)::l) l = [(0,a),(1,b),(2,c),(3,d),(4,e),(5,f),(6,g),(7,h),(9,i),(10,j),(11,k),(12,m),(13,n),(14,o),(15,p),(16,q),(17,r),(19,s),(20,t),(21,u),(22,v),(23,w),(24,x),(25,y),(27,z),(42,A),(51,B),(101,C),(102,D),(103,E),(104,F),(159,i1)] := by intros; rfl
           refine R_nil (tr ..) ?_; clear tr
           refine then_n ?_
           refine cdd (fun h11 => ?_) (fun h11 => ?_)
           ·
            try simp only [decide_eq_true_eq, decide_eq_false_iff_not, Bool.not_eq_true', Bool.not_eq_false', beq_iff_eq, beq_eq_false_iff_ne, ne_eq] at h11
            first | omega | contradiction | exact absurd rfl (by assumption) | exact absurd trivial (by assumption)
           ·
            try simp only [decide_eq_true_eq, decide_eq_false_iff_not, Bool.not_eq_true', Bool.not_eq_false', beq_iff_eq, beq_eq_false_iff_ne, ne_eq] at h11
            refine at_skip rfl ?_
            refine blk_n ?_
            refine then_n ?_
            refine rg rfl ?_
            refine Rq ?_
            refine Rq ?_
            have tr : ∀ a b c d e f g h i j k m n o p q r s t u v w x y z A B C D E F G H I : AV, let l := lc_topsplit_ok a b c d e f g h i j k m n o p q r s t u v w x y z A B C D E F G; trim ((103,I)::(160,H)::l) l = [(0,a),(1,b),(2,c),(3,d),(4,e),(5,f),(6,g),(7,h),(9,i),(10,j),(11,k),(12,m),(13,n),(14,o),(15,p),(16,q),(17,r),(19,s),(20,t),(21,u),(22,v),(23,w),(24,x),(25,y),(27,z),(42,A),(51,B),(101,C),(102,D),(103,I),(104,F),(159,G)] := by intros; rfl
            refine R_nil (tr ..) ?_; clear tr
            refine then_n ?_
            exact ⟨_, _, ⟨u + 1, _, _, _, _, _, _, _, _, _, _, rfl, rfl, by omega, by exact q5, by exact q16⟩, by rfl, by omega⟩
     ·
      try simp only [decide_eq_true_eq, decide_eq_false_iff_not, Bool.not_eq_true', Bool.not_eq_false', beq_iff_eq, beq_eq_false_iff_ne, ne_eq] at h5
      refine at_exit rfl ?_
      refine then_x ?_
      refine then_x ?_
      refine blk_x ?_
      refine then_n ?_
      refine at_seq rfl ?_
      refine rg rfl ?_
      refine Rq ?_
      have tr : ∀ a b c d e f g h i j k m n o p q r s t u v w x y z A B C D E F G H : AV, let l := lc_topsplit_ok a b c d e f g h i j k m n o p q r s t u v w x y z A B C D E F G; trim ((6,H)::l) l = [(0,a),(1,b),(2,c),(3,d),(4,e),(5,f),(6,H),(7,h),(9,i),(10,j),(11,k),(12,m),(13,n),(14,o),(15,p),(16,q),(17,r),(19,s),(20,t),(21,u),(22,v),(23,w),(24,x),(25,y),(27,z),(42,A),(51,B),(101,C),(102,D),(103,E),(104,F),(159,G)] := by intros; rfl
      refine R_nil (tr ..) ?_; clear tr
      refine then_n ?_
      refine at_ret rfl ?_
      refine fpure ?_
      first | rfl | (simp; done)

end Go.Proofs.Ytaoondlakhocnaa
end
section
namespace Go.Am
open Go
section
variable {H : Type} {enc : TypeId × Value → H} {P : Program} {w : World} {held : Bool}

abbrev In (w : World) : Nat → Prop := fun k => k < w.heap.size

theorem cell_lt {w : World} {a : Addr} {v : Value} (h : w.cell? a = some v) : a.block < w.heap.size := by
  unfold World.cell? at h
  by_cases hb : a.block < w.heap.size
  · exact hb
  · rw [Array.getElem?_eq_none (by omega)] at h
    simp at h

theorem den_slice {α : Type} (f : α → AV) {t e : TypeId} {fuel : Nat} {cs : List Value} {x : DataW H × List MemPlace} (ht : P.underlying t = some (.slice e)) (hc : P.cellsOf e = 1)
    (each : ∀ n cs x, DataW.trod enc P w 0 (fun _ => true) held n e cs = some x → ∃ d v, cs = [v] ∧ Den [] (In w) w (f d) v)
    (h : DataW.trod enc P w 0 (fun _ => true) held fuel t cs = some x) : ∃ (l : List α) (v : Value), cs = [v] ∧ Den [] (In w) w (.sl l.length (l.map f)) v := by
  rcases DataW.trod_slice ht h with ⟨rfl, _⟩ | ⟨a, len, cap, elems, rest, n, _, rfl, _, _, hl, hm, hlen, hel, hsp, _⟩
  · exact ⟨[], _, rfl, .sl0 _ _⟩
  · have get : ∀ i, i < cap → ∃ c d, w.cell? (a.add i) = some c ∧ Den [] (In w) w (f d) c := by
      intro i hi
      have hb : ∃ y, (w.cells? 0 (a.add (i * P.cellsOf e)) (P.cellsOf e)).bind (DataW.trod enc P w 0 (fun _ => true) held n e) = some y := by
        by_cases h1 : i < len
        · exact ⟨elems[i]'(by omega), by rw [hel i h1, List.getElem?_eq_getElem (by omega)]⟩
        · obtain ⟨hr, hrr⟩ := hsp rfl
          have := hrr (i - len) (by omega)
          rw [show len + (i - len) = i by omega] at this
          exact ⟨rest[i - len]'(by omega), by rw [this, List.getElem?_eq_getElem (by omega)]⟩
      obtain ⟨y, hy⟩ := hb
      rw [hc, Nat.mul_one, Option.bind_eq_some_iff] at hy
      obtain ⟨cs', hcs, hy'⟩ := hy
      obtain ⟨d, v, rfl, hd⟩ := each _ _ _ hy'
      have e0 : (a.add i).add 0 = a.add i := by simp [Addr.add]
      unfold World.cells? at hcs
      rw [if_pos (Nat.zero_le _)] at hcs
      simp only [List.range_succ, List.range_zero, List.nil_append, List.mapM_cons, List.mapM_nil, e0] at hcs
      cases hcc : w.cell? (a.add i) with
      | none => simp [hcc] at hcs
      | some c =>
        simp [hcc] at hcs
        exact ⟨c, d, rfl, by rw [hcs]; exact hd⟩
    by_cases h0 : cap = 0
    · subst h0
      have : len = 0 := by omega
      subst this
      exact ⟨[], _, rfl, .sl0 _ _⟩
    · obtain ⟨c0, d0, hc0, _⟩ := get 0 (by omega)
      have hs : a.spot = none := by have := World.cell?_spot hc0; simpa [Addr.add] using this
      have hb : a.block < w.heap.size := by have := cell_lt hc0; simpa [Addr.add] using this
      have ad : ∀ i, a.add i = ⟨a.block, a.off + i, none⟩ := by
        intro i
        obtain ⟨ab, ao, asp⟩ := a
        simp only at hs
        subst hs
        simp only [Addr.add]
        split
        · rename_i hi; rw [hi]; rfl
        · rfl
      have pick : ∀ i, ∃ d : α, i < len → ∃ c, w.cell? (a.add i) = some c ∧ Den [] (In w) w (f d) c := by
        intro i
        by_cases hi : i < len
        · obtain ⟨c, d, h1, h2⟩ := get i (by omega)
          exact ⟨d, fun _ => ⟨c, h1, h2⟩⟩
        · exact ⟨d0, fun h => absurd h hi⟩
      let D : Nat → α := fun i => (pick i).choose
      have hD : ∀ i, i < len → ∃ c, w.cell? (a.add i) = some c ∧ Den [] (In w) w (f (D i)) c := fun i => (pick i).choose_spec
      refine ⟨(List.range len).map D, _, rfl, ?_⟩
      have hlen2 : ((List.range len).map D).length = len := by simp
      rw [hlen2]
      have gx : ∀ (j : Nat) (x : AV), (((List.range len).map D).map f)[j]? = some x → j < len ∧ x = f (D j) := by
        intro j x hx
        simp only [List.map_map, List.getElem?_map, Option.map_eq_some_iff, Function.comp] at hx
        obtain ⟨k, hk, rfl⟩ := hx
        obtain ⟨hj, hk⟩ := List.getElem?_eq_some_iff.1 hk
        simp at hj hk
        subst hk
        exact ⟨hj, rfl⟩
      refine .sl len _ cap a (fun j => (w.cell? (a.add j)).getD undef) hl hm hs hb ?_ ?_
      · intro j x hx
        obtain ⟨hj, _⟩ := gx j x hx
        obtain ⟨c, h1, _⟩ := hD j hj
        rw [← ad j, h1]; rfl
      · intro j x hx
        obtain ⟨hj, rfl⟩ := gx j x hx
        obtain ⟨c, h1, h2⟩ := hD j hj
        rw [h1]; exact h2

theorem den_int {e : TypeId} (he : P.underlying e = some (.int .i64)) : ∀ n cs (x : DataW H × List MemPlace), DataW.trod enc P w 0 (fun _ => true) held n e cs = some x → ∃ d v, cs = [v] ∧ Den [] (In w) w (AV.i d) v := by
  intro n cs x h
  obtain ⟨m, rfl, _, _⟩ := DataW.trod_int he h
  exact ⟨m, _, rfl, .v _⟩
end
end Go.Am
end
section
namespace Go.Am
open Go Go.WideShapes
section
variable {P : Program} {w : World}

def DLs (w : World) (l : List AV) (cs : List Value) : Prop := cs.length = l.length ∧ ∀ (j : Nat) (a : AV) (v : Value), l[j]? = some a → cs[j]? = some v → Den [] (In w) w a v

def Opens (P : Program) (t : TypeId) {α : Type} (f : α → List AV) : Prop :=
  ∀ (H : Type) (enc : TypeId × Value → H) (w : World) (held : Bool) (n : Nat) (cs : List Value) (x : DataW H × List MemPlace), DataW.trod enc P w 0 (fun _ => true) held n t cs = some x → ∃ d : α, DLs w (f d) cs

theorem dls_one {a : AV} {v : Value} (h : Den [] (In w) w a v) : DLs w [a] [v] := ⟨rfl, fun j x y hx hy => by
  match j, hx, hy with
  | 0, hx, hy => cases hx; cases hy; exact h⟩

abbrev I64 := {x : Int // -9223372036854775808 ≤ x ∧ x ≤ 9223372036854775807}
abbrev U16 := {x : Int // 0 ≤ x ∧ x ≤ 65535}
abbrev U64 := {x : Int // 0 ≤ x ∧ x ≤ 18446744073709551615}
theorem opens_i64 {t : TypeId} (ht : P.underlying t = some (.int .i64)) : Opens P t (fun d : I64 => [AV.i d.val]) := by
  intro H enc w held n cs x h
  obtain ⟨m, rfl, _, hw⟩ := DataW.trod_int ht h
  simp only [Lit.wf, decide_eq_true_eq, Bool.and_eq_true] at hw
  exact ⟨⟨m, hw⟩, dls_one (.v _)⟩
theorem opens_u16 {t : TypeId} (ht : P.underlying t = some (.int .u16)) : Opens P t (fun d : U16 => [.v (.int .u16 d.val)]) := by
  intro H enc w held n cs x h
  obtain ⟨m, rfl, _, hw⟩ := DataW.trod_int ht h
  simp only [Lit.wf, decide_eq_true_eq, Bool.and_eq_true] at hw
  exact ⟨⟨m, hw⟩, dls_one (.v _)⟩
theorem opens_u64 {t : TypeId} (ht : P.underlying t = some (.int .u64)) : Opens P t (fun d : U64 => [.v (.int .u64 d.val)]) := by
  intro H enc w held n cs x h
  obtain ⟨m, rfl, _, hw⟩ := DataW.trod_int ht h
  simp only [Lit.wf, decide_eq_true_eq, Bool.and_eq_true] at hw
  exact ⟨⟨m, hw⟩, dls_one (.v _)⟩
theorem opens_bool {t : TypeId} (ht : P.underlying t = some .bool) : Opens P t (fun d : Bool => [.v (.bool d)]) := by
  intro H enc w held n cs x h
  obtain ⟨m, rfl, _⟩ := DataW.trod_bool ht h
  exact ⟨m, dls_one (.v _)⟩

theorem flat_uni {α : Type} {f : α → List AV} {z : Nat} (hf : ∀ d, (f d).length = z) : ∀ (l : List α) (i k : Nat) (hi : i < l.length), k < z → (l.map f).flatten[i * z + k]? = (f l[i])[k]?
  | [], i, k, hi, _ => by simp at hi
  | d :: l, 0, k, _, hk => by
    rw [List.map_cons, List.flatten_cons, Nat.zero_mul, Nat.zero_add, List.getElem?_append_left (by rw [hf]; exact hk)]
    rfl
  | d :: l, i + 1, k, hi, hk => by
    rw [List.map_cons, List.flatten_cons, List.getElem?_append_right (by rw [hf, Nat.succ_mul]; omega), hf]
    rw [show (i + 1) * z + k - z = i * z + k by rw [Nat.succ_mul]; omega, flat_uni hf l i k (by simpa using hi) hk]
    rfl
theorem flat_unilen {α : Type} {f : α → List AV} {z : Nat} (hf : ∀ d, (f d).length = z) (l : List α) : (l.map f).flatten.length = l.length * z := by
  induction l with
  | nil => simp
  | cons d l ih => rw [List.map_cons, List.flatten_cons, List.length_append, ih, hf, List.length_cons, Nat.succ_mul]; omega

theorem opens_slice {α : Type} {f : α → List AV} {t e : TypeId} {z : Nat} (ht : P.underlying t = some (.slice e)) (hc : P.cellsOf e = z) (hz : 0 < z) (he : Opens P e f) (hf : ∀ d, (f d).length = z) :
    Opens P t (fun l : List α => [.sl l.length (l.map f).flatten]) := by
  intro H enc w held n cs x h
  rcases DataW.trod_slice ht h with ⟨rfl, _⟩ | ⟨a, len, cap, elems, rest, n, _, rfl, _, _, hl, hm, hlen, hel, hsp, _⟩
  · exact ⟨[], dls_one (.sl0 _ _)⟩
  · have get : ∀ i, i < cap → ∃ d cs', (∀ k, k < z → ∃ c, cs'[k]? = some c ∧ w.cell? ((a.add (i * z)).add k) = some c) ∧ DLs w (f d) cs' := by
      intro i hi
      have hb : ∃ y, (w.cells? 0 (a.add (i * P.cellsOf e)) (P.cellsOf e)).bind (DataW.trod enc P w 0 (fun _ => true) held n e) = some y := by
        by_cases h1 : i < len
        · exact ⟨elems[i]'(by omega), by rw [hel i h1, List.getElem?_eq_getElem (by omega)]⟩
        · obtain ⟨hr, hrr⟩ := hsp rfl
          have := hrr (i - len) (by omega)
          rw [show len + (i - len) = i by omega] at this
          exact ⟨rest[i - len]'(by omega), by rw [this, List.getElem?_eq_getElem (by omega)]⟩
      obtain ⟨y, hy⟩ := hb
      rw [hc, Option.bind_eq_some_iff] at hy
      obtain ⟨cs', hcs, hy'⟩ := hy
      obtain ⟨d, hd⟩ := he H enc w held _ _ _ hy'
      refine ⟨d, cs', fun k hk => ?_, hd⟩
      unfold World.cells? at hcs
      rw [if_pos (Nat.zero_le _)] at hcs
      have hk1 := mapM_some_length hcs
      rw [List.length_range] at hk1
      have := mapM_some_get hcs k k (by simp [hk])
      exact ⟨cs'[k]'(by omega), List.getElem?_eq_getElem (by omega), by rw [this, List.getElem?_eq_getElem (by omega)]⟩
    by_cases h0 : cap = 0
    · subst h0
      have : len = 0 := by omega
      subst this
      exact ⟨[], dls_one (.sl0 _ _)⟩
    · obtain ⟨d0, cs0, hc0, _⟩ := get 0 (by omega)
      obtain ⟨c0, _, hcc⟩ := hc0 0 hz
      have e00 : (a.add (0 * z)).add 0 = a := by simp [Addr.add]
      rw [e00] at hcc
      have hs : a.spot = none := World.cell?_spot hcc
      have hb : a.block < w.heap.size := cell_lt hcc
      have ad : ∀ i, a.add i = ⟨a.block, a.off + i, none⟩ := by
        intro i
        obtain ⟨ab, ao, asp⟩ := a
        simp only at hs
        subst hs
        simp only [Addr.add]
        split
        · rename_i hi; rw [hi]; rfl
        · rfl
      have ad2 : ∀ i k, (a.add i).add k = ⟨a.block, a.off + (i + k), none⟩ := by
        intro i k
        rw [ad i]
        simp only [Addr.add]
        split
        · rename_i hi; rw [hi]; simp
        · simp
      have pick : ∀ i, ∃ d : α, i < len → ∃ cs', (∀ k, k < z → ∃ c, cs'[k]? = some c ∧ w.cell? ⟨a.block, a.off + (i * z + k), none⟩ = some c) ∧ DLs w (f d) cs' := by
        intro i
        by_cases hi : i < len
        · obtain ⟨d, cs', h1, h2⟩ := get i (by omega)
          exact ⟨d, fun _ => ⟨cs', fun k hk => by obtain ⟨c, h3, h4⟩ := h1 k hk; exact ⟨c, h3, by rw [← ad2]; exact h4⟩, h2⟩⟩
        · exact ⟨d0, fun h => absurd h hi⟩
      let D : Nat → α := fun i => (pick i).choose
      have hD : ∀ i, i < len → ∃ cs', (∀ k, k < z → ∃ c, cs'[k]? = some c ∧ w.cell? ⟨a.block, a.off + (i * z + k), none⟩ = some c) ∧ DLs w (f (D i)) cs' := fun i => (pick i).choose_spec
      refine ⟨(List.range len).map D, dls_one ?_⟩
      have hlen2 : ((List.range len).map D).length = len := by simp
      have key : ∀ (j : Nat) (x : AV), (((List.range len).map D).map f).flatten[j]? = some x → ∃ c, w.cell? ⟨a.block, a.off + j, none⟩ = some c ∧ Den [] (In w) w x c := by
        intro j x hx
        have hj : j < len * z := by
          have h1 := (List.getElem?_eq_some_iff.1 hx).1
          rw [flat_unilen hf, hlen2] at h1
          exact h1
        have hdiv : j / z < len := Nat.div_lt_of_lt_mul (by rw [Nat.mul_comm]; exact hj)
        have hmod : j % z < z := Nat.mod_lt _ hz
        have hjj : j / z * z + j % z = j := by rw [Nat.mul_comm]; exact Nat.div_add_mod j z
        have h2 := flat_uni hf ((List.range len).map D) (j / z) (j % z) (by rw [hlen2]; exact hdiv) hmod
        rw [hjj] at h2
        rw [h2] at hx
        simp only [List.getElem_map, List.getElem_range] at hx
        obtain ⟨cs', h3, h4⟩ := hD (j / z) hdiv
        obtain ⟨c, h5, h6⟩ := h3 (j % z) hmod
        rw [hjj] at h6
        exact ⟨c, h6, h4.2 _ _ _ hx h5⟩
      have ha : a = ⟨a.block, a.off, none⟩ := by obtain ⟨ab, ao, asp⟩ := a; simp only at hs; subst hs; rfl
      rw [hlen2]
      refine Den.sl (I := In w) _ _ cap a (fun j => (w.cell? ⟨a.block, a.off + j, none⟩).getD undef) hl hm hs hb ?_ ?_
      · intro j x hx
        obtain ⟨c, h1, _⟩ := key j x hx
        rw [h1]; rfl
      · intro j x hx
        obtain ⟨c, h1, h2⟩ := key j x hx
        rw [h1]; exact h2

theorem dls_split {cs : List Value} {o z : Nat} {l l' : List AV} (h1 : DLs w l ((cs.drop o).take z)) (hz : l.length = z) (h2 : DLs w l' (cs.drop (o + z))) : DLs w (l ++ l') (cs.drop o) := by
  subst hz
  have e : cs.drop o = (cs.drop o).take l.length ++ cs.drop (o + l.length) := by rw [← List.drop_drop]; exact (List.take_append_drop _ _).symm
  have hl := h1.1
  refine ⟨by rw [e, List.length_append, List.length_append, h1.1, h2.1], fun j a v ha hv => ?_⟩
  rw [e] at hv
  rw [List.getElem?_append] at ha hv
  by_cases hj : j < l.length
  · rw [if_pos hj] at ha
    rw [if_pos (by rw [hl]; exact hj)] at hv
    exact h1.2 j a v ha hv
  · rw [if_neg hj] at ha
    rw [if_neg (by rw [hl]; exact hj), hl] at hv
    exact h2.2 _ a v ha hv
theorem dls_end {cs : List Value} {o : Nat} (h : cs.length = o) : DLs w [] (cs.drop o) := ⟨by rw [List.drop_of_length_le (by omega)]; rfl, fun j a v ha _ => by simp at ha⟩

theorem opens_array {α : Type} {f : α → List AV} {t e : TypeId} {z m : Nat} [Inhabited α] (ht : P.underlying t = some (.array m e)) (hc : P.cellsOf e = z) (hct : P.cellsOf t = m * z) (he : Opens P e f) (hf : ∀ d, (f d).length = z) :
    Opens P t (fun l : {l : List α // l.length = m} => (l.val.map f).flatten) := by
  intro H enc w held n cs x h
  obtain ⟨xs, k, _, rfl, hl, hlen, hg⟩ := DataW.trod_array ht h
  have pick : ∀ i, ∃ d : α, i < m → DLs w (f d) ((cs.drop (i * z)).take z) := by
    intro i
    by_cases hi : i < m
    · have h1 := hg i hi
      rw [hc, List.getElem?_eq_getElem (by omega)] at h1
      obtain ⟨d, hd⟩ := he H enc w held _ _ _ h1
      exact ⟨d, fun _ => hd⟩
    · exact ⟨default, fun h => absurd h hi⟩
  let D : Nat → α := fun i => (pick i).choose
  have hD : ∀ i, i < m → DLs w (f (D i)) ((cs.drop (i * z)).take z) := fun i => (pick i).choose_spec
  have key : ∀ k, k ≤ m → DLs w (((List.range m).drop (m - k)).map fun i => f (D i)).flatten (cs.drop ((m - k) * z)) := by
    intro k
    induction k with
    | zero =>
      intro _
      rw [Nat.sub_zero, List.drop_of_length_le (by simp)]
      exact dls_end (by rw [hl, hct])
    | succ k ih =>
      intro hk
      have e : (List.range m).drop (m - (k + 1)) = (m - (k + 1)) :: (List.range m).drop (m - k) := by
        rw [List.drop_eq_getElem_cons (by simp; omega)]
        simp only [List.getElem_range]
        congr 1
        congr 1
        omega
      rw [e, List.map_cons, List.flatten_cons]
      refine dls_split (z := z) (hD _ (by omega)) (hf _) ?_
      have := ih (by omega)
      rwa [show (m - (k + 1)) * z + z = (m - k) * z by rw [← Nat.succ_mul]; congr 1; omega]
  refine ⟨⟨(List.range m).map D, by simp⟩, ?_⟩
  have := key m (Nat.le_refl _)
  rw [Nat.sub_self, Nat.zero_mul, List.drop_zero, List.drop_zero] at this
  simpa [List.map_map, Function.comp_def] using this

/-- A struct or array that came in. -/
theorem open_agg {α : Type} {f : α → List AV} {t : TypeId} (h : Opens P t f) {H : Type} {enc : TypeId × Value → H} {cs : Array Value} {d : DataW H} {p : List MemPlace}
    (ht : DataW.Trod enc P w 0 (fun _ => true) true t (.agg cs) d p) : ∃ d : α, Den [] (In w) w (.agg (f d)) (.agg cs) := by
  obtain ⟨fuel, hf⟩ := ht
  obtain ⟨d, h1, h2⟩ := h _ _ _ _ _ _ _ hf
  have e : (Value.agg cs).cells.toList = cs.toList := rfl
  rw [e] at h1 h2
  exact ⟨d, .agg _ _ (by simpa using h1) fun j a v ha hv => h2 j a v ha (by simpa using hv)⟩
end
end Go.Am
end
section
set_option linter.unusedVariables false
namespace Go.Proofs.Ytaoondlakhocnaa
open Go Go.Am

instance : Inhabited I64 := ⟨⟨0, by decide⟩⟩
instance : Inhabited U16 := ⟨⟨0, by decide⟩⟩
theorem flat_one {α : Type} (g : α → AV) (l : List α) : (l.map fun d => [g d]).flatten = l.map g := by induction l with | nil => rfl | cons a l ih => rw [List.map_cons, List.flatten_cons, ih]; rfl
theorem co64 : Try.prog.cellsOf 64 = 4 := by kernel_rfl
theorem co24 : Try.prog.cellsOf 24 = 1 := by kernel_rfl
theorem co22 : Try.prog.cellsOf 22 = 1 := by kernel_rfl
theorem co28 : Try.prog.cellsOf 28 = 1 := by kernel_rfl
theorem co2 : Try.prog.cellsOf 2 = 1 := by kernel_rfl
abbrev D2 := I64
abbrev c2 : D2 → List AV := fun d => [.v (.int .i64 d.val)]
theorem cl2 (d : D2) : (c2 d).length = 1 := rfl
theorem opens2 : Opens Try.prog 2 c2 := opens_i64 Try.underlying2
abbrev D28 := List D2
abbrev c28 : D28 → List AV := fun l => [.sl l.length (l.map c2).flatten]
theorem cl28 (d : D28) : (c28 d).length = 1 := rfl
theorem opens28 : Opens Try.prog 28 c28 := opens_slice Try.underlying28 co2 (by decide) opens2 cl2
abbrev D22 := List D28
abbrev c22 : D22 → List AV := fun l => [.sl l.length (l.map c28).flatten]
theorem cl22 (d : D22) : (c22 d).length = 1 := rfl
theorem opens22 : Opens Try.prog 22 c22 := opens_slice Try.underlying22 co28 (by decide) opens28 cl28
abbrev D24 := D22
abbrev c24 : D24 → List AV := fun d => c22 d ++ ([])
theorem cl24 (d : D24) : (c24 d).length = 1 := rfl
theorem opens24 : Opens Try.prog 24 c24 := by
  intro H enc w held n cs x h
  obtain ⟨xs, m, _, rfl, hl, hlen, hf⟩ := DataW.trod_struct Try.underlying24 h
  rw [co24] at hl
  have g0 := hf 0 _ rfl
  rw [List.getElem?_eq_getElem (by rw [hlen]; decide)] at g0
  obtain ⟨d0, E0⟩ := opens22 _ _ _ _ _ _ _ g0
  have D0 : DLs w (c22 d0) ((cs.drop 0).take (Try.prog.cellsOf 22)) := E0
  rw [co22] at D0
  refine ⟨d0, ?_⟩
  have key : DLs w (c24 d0) (cs.drop 0) := dls_split D0 (cl22 _) (dls_end (by rw [hl]))
  rwa [List.drop_zero] at key
theorem co3 : Try.prog.cellsOf 3 = 1 := by kernel_rfl
abbrev D3 := I64
abbrev c3 : D3 → List AV := fun d => [.v (.int .i64 d.val)]
theorem cl3 (d : D3) : (c3 d).length = 1 := rfl
theorem opens3 : Opens Try.prog 3 c3 := opens_i64 Try.underlying3
theorem co25 : Try.prog.cellsOf 25 = 1 := by kernel_rfl
theorem co56 : Try.prog.cellsOf 56 = 3 := by kernel_rfl
abbrev D56 := D2 × D2 × D3
abbrev c56 : D56 → List AV := fun d => c2 d.1 ++ (c2 d.2.1 ++ (c3 d.2.2 ++ ([])))
theorem cl56 (d : D56) : (c56 d).length = 3 := rfl
theorem opens56 : Opens Try.prog 56 c56 := by
  intro H enc w held n cs x h
  obtain ⟨xs, m, _, rfl, hl, hlen, hf⟩ := DataW.trod_struct Try.underlying56 h
  rw [co56] at hl
  have g0 := hf 0 _ rfl
  rw [List.getElem?_eq_getElem (by rw [hlen]; decide)] at g0
  obtain ⟨d0, E0⟩ := opens2 _ _ _ _ _ _ _ g0
  have D0 : DLs w (c2 d0) ((cs.drop 0).take (Try.prog.cellsOf 2)) := E0
  rw [co2] at D0
  have g1 := hf 1 _ rfl
  rw [List.getElem?_eq_getElem (by rw [hlen]; decide)] at g1
  obtain ⟨d1, E1⟩ := opens2 _ _ _ _ _ _ _ g1
  have D1 : DLs w (c2 d1) ((cs.drop 1).take (Try.prog.cellsOf 2)) := E1
  rw [co2] at D1
  have g2 := hf 2 _ rfl
  rw [List.getElem?_eq_getElem (by rw [hlen]; decide)] at g2
  obtain ⟨d2, E2⟩ := opens3 _ _ _ _ _ _ _ g2
  have D2 : DLs w (c3 d2) ((cs.drop 2).take (Try.prog.cellsOf 3)) := E2
  rw [co3] at D2
  refine ⟨(d0, d1, d2), ?_⟩
  have key : DLs w (c56 (d0, d1, d2)) (cs.drop 0) := dls_split D0 (cl2 _) (dls_split D1 (cl2 _) (dls_split D2 (cl3 _) (dls_end (by rw [hl]))))
  rwa [List.drop_zero] at key
abbrev D25 := List D56
abbrev c25 : D25 → List AV := fun l => [.sl l.length (l.map c56).flatten]
theorem cl25 (d : D25) : (c25 d).length = 1 := rfl
theorem opens25 : Opens Try.prog 25 c25 := opens_slice Try.underlying25 co56 (by decide) opens56 cl56
abbrev D64 := D24 × D3 × D2 × D25
abbrev c64 : D64 → List AV := fun d => c24 d.1 ++ (c3 d.2.1 ++ (c2 d.2.2.1 ++ (c25 d.2.2.2 ++ ([]))))
theorem cl64 (d : D64) : (c64 d).length = 4 := rfl
theorem opens64 : Opens Try.prog 64 c64 := by
  intro H enc w held n cs x h
  obtain ⟨xs, m, _, rfl, hl, hlen, hf⟩ := DataW.trod_struct Try.underlying64 h
  rw [co64] at hl
  have g0 := hf 0 _ rfl
  rw [List.getElem?_eq_getElem (by rw [hlen]; decide)] at g0
  obtain ⟨d0, E0⟩ := opens24 _ _ _ _ _ _ _ g0
  have D0 : DLs w (c24 d0) ((cs.drop 0).take (Try.prog.cellsOf 24)) := E0
  rw [co24] at D0
  have g1 := hf 1 _ rfl
  rw [List.getElem?_eq_getElem (by rw [hlen]; decide)] at g1
  obtain ⟨d1, E1⟩ := opens3 _ _ _ _ _ _ _ g1
  have D1 : DLs w (c3 d1) ((cs.drop 1).take (Try.prog.cellsOf 3)) := E1
  rw [co3] at D1
  have g2 := hf 2 _ rfl
  rw [List.getElem?_eq_getElem (by rw [hlen]; decide)] at g2
  obtain ⟨d2, E2⟩ := opens2 _ _ _ _ _ _ _ g2
  have D2 : DLs w (c2 d2) ((cs.drop 2).take (Try.prog.cellsOf 2)) := E2
  rw [co2] at D2
  have g3 := hf 3 _ rfl
  rw [List.getElem?_eq_getElem (by rw [hlen]; decide)] at g3
  obtain ⟨d3, E3⟩ := opens25 _ _ _ _ _ _ _ g3
  have D3 : DLs w (c25 d3) ((cs.drop 3).take (Try.prog.cellsOf 25)) := E3
  rw [co25] at D3
  refine ⟨(d0, d1, d2, d3), ?_⟩
  have key : DLs w (c64 (d0, d1, d2, d3)) (cs.drop 0) := dls_split D0 (cl24 _) (dls_split D1 (cl3 _) (dls_split D2 (cl2 _) (dls_split D3 (cl25 _) (dls_end (by rw [hl])))))
  rwa [List.drop_zero] at key
theorem co46 : Try.prog.cellsOf 46 = 5 := by kernel_rfl
abbrev D46 := D3 × D2 × D2 × D2 × D3
abbrev c46 : D46 → List AV := fun d => c3 d.1 ++ (c2 d.2.1 ++ (c2 d.2.2.1 ++ (c2 d.2.2.2.1 ++ (c3 d.2.2.2.2 ++ ([])))))
theorem cl46 (d : D46) : (c46 d).length = 5 := rfl
theorem opens46 : Opens Try.prog 46 c46 := by
  intro H enc w held n cs x h
  obtain ⟨xs, m, _, rfl, hl, hlen, hf⟩ := DataW.trod_struct Try.underlying46 h
  rw [co46] at hl
  have g0 := hf 0 _ rfl
  rw [List.getElem?_eq_getElem (by rw [hlen]; decide)] at g0
  obtain ⟨d0, E0⟩ := opens3 _ _ _ _ _ _ _ g0
  have D0 : DLs w (c3 d0) ((cs.drop 0).take (Try.prog.cellsOf 3)) := E0
  rw [co3] at D0
  have g1 := hf 1 _ rfl
  rw [List.getElem?_eq_getElem (by rw [hlen]; decide)] at g1
  obtain ⟨d1, E1⟩ := opens2 _ _ _ _ _ _ _ g1
  have D1 : DLs w (c2 d1) ((cs.drop 1).take (Try.prog.cellsOf 2)) := E1
  rw [co2] at D1
  have g2 := hf 2 _ rfl
  rw [List.getElem?_eq_getElem (by rw [hlen]; decide)] at g2
  obtain ⟨d2, E2⟩ := opens2 _ _ _ _ _ _ _ g2
  have D2 : DLs w (c2 d2) ((cs.drop 2).take (Try.prog.cellsOf 2)) := E2
  rw [co2] at D2
  have g3 := hf 3 _ rfl
  rw [List.getElem?_eq_getElem (by rw [hlen]; decide)] at g3
  obtain ⟨d3, E3⟩ := opens2 _ _ _ _ _ _ _ g3
  have D3 : DLs w (c2 d3) ((cs.drop 3).take (Try.prog.cellsOf 2)) := E3
  rw [co2] at D3
  have g4 := hf 4 _ rfl
  rw [List.getElem?_eq_getElem (by rw [hlen]; decide)] at g4
  obtain ⟨d4, E4⟩ := opens3 _ _ _ _ _ _ _ g4
  have D4 : DLs w (c3 d4) ((cs.drop 4).take (Try.prog.cellsOf 3)) := E4
  rw [co3] at D4
  refine ⟨(d0, d1, d2, d3, d4), ?_⟩
  have key : DLs w (c46 (d0, d1, d2, d3, d4)) (cs.drop 0) := dls_split D0 (cl3 _) (dls_split D1 (cl2 _) (dls_split D2 (cl2 _) (dls_split D3 (cl2 _) (dls_split D4 (cl3 _) (dls_end (by rw [hl]))))))
  rwa [List.drop_zero] at key
theorem co51 : Try.prog.cellsOf 51 = 3 := by kernel_rfl
theorem co50 : Try.prog.cellsOf 50 = 1 := by kernel_rfl
abbrev D50 := U16
abbrev c50 : D50 → List AV := fun d => [.v (.int .u16 d.val)]
theorem cl50 (d : D50) : (c50 d).length = 1 := rfl
theorem opens50 : Opens Try.prog 50 c50 := opens_u16 Try.underlying50
abbrev D51 := {l : List D50 // l.length = 3}
abbrev c51 : D51 → List AV := fun l => (l.val.map c50).flatten
theorem cl51 (d : D51) : (c51 d).length = 3 := by rw [flat_unilen cl50, d.property]
theorem opens51 : Opens Try.prog 51 c51 := opens_array Try.underlying51 co50 (by rw [co51]) opens50 cl50
theorem co53 : Try.prog.cellsOf 53 = 2 := by kernel_rfl
abbrev D53 := {l : List D2 // l.length = 2}
abbrev c53 : D53 → List AV := fun l => (l.val.map c2).flatten
theorem cl53 (d : D53) : (c53 d).length = 2 := by rw [flat_unilen cl2, d.property]
theorem opens53 : Opens Try.prog 53 c53 := opens_array Try.underlying53 co2 (by rw [co53]) opens2 cl2
theorem co58 : Try.prog.cellsOf 58 = 2 := by kernel_rfl
abbrev D58 := {l : List D3 // l.length = 2}
abbrev c58 : D58 → List AV := fun l => (l.val.map c3).flatten
theorem cl58 (d : D58) : (c58 d).length = 2 := by rw [flat_unilen cl3, d.property]
theorem opens58 : Opens Try.prog 58 c58 := opens_array Try.underlying58 co3 (by rw [co58]) opens3 cl3
theorem co31 : Try.prog.cellsOf 31 = 3 := by kernel_rfl
abbrev D31 := {l : List D2 // l.length = 3}
abbrev c31 : D31 → List AV := fun l => (l.val.map c2).flatten
theorem cl31 (d : D31) : (c31 d).length = 3 := by rw [flat_unilen cl2, d.property]
theorem opens31 : Opens Try.prog 31 c31 := opens_array Try.underlying31 co2 (by rw [co31]) opens2 cl2
theorem co27 : Try.prog.cellsOf 27 = 7 := by kernel_rfl
abbrev D27 := D24 × D3 × D3 × D3 × D2 × D25 × D25
abbrev c27 : D27 → List AV := fun d => c24 d.1 ++ (c3 d.2.1 ++ (c3 d.2.2.1 ++ (c3 d.2.2.2.1 ++ (c2 d.2.2.2.2.1 ++ (c25 d.2.2.2.2.2.1 ++ (c25 d.2.2.2.2.2.2 ++ ([])))))))
theorem cl27 (d : D27) : (c27 d).length = 7 := rfl
theorem opens27 : Opens Try.prog 27 c27 := by
  intro H enc w held n cs x h
  obtain ⟨xs, m, _, rfl, hl, hlen, hf⟩ := DataW.trod_struct Try.underlying27 h
  rw [co27] at hl
  have g0 := hf 0 _ rfl
  rw [List.getElem?_eq_getElem (by rw [hlen]; decide)] at g0
  obtain ⟨d0, E0⟩ := opens24 _ _ _ _ _ _ _ g0
  have D0 : DLs w (c24 d0) ((cs.drop 0).take (Try.prog.cellsOf 24)) := E0
  rw [co24] at D0
  have g1 := hf 1 _ rfl
  rw [List.getElem?_eq_getElem (by rw [hlen]; decide)] at g1
  obtain ⟨d1, E1⟩ := opens3 _ _ _ _ _ _ _ g1
  have D1 : DLs w (c3 d1) ((cs.drop 1).take (Try.prog.cellsOf 3)) := E1
  rw [co3] at D1
  have g2 := hf 2 _ rfl
  rw [List.getElem?_eq_getElem (by rw [hlen]; decide)] at g2
  obtain ⟨d2, E2⟩ := opens3 _ _ _ _ _ _ _ g2
  have D2 : DLs w (c3 d2) ((cs.drop 2).take (Try.prog.cellsOf 3)) := E2
  rw [co3] at D2
  have g3 := hf 3 _ rfl
  rw [List.getElem?_eq_getElem (by rw [hlen]; decide)] at g3
  obtain ⟨d3, E3⟩ := opens3 _ _ _ _ _ _ _ g3
  have D3 : DLs w (c3 d3) ((cs.drop 3).take (Try.prog.cellsOf 3)) := E3
  rw [co3] at D3
  have g4 := hf 4 _ rfl
  rw [List.getElem?_eq_getElem (by rw [hlen]; decide)] at g4
  obtain ⟨d4, E4⟩ := opens2 _ _ _ _ _ _ _ g4
  have D4 : DLs w (c2 d4) ((cs.drop 4).take (Try.prog.cellsOf 2)) := E4
  rw [co2] at D4
  have g5 := hf 5 _ rfl
  rw [List.getElem?_eq_getElem (by rw [hlen]; decide)] at g5
  obtain ⟨d5, E5⟩ := opens25 _ _ _ _ _ _ _ g5
  have D5 : DLs w (c25 d5) ((cs.drop 5).take (Try.prog.cellsOf 25)) := E5
  rw [co25] at D5
  have g6 := hf 6 _ rfl
  rw [List.getElem?_eq_getElem (by rw [hlen]; decide)] at g6
  obtain ⟨d6, E6⟩ := opens25 _ _ _ _ _ _ _ g6
  have D6 : DLs w (c25 d6) ((cs.drop 6).take (Try.prog.cellsOf 25)) := E6
  rw [co25] at D6
  refine ⟨(d0, d1, d2, d3, d4, d5, d6), ?_⟩
  have key : DLs w (c27 (d0, d1, d2, d3, d4, d5, d6)) (cs.drop 0) := dls_split D0 (cl24 _) (dls_split D1 (cl3 _) (dls_split D2 (cl3 _) (dls_split D3 (cl3 _) (dls_split D4 (cl2 _) (dls_split D5 (cl25 _) (dls_split D6 (cl25 _) (dls_end (by rw [hl]))))))))
  rwa [List.drop_zero] at key
theorem co4 : Try.prog.cellsOf 4 = 1 := by kernel_rfl
abbrev D4 := Bool
abbrev c4 : D4 → List AV := fun d => [.v (.bool d)]
theorem cl4 (d : D4) : (c4 d).length = 1 := rfl
theorem opens4 : Opens Try.prog 4 c4 := opens_bool Try.underlying4
theorem co30 : Try.prog.cellsOf 30 = 2 := by kernel_rfl
abbrev D30 := D28 × D28
abbrev c30 : D30 → List AV := fun d => c28 d.1 ++ (c28 d.2 ++ ([]))
theorem cl30 (d : D30) : (c30 d).length = 2 := rfl
theorem opens30 : Opens Try.prog 30 c30 := by
  intro H enc w held n cs x h
  obtain ⟨xs, m, _, rfl, hl, hlen, hf⟩ := DataW.trod_struct Try.underlying30 h
  rw [co30] at hl
  have g0 := hf 0 _ rfl
  rw [List.getElem?_eq_getElem (by rw [hlen]; decide)] at g0
  obtain ⟨d0, E0⟩ := opens28 _ _ _ _ _ _ _ g0
  have D0 : DLs w (c28 d0) ((cs.drop 0).take (Try.prog.cellsOf 28)) := E0
  rw [co28] at D0
  have g1 := hf 1 _ rfl
  rw [List.getElem?_eq_getElem (by rw [hlen]; decide)] at g1
  obtain ⟨d1, E1⟩ := opens28 _ _ _ _ _ _ _ g1
  have D1 : DLs w (c28 d1) ((cs.drop 1).take (Try.prog.cellsOf 28)) := E1
  rw [co28] at D1
  refine ⟨(d0, d1), ?_⟩
  have key : DLs w (c30 (d0, d1)) (cs.drop 0) := dls_split D0 (cl28 _) (dls_split D1 (cl28 _) (dls_end (by rw [hl])))
  rwa [List.drop_zero] at key
end Go.Proofs.Ytaoondlakhocnaa
end
section
set_option linter.unusedVariables false
set_option linter.unusedSimpArgs false
namespace Go.Proofs.Ytaoondlakhocnaa
open Go Go.Am Go.ChangeShapes Go.WideShapes Go.ChangeAt Go.RowKit

abbrev tbOf (d : D24) : Tb := d.map fun r => r.map (·.val)
abbrev stOf (d : D56) : Stp := ⟨d.1.val, d.2.1.val, d.2.2.val⟩
theorem c24_eq (d : D24) : c24 d = [rowsAV (tbOf d)] := by
  simp only [c24, c22, c28, c2, flat_one, List.append_nil, rowsAV, rowAV, tbOf, List.length_map, List.map_map, Function.comp_def]
theorem c25_eq (d : D25) : c25 d = [stopsAV (d.map stOf)] := by
  simp only [c25, c56, c2, c3, stopsAV, flatS, List.length_map, List.map_map, Function.comp_def]
  rfl
theorem c28_eq (d : D28) : c28 d = [rowAV (d.map fun x => x.val)] := by
  simp only [c28, c2, flat_one, rowAV, List.length_map, List.map_map, Function.comp_def]
theorem c56_eq (d : D56) : c56 d = stC (stOf d) := rfl

section
variable {H : Type} {enc : TypeId × Value → H} {W : World} {base : Nat} {r : Reach} {v : Value} {d : DataW H} {p : List MemPlace}
theorem open_24 (hval : Value.okWide Try.prog W r base 24 v) (h : DataW.Trod enc Try.prog W 0 (fun _ => true) true 24 v d p) : ∃ rows : Tb, Den [] (In W) W (.agg [rowsAV rows]) v := by
  obtain ⟨cs, rfl, hs⟩ := okWide_struct Try.underlying24 hval
  obtain ⟨x, hx⟩ := open_agg opens24 h
  rw [c24_eq] at hx
  exact ⟨_, hx⟩
theorem open_56 (hval : Value.okWide Try.prog W r base 56 v) (h : DataW.Trod enc Try.prog W 0 (fun _ => true) true 56 v d p) : ∃ s : Stp, Den [] (In W) W (.agg (stC s)) v := by
  obtain ⟨cs, rfl, hs⟩ := okWide_struct Try.underlying56 hval
  obtain ⟨x, hx⟩ := open_agg opens56 h
  exact ⟨stOf x, hx⟩
theorem open_64 (hval : Value.okWide Try.prog W r base 64 v) (h : DataW.Trod enc Try.prog W 0 (fun _ => true) true 64 v d p) :
    ∃ (rows : Tb) (per balls : Int) (l : List Stp), Den [] (In W) W (.agg [rowsAV rows, AV.i per, AV.i balls, stopsAV l]) v := by
  obtain ⟨cs, rfl, hs⟩ := okWide_struct Try.underlying64 hval
  obtain ⟨x, hx⟩ := open_agg opens64 h
  have e : c64 x = [rowsAV (tbOf x.1), AV.i x.2.1.val, AV.i x.2.2.1.val, stopsAV (x.2.2.2.map stOf)] := by
    show c24 x.1 ++ (c3 x.2.1 ++ (c2 x.2.2.1 ++ (c25 x.2.2.2 ++ []))) = _
    rw [c24_eq, c25_eq]; rfl
  rw [e] at hx
  exact ⟨_, _, _, _, hx⟩
theorem open_46 (hval : Value.okWide Try.prog W r base 46 v) (h : DataW.Trod enc Try.prog W 0 (fun _ => true) true 46 v d p) :
    ∃ (a b c e f : Int), Den [] (In W) W (.agg [AV.i a, AV.i b, AV.i c, AV.i e, AV.i f]) v := by
  obtain ⟨cs, rfl, hs⟩ := okWide_struct Try.underlying46 hval
  obtain ⟨x, hx⟩ := open_agg opens46 h
  exact ⟨_, _, _, _, _, hx⟩
theorem open_2 (hval : Value.okWide Try.prog W r base 2 v) (h : DataW.Trod enc Try.prog W 0 (fun _ => true) true 2 v d p) : ∃ n : Int, Den [] (In W) W (AV.i n) v := by
  obtain ⟨fuel, hf⟩ := h
  obtain ⟨n, rfl⟩ := okWide_int Try.underlying2 hval
  exact ⟨n, by obtain ⟨m, hm, _⟩ := DataW.trod_int Try.underlying2 hf; cases hm; exact .v _⟩
theorem open_3 (hval : Value.okWide Try.prog W r base 3 v) (h : DataW.Trod enc Try.prog W 0 (fun _ => true) true 3 v d p) : ∃ n : Int, Den [] (In W) W (AV.i n) v := by
  obtain ⟨fuel, hf⟩ := h
  obtain ⟨n, rfl⟩ := okWide_int Try.underlying3 hval
  exact ⟨n, by obtain ⟨m, hm, _⟩ := DataW.trod_int Try.underlying3 hf; cases hm; exact .v _⟩
theorem list3 {α : Type} {l : List α} (h : l.length = 3) : ∃ x y z, l = [x, y, z] := by
  match l, h with
  | [x, y, z], _ => exact ⟨x, y, z, rfl⟩
theorem list2 {α : Type} {l : List α} (h : l.length = 2) : ∃ x y, l = [x, y] := by
  match l, h with
  | [x, y], _ => exact ⟨x, y, rfl⟩
theorem okWide_arr {t e : TypeId} {n : Nat} (ht : Try.prog.underlying t = some (.array n e)) (hval : Value.okWide Try.prog W r base t v) : ∃ cs, v = .agg cs := by
  simp only [Value.okWide, ht, Cell.okWide] at hval
  cases v <;> simp_all [Cell.ok]
theorem open_51 (hval : Value.okWide Try.prog W r base 51 v) (h : DataW.Trod enc Try.prog W 0 (fun _ => true) true 51 v d p) :
    ∃ (x y z : Int), (0 ≤ x ∧ x ≤ 65535) ∧ (0 ≤ y ∧ y ≤ 65535) ∧ (0 ≤ z ∧ z ≤ 65535) ∧ Den [] (In W) W (.agg [.v (.int .u16 x), .v (.int .u16 y), .v (.int .u16 z)]) v := by
  obtain ⟨cs, rfl⟩ := okWide_arr Try.underlying51 hval
  obtain ⟨x, hx⟩ := open_agg opens51 h
  obtain ⟨a, b, c, e⟩ := list3 x.property
  have e2 : c51 x = [.v (.int .u16 a.val), .v (.int .u16 b.val), .v (.int .u16 c.val)] := by
    show (x.val.map c50).flatten = _
    rw [e]; rfl
  rw [e2] at hx
  exact ⟨_, _, _, a.property, b.property, c.property, hx⟩
theorem open_53 (hval : Value.okWide Try.prog W r base 53 v) (h : DataW.Trod enc Try.prog W 0 (fun _ => true) true 53 v d p) :
    ∃ (x y : Int), Den [] (In W) W (.agg [AV.i x, AV.i y]) v := by
  obtain ⟨cs, rfl⟩ := okWide_arr Try.underlying53 hval
  obtain ⟨x, hx⟩ := open_agg opens53 h
  obtain ⟨a, b, e⟩ := list2 x.property
  have e2 : c53 x = [AV.i a.val, AV.i b.val] := by
    show (x.val.map c2).flatten = _
    rw [e]; rfl
  rw [e2] at hx
  exact ⟨_, _, hx⟩
theorem open_58 (hval : Value.okWide Try.prog W r base 58 v) (h : DataW.Trod enc Try.prog W 0 (fun _ => true) true 58 v d p) :
    ∃ (x y : Int), Den [] (In W) W (.agg [AV.i x, AV.i y]) v := by
  obtain ⟨cs, rfl⟩ := okWide_arr Try.underlying58 hval
  obtain ⟨x, hx⟩ := open_agg opens58 h
  obtain ⟨a, b, e⟩ := list2 x.property
  have e2 : c58 x = [AV.i a.val, AV.i b.val] := by
    show (x.val.map c3).flatten = _
    rw [e]; rfl
  rw [e2] at hx
  exact ⟨_, _, hx⟩
theorem open_31 (hval : Value.okWide Try.prog W r base 31 v) (h : DataW.Trod enc Try.prog W 0 (fun _ => true) true 31 v d p) :
    ∃ (x y z : Int), Den [] (In W) W (.agg [AV.i x, AV.i y, AV.i z]) v := by
  obtain ⟨cs, rfl⟩ := okWide_arr Try.underlying31 hval
  obtain ⟨x, hx⟩ := open_agg opens31 h
  obtain ⟨a, b, c, e⟩ := list3 x.property
  have e2 : c31 x = [AV.i a.val, AV.i b.val, AV.i c.val] := by
    show (x.val.map c2).flatten = _
    rw [e]; rfl
  rw [e2] at hx
  exact ⟨_, _, _, hx⟩
theorem open_27 (hval : Value.okWide Try.prog W r base 27 v) (h : DataW.Trod enc Try.prog W 0 (fun _ => true) true 27 v d p) :
    ∃ (rows : Tb) (per tot wth balls : Int) (l m : List Stp), Den [] (In W) W (.agg [rowsAV rows, AV.i per, AV.i tot, AV.i wth, AV.i balls, stopsAV l, stopsAV m]) v := by
  obtain ⟨cs, rfl, hs⟩ := okWide_struct Try.underlying27 hval
  obtain ⟨x, hx⟩ := open_agg opens27 h
  have e : c27 x = [rowsAV (tbOf x.1), AV.i x.2.1.val, AV.i x.2.2.1.val, AV.i x.2.2.2.1.val, AV.i x.2.2.2.2.1.val, stopsAV (x.2.2.2.2.2.1.map stOf), stopsAV (x.2.2.2.2.2.2.map stOf)] := by
    show c24 x.1 ++ (c3 x.2.1 ++ (c3 x.2.2.1 ++ (c3 x.2.2.2.1 ++ (c2 x.2.2.2.2.1 ++ (c25 x.2.2.2.2.2.1 ++ (c25 x.2.2.2.2.2.2 ++ [])))))) = _
    rw [c24_eq, c25_eq, c25_eq]; rfl
  rw [e] at hx
  exact ⟨_, _, _, _, _, _, _, hx⟩
theorem open_30 (hval : Value.okWide Try.prog W r base 30 v) (h : DataW.Trod enc Try.prog W 0 (fun _ => true) true 30 v d p) :
    ∃ (c1 c2 : List Int), Den [] (In W) W (.agg [rowAV c1, rowAV c2]) v := by
  obtain ⟨cs, rfl, hs⟩ := okWide_struct Try.underlying30 hval
  obtain ⟨x, hx⟩ := open_agg opens30 h
  have e : c30 x = [rowAV (x.1.map fun y => y.val), rowAV (x.2.map fun y => y.val)] := by
    show c28 x.1 ++ (c28 x.2 ++ []) = _
    rw [c28_eq, c28_eq]; rfl
  rw [e] at hx
  exact ⟨_, _, hx⟩
theorem open_4 (hval : Value.okWide Try.prog W r base 4 v) (h : DataW.Trod enc Try.prog W 0 (fun _ => true) true 4 v d p) : ∃ n : Bool, Den [] (In W) W (.v (.bool n)) v := by
  obtain ⟨n, rfl⟩ := okWide_bool Try.underlying4 hval
  exact ⟨n, .v _⟩
end
end Go.Proofs.Ytaoondlakhocnaa
end
section
namespace Go.Proofs.Ytaoondlakhocnaa
open Go Go.Am Go.ChangeShapes Go.WideShapes Go.ChangeAt Go.RowKit
set_option linter.unusedVariables false

theorem topSplit_own : ownKnob Try.prog.godebug = none := by kernel_rfl
theorem topSplit_laidOut : laidOutB Try.prog = true := by kernel_rfl

theorem topSplit_walk (w : World) (v0 v1 v2 : Value) (rows : Tb) (per : Int) (tot : Int) (wth : Int) (balls : Int) (l : List Stp) (m : List Stp) (c1 : List Int) (c2 : List Int) (x : Int) (y : Int) (z : Int)  (D0 : Den [] (In w) w (.agg [rowsAV rows, AV.i per, AV.i tot, AV.i wth, AV.i balls, stopsAV l, stopsAV m]) v0) (D1 : Den [] (In w) w (.agg [rowAV c1, rowAV c2]) v1) (D2 : Den [] (In w) w (.agg [AV.i x, AV.i y, AV.i z]) v2) :
    Calls Try.prog 3 #[v0, v1, v2] w fun e w' => e = .returned (.bool true) ∧ Below w.heap.size w w' := by
  obtain ⟨n0, r0, H0, hac, rfl⟩ := topsplit_ok 0 [] rows per tot wth balls l m c1 c2 x y z
  refine (calls_of_acall sig_ok (f := 3) rfl hac ⟨rfl, ?_⟩).mono fun e w' ⟨x0, I', he, hx0, hb⟩ => ?_
  · intro j a y0 ha hy0
    match j, ha, hy0 with
    | 0, ha, hy0 => cases ha; cases hy0; exact D0
    | 1, ha, hy0 => cases ha; cases hy0; exact D1
    | 2, ha, hy0 => cases ha; cases hy0; exact D2
  · rw [den_v hx0] at he
    exact ⟨he, hb⟩

set_option maxRecDepth 100000 in
theorem topSplit_lifted (os : Os) (started : os.Started) (H : Type) (enc : TypeId × Value → H) :
    ReturnsInHanded {} Try.checked os 3 .any (Rows.topSplitSpec.pre6 enc Try.prog Try.f3 Rows.topSplitRow.domain false) (Rows.topSplitSpec.post enc Try.prog Try.f3 false true false false) := by
  refine returnsInHanded_of_change (C := Try.checked) topSplit_own started (by kernel_rfl) Try.func3
    (ChangeSpec.witness6 (enc := enc) (C := Try.checked) false ⟨#[], #[.agg #[.slice none 0 0, .int .i64 0, .int .i64 0, .int .i64 0, .int .i64 0, .slice none 0 0, .slice none 0 0], .agg #[.slice none 0 0, .slice none 0 0], .agg #[.int .i64 0, .int .i64 0, .int .i64 0]], []⟩ 8 (by kernel_rfl) (by kernel_rfl) (by kernel_rfl) (by kernel_rfl)) ?_
  intro W base args ds gs before hval0 hW hcnd _
  have hval : ∀ (j : Nat) t v, Try.f3.params[j]? = some t → args[j]? = some v → Value.okWide Try.prog W .any base t v := hval0
  have hW' := hW
  obtain ⟨p, q, hA0, hV, rfl, hfz, hnd⟩ := hW
  have hA : DataW.TrodAll enc Try.prog W 0 (fun _ => true) true Try.f3.params.toList args.toList ds p := hA0
  rw [Try.params3] at hA hval
  obtain ⟨v0, vs0, d0, ds0, p0, q0, hargs, rfl, rfl, h0, s0⟩ := trodAll_cons hA
  obtain ⟨v1, vs1, d1, ds1, p1, q1, rfl, rfl, rfl, h1, s1⟩ := trodAll_cons s0
  obtain ⟨v2, vs2, d2, ds2, p2, q2, rfl, rfl, rfl, h2, s2⟩ := trodAll_cons s1
  obtain ⟨rfl, rfl, rfl⟩ := trodAll_nil s2
  obtain rfl : args = #[v0, v1, v2] := by cases args; simp_all
  obtain ⟨rfl, rfl⟩ := trodVars_none hV
  have k0 := h0
  have lt0 : ∀ x ∈ p0, x.block < W.heap.size := by obtain ⟨m, hm⟩ := k0; exact DataW.trod_lt m _ _ _ hm
  obtain ⟨rows, per, tot, wth, balls, l, m, D0⟩ := open_27 (hval 0 27 v0 rfl rfl) h0
  have k1 := h1
  have lt1 : ∀ x ∈ p1, x.block < W.heap.size := by obtain ⟨m, hm⟩ := k1; exact DataW.trod_lt m _ _ _ hm
  obtain ⟨c1, c2, D1⟩ := open_30 (hval 1 30 v1 rfl rfl) h1
  have k2 := h2
  have lt2 : ∀ x ∈ p2, x.block < W.heap.size := by obtain ⟨m, hm⟩ := k2; exact DataW.trod_lt m _ _ _ hm
  obtain ⟨x, y, z, D2⟩ := open_31 (hval 2 31 v2 rfl rfl) h2
  clear hA0 hval0
  refine (topSplit_walk W v0 v1 v2 rows per tot wth balls l m c1 c2 x y z D0 D1 D2).mono fun e W' ⟨he, bel⟩ => ?_
  subst he
  exact ⟨_, rfl, _, _, _, [], _, [], hW', trodAll_mk1 (shut_bool Try.underlying4 _), (trodAll_cons_mk (Below.trod topSplit_laidOut (by kernel_rfl) (of_decide_eq_true (by kernel_rfl)) k0 bel lt0) (trodAll_cons_mk (Below.trod topSplit_laidOut (by kernel_rfl) (of_decide_eq_true (by kernel_rfl)) k1 bel lt1) (trodAll_cons_mk (Below.trod topSplit_laidOut (by kernel_rfl) (of_decide_eq_true (by kernel_rfl)) k2 bel lt2) trodAll_mk0))), rfl, bel.frame _, fun h => by cases h⟩

theorem topSplit_over : Rows.topSplitRow.holds Try.pinned (OpenSpec.ofChange Rows.topSplitSpec) :=
  OpenClaim.holds_of_wide 3 Try.f3 rfl rfl rfl rfl rfl rfl rfl ⟨rfl, rfl, rfl, rfl, rfl⟩ rfl rfl rfl rfl rfl (by kernel_rfl) Try.func3 (by kernel_rfl)
    (of_decide_eq_true (by kernel_rfl)) (by unfold Func.isWrapper; first | (rw [if_pos (by decide +kernel)]; kernel_rfl) | (rw [if_neg (by decide +kernel)]; exact ⟨rfl, rfl⟩))
    (fun os started H enc _ => topSplit_lifted os started H enc)

theorem topSplit_holds : Rows.TopSplitSaid := topSplit_over
end Go.Proofs.Ytaoondlakhocnaa
end
