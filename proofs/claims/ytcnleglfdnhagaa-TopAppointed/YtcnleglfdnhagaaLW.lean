/-
  Walks of the law of chapter 55. The steps are written by program (walk.py).
-/
import Derived.Test.YtcnleglfdnhagaaLq
set_option linter.unusedSimpArgs false
set_option linter.unusedVariables false
set_option maxHeartbeats 4000000
set_option maxRecDepth 20000
namespace Go.Proofs.Ytcnleglfdnhagaa.L
open Go Go.Am
abbrev lc_law_w (a b c d e f g h i j k m n o p q r s t u v w x y z A B C D E F G H I J K : AV) : Env := [(0,a),(1,b),(4,c),(5,d),(6,e),(7,f),(8,g),(9,h),(11,i),(12,j),(13,k),(14,m),(16,n),(34,o),(35,p),(37,q),(38,r),(39,s),(40,t),(58,u),(59,v),(60,w),(61,x),(62,y),(107,z),(111,A),(112,B),(113,C),(114,D),(156,E),(169,F),(171,G),(172,H),(173,I),(174,J),(179,K)]
theorem law_w (lim : Nat) (H : Heap) (l : List Du) (us : List Um) (hs : ∀ u, (gt l u).ho.size ≤ 9223372036854775807 ∧ (gt l u).aw.size ≤ 9223372036854775807) (hs2 : ∀ u, (gt us u).nm.size ≤ 9223372036854775807 ∧ (gt us u).tm.size ≤ 9223372036854775807) : ACall sig lim 3 [dusAV l, umsAV us] H fun r _ => r = .v (.bool true) := by
 obtain ⟨k, hk⟩ : ∃ k : Nat, (k : Int) = min (l.length : Int) 4 := ⟨(min (l.length : Int) 4).toNat, by omega⟩
 obtain ⟨k2, hk2⟩ : ∃ k2 : Nat, (k2 : Int) = min (us.length : Int) 8 := ⟨(min (us.length : Int) 8).toNat, by omega⟩
 have hkl : k ≤ l.length := by omega
 have hul : k2 ≤ us.length := by omega
 have hk4 : k ≤ 4 := by omega
 have hk8 : k2 ≤ 8 := by omega
 have hin : InR l us k k2 := ⟨hkl, by omega, hul, by omega, hs, hs2⟩
 have Q := law_k hkl hul
 have hans : pickA appAV (inA l us k k2) = some (.tup [apsAV (appO (l.take k) (us.take k2)), intsAV (appN (l.take k) (us.take k2)), AV.i (appE (l.take k) (us.take k2))]) := pickA_eq hin
 have hchk : pickA ckAV (inA l us k k2) = some (AV.i (ckS (l.take k) (us.take k2))) := pickA_eq hin
 generalize appO (l.take k) (us.take k2) = O at Q hans
 generalize appN (l.take k) (us.take k2) = NS at Q hans
 generalize appE (l.take k) (us.take k2) = E at Q hans
 have hnl := Q.nl
 have q6 : True := trivial
 have q9 : True := trivial
 have q11 : True := trivial
 have q13 : True := trivial
 have q16 : True := trivial
 refine ACall_pure (fa := fa3) rfl rfl rfl rfl ?_
 have tr : ∀ a0 a1 : AV, env0 fa3.keep [a0, a1] = [(0,a0),(1,a1),(4,.any),(5,.any),(6,.any),(7,.any),(8,.any),(9,.any),(11,.any),(12,.any),(13,.any),(14,.any),(16,.any),(34,.any),(35,.any),(37,.any),(38,.any),(39,.any),(40,.any),(58,.any),(59,.any),(60,.any),(61,.any),(62,.any),(107,.any),(111,.any),(112,.any),(113,.any),(114,.any),(156,.any),(169,.any),(171,.any),(172,.any),(173,.any),(174,.any),(179,.any)] := fun a0 a1 => rfl
 refine W_to (tr _ _) ?_; clear tr
 refine at_seq rfl ?_
 refine rg rfl ?_
 refine Rq ?_
 have tr : ∀ a b c d e f g h i j k m n o p q r s t u v w x y z A B C D E F G H I J K L : AV, let l := lc_law_w a b c d e f g h i j k m n o p q r s t u v w x y z A B C D E F G H I J K; trim ((4,L)::l) l = [(0,a),(1,b),(4,L),(5,d),(6,e),(7,f),(8,g),(9,h),(11,i),(12,j),(13,k),(14,m),(16,n),(34,o),(35,p),(37,q),(38,r),(39,s),(40,t),(58,u),(59,v),(60,w),(61,x),(62,y),(107,z),(111,A),(112,B),(113,C),(114,D),(156,E),(169,F),(171,G),(172,H),(173,I),(174,J),(179,K)] := by intros; rfl
 refine R_nil (tr ..) ?_; clear tr
 refine then_n ?_
 refine at_seq rfl ?_
 refine rd rfl rfl ?_
 refine Qq ?_
 refine Qq ?_
 refine Qq ?_
 refine Q_q (r := AV.i (k : Int)) rfl (by simp (disch := first | omega | (simp only [List.length_map, List.length_append, List.length_set, List.length_cons, List.length_nil]; omega)) only [go_sem, ↓reduceIte, Nat.reduceEqDiff, reduceCtorEq, q6, q9, q11, q13, q16] <;> (rw [hk])) ?_
 refine Q_q (r := .sl k (flatD l)) rfl (by simp (disch := first | omega | (simp only [List.length_map, List.length_append, List.length_set, List.length_cons, List.length_nil]; omega)) only [go_sem, ↓reduceIte, Nat.reduceEqDiff, reduceCtorEq, q6, q9, q11, q13, q16] <;> exact cut22 _ _ _ hkl) ?_
 refine Qq ?_
 refine Qq ?_
 refine Qq ?_
 refine Q_q (r := AV.i (k2 : Int)) rfl (by simp (disch := first | omega | (simp only [List.length_map, List.length_append, List.length_set, List.length_cons, List.length_nil]; omega)) only [go_sem, ↓reduceIte, Nat.reduceEqDiff, reduceCtorEq, q6, q9, q11, q13, q16] <;> (rw [hk2])) ?_
 refine Q_q (r := .sl k2 (flatU us)) rfl (by simp (disch := first | omega | (simp only [List.length_map, List.length_append, List.length_set, List.length_cons, List.length_nil]; omega)) only [go_sem, ↓reduceIte, Nat.reduceEqDiff, reduceCtorEq, q6, q9, q11, q13, q16] <;> exact cut23 _ _ _ hul) ?_
 refine Qq ?_
 refine Qq ?_
 refine Q_nil ?_
 have tr : ∀ a b c d e f g h i j k m n o p q r s t u v w x y z A B C D E F G H I J K L M N O P Q R S T U V W : AV, let l := lc_law_w a b c d e f g h i j k m n o p q r s t u v w x y z A B C D E F G H I J K; trim ((1,W)::(0,V)::(26,U)::(25,T)::(24,S)::(23,R)::(22,Q)::(21,P)::(20,O)::(19,N)::(18,M)::(17,L)::l) l = [(0,V),(1,W),(4,c),(5,d),(6,e),(7,f),(8,g),(9,h),(11,i),(12,j),(13,k),(14,m),(16,n),(34,o),(35,p),(37,q),(38,r),(39,s),(40,t),(58,u),(59,v),(60,w),(61,x),(62,y),(107,z),(111,A),(112,B),(113,C),(114,D),(156,E),(169,F),(171,G),(172,H),(173,I),(174,J),(179,K)] := by intros; rfl
 refine R_nil (tr ..) ?_; clear tr
 refine then_n ?_
 refine at_seq rfl ?_
 refine rg rfl ?_
 refine Rq ?_
 refine Rq ?_
 refine Rcall ?_
 refine ACall_prim (r := .tup [apsAV O, intsAV NS, AV.i E]) rfl hans ?_
 refine Rq ?_
 refine Rq ?_
 refine Rq ?_
 refine Rq ?_
 refine A_alloc rfl ?_
 intro H1 n1
 have e1 := n1.len
 refine Rq ?_
 refine A_store ty25 (by simp (disch := first | omega | (simp only [List.length_map, List.length_append, List.length_set, List.length_cons, List.length_nil]; omega)) only [go_sem, ↓reduceIte, Nat.reduceEqDiff, reduceCtorEq, q6, q9, q11, q13, q16] <;> rfl) (by simp (disch := first | omega | (simp only [List.length_map, List.length_append, List.length_set, List.length_cons, List.length_nil]; omega)) only [go_sem, ↓reduceIte, Nat.reduceEqDiff, reduceCtorEq, q6, q9, q11, q13, q16] <;> rfl) n1.new ⟨Nat.le_refl _, rfl, Nat.le_refl 1⟩ (k' := [intsAV NS]) rfl ?_
 intro H2 w2
 have q6 := w2.new
 have f2 := w2.len
 refine Rq ?_
 have tr : ∀ a b c d e f g h i j k m n o p q r s t u v w x y z A B C D E F G H I J K L M N O P Q R S T U : AV, let l := lc_law_w a b c d e f g h i j k m n o p q r s t u v w x y z A B C D E F G H I J K; trim ((7,U)::(5,T)::(6,S)::(33,R)::(32,Q)::(31,P)::(27,O)::(30,N)::(29,M)::(28,L)::l) l = [(0,a),(1,b),(4,c),(5,T),(6,S),(7,U),(8,g),(9,h),(11,i),(12,j),(13,k),(14,m),(16,n),(34,o),(35,p),(37,q),(38,r),(39,s),(40,t),(58,u),(59,v),(60,w),(61,x),(62,y),(107,z),(111,A),(112,B),(113,C),(114,D),(156,E),(169,F),(171,G),(172,H),(173,I),(174,J),(179,K)] := by intros; rfl
 refine R_nil (tr ..) ?_; clear tr
 refine then_n ?_
 refine at_seq rfl ?_
 refine at_seq rfl ?_
 refine rg rfl ?_
 refine Rq ?_
 have tr : ∀ a b c d e f g h i j k m n o p q r s t u v w x y z A B C D E F G H I J K L : AV, let l := lc_law_w a b c d e f g h i j k m n o p q r s t u v w x y z A B C D E F G H I J K; trim ((34,L)::l) l = [(0,a),(1,b),(4,c),(5,d),(6,e),(7,f),(8,g),(9,h),(11,i),(12,j),(13,k),(14,m),(16,n),(34,L),(35,p),(37,q),(38,r),(39,s),(40,t),(58,u),(59,v),(60,w),(61,x),(62,y),(107,z),(111,A),(112,B),(113,C),(114,D),(156,E),(169,F),(171,G),(172,H),(173,I),(174,J),(179,K)] := by intros; rfl
 refine R_nil (tr ..) ?_; clear tr
 refine then_n ?_
 refine at_block rfl ?_
 refine at_seq rfl ?_
 refine rg rfl ?_
 refine Rq ?_
 refine Rq ?_
 have tr : ∀ a b c d e f g h i j k m n o p q r s t u v w x y z A B C D E F G H I J K L M : AV, let l := lc_law_w a b c d e f g h i j k m n o p q r s t u v w x y z A B C D E F G H I J K; trim ((35,M)::(36,L)::l) l = [(0,a),(1,b),(4,c),(5,d),(6,e),(7,f),(8,g),(9,h),(11,i),(12,j),(13,k),(14,m),(16,n),(34,o),(35,M),(37,q),(38,r),(39,s),(40,t),(58,u),(59,v),(60,w),(61,x),(62,y),(107,z),(111,A),(112,B),(113,C),(114,D),(156,E),(169,F),(171,G),(172,H),(173,I),(174,J),(179,K)] := by intros; rfl
 refine R_nil (tr ..) ?_; clear tr
 refine then_n ?_
 refine cdd (fun h1 => ?_) (fun h1 => ?_)
 ·
  try simp only [decide_eq_true_eq, decide_eq_false_iff_not, Bool.not_eq_true', Bool.not_eq_false', beq_iff_eq, beq_eq_false_iff_ne, ne_eq] at h1
  have hE0 : E = 0 := by assumption
  obtain ⟨hOl, hNS⟩ := Q.len hE0
  refine at_seq rfl ?_
  refine at_seq rfl ?_
  refine rg rfl ?_
  refine Rq ?_
  refine Rq ?_
  refine Rq ?_
  have tr : ∀ a b c d e f g h i j k m n o p q r s t u v w x y z A B C D E F G H I J K L M N : AV, let l := lc_law_w a b c d e f g h i j k m n o p q r s t u v w x y z A B C D E F G H I J K; trim ((39,N)::(38,M)::(37,L)::l) l = [(0,a),(1,b),(4,c),(5,d),(6,e),(7,f),(8,g),(9,h),(11,i),(12,j),(13,k),(14,m),(16,n),(34,o),(35,p),(37,L),(38,M),(39,N),(40,t),(58,u),(59,v),(60,w),(61,x),(62,y),(107,z),(111,A),(112,B),(113,C),(114,D),(156,E),(169,F),(171,G),(172,H),(173,I),(174,J),(179,K)] := by intros; rfl
  refine R_nil (tr ..) ?_; clear tr
  refine then_n ?_
  refine at_block rfl ?_
  refine loop_n rfl (fun mm kv H' => ∃ i : Nat, ∃ x4 x8 x9 x11 x12 x13 x40 x58 x59 x60 x61 x62 x107 x111 x112 x113 x114 x156 : AV, (kv = [(4, x4), (8, x8), (9, x9), (11, x11), (12, x12), (13, x13), (39, AV.i (i : Int)), (40, x40), (58, x58), (59, x59), (60, x60), (61, x61), (62, x62), (107, x107), (111, x111), (112, x112), (113, x113), (114, x114), (156, x156)]) ∧ (mm = O.length - i) ∧ (hget H' H.length = some [intsAV NS]) ∧ (H.length < H'.length) ∧ (i ≤ O.length)) ⟨0, _, _, _, _, _, _, _, _, _, _, _, _, _, _, _, _, _, _, rfl, rfl, by exact q6, by omega, by omega⟩ (by rfl) ?_
  rintro mm kv HA ⟨i, x4, x8, x9, x11, x12, x13, x40, x58, x59, x60, x61, x62, x107, x111, x112, x113, x114, x156, rfl, rfl, q6, hlA, hi⟩
  have tr : ∀ a b c d e f g h i j k m n o p q r s t u v w x y z A B C D E F G H I J K L M N O P Q R S T U V W X Y Z a1 b1 c1 d1 : AV, upd [(0,a),(1,b),(4,c),(5,d),(6,e),(7,f),(8,g),(9,h),(11,i),(12,j),(13,k),(14,m),(16,n),(34,o),(35,p),(37,q),(38,r),(39,s),(40,t),(58,u),(59,v),(60,w),(61,x),(62,y),(107,z),(111,A),(112,B),(113,C),(114,D),(156,E),(169,F),(171,G),(172,H),(173,I),(174,J),(179,K)] [(4,L),(8,M),(9,N),(11,O),(12,P),(13,Q),(39,R),(40,S),(58,T),(59,U),(60,V),(61,W),(62,X),(107,Y),(111,Z),(112,a1),(113,b1),(114,c1),(156,d1)] = [(0,a),(1,b),(4,L),(5,d),(6,e),(7,f),(8,M),(9,N),(11,O),(12,P),(13,Q),(14,m),(16,n),(34,o),(35,p),(37,q),(38,r),(39,R),(40,S),(58,T),(59,U),(60,V),(61,W),(62,X),(107,Y),(111,Z),(112,a1),(113,b1),(114,c1),(156,d1),(169,F),(171,G),(172,H),(173,I),(174,J),(179,K)] := by intros; rfl
  refine W_to (tr ..) ?_; clear tr
  refine at_seq rfl ?_
  refine rg rfl ?_
  refine Rq ?_
  have tr : ∀ a b c d e f g h i j k m n o p q r s t u v w x y z A B C D E F G H I J K L : AV, let l := lc_law_w a b c d e f g h i j k m n o p q r s t u v w x y z A B C D E F G H I J K; trim ((40,L)::l) l = [(0,a),(1,b),(4,c),(5,d),(6,e),(7,f),(8,g),(9,h),(11,i),(12,j),(13,k),(14,m),(16,n),(34,o),(35,p),(37,q),(38,r),(39,s),(40,L),(58,u),(59,v),(60,w),(61,x),(62,y),(107,z),(111,A),(112,B),(113,C),(114,D),(156,E),(169,F),(171,G),(172,H),(173,I),(174,J),(179,K)] := by intros; rfl
  refine R_nil (tr ..) ?_; clear tr
  refine then_n ?_
  refine at_seq rfl ?_
  refine cdd (fun h2 => ?_) (fun h2 => ?_)
  ·
   try simp only [decide_eq_true_eq, decide_eq_false_iff_not, Bool.not_eq_true', Bool.not_eq_false', beq_iff_eq, beq_eq_false_iff_ne, ne_eq] at h2
   refine at_skip rfl ?_
   refine then_n ?_
   refine at_seq rfl ?_
   refine at_block rfl ?_
   refine at_seq rfl ?_
   refine rg rfl ?_
   refine Rq ?_
   refine Rq ?_
   refine R_q rfl (by simp (disch := first | omega | (simp only [List.length_map, List.length_append, List.length_set, List.length_cons, List.length_nil]; omega)) only [go_sem, ↓reduceIte, Nat.reduceEqDiff, reduceCtorEq, q6, q9, q11, q13, q16]; rfl) ?_
   refine A_alloc rfl ?_
   intro HEa nHE
   have q6 := (nHE.old _ (by omega)).trans q6
   have eHE := nHE.len
   refine Rq ?_
   refine A_store ty30 (by simp (disch := first | omega | (simp only [List.length_map, List.length_append, List.length_set, List.length_cons, List.length_nil]; omega)) only [go_sem, ↓reduceIte, Nat.reduceEqDiff, reduceCtorEq, q6, q9, q11, q13, q16] <;> rfl) (by simp (disch := first | omega | (simp only [List.length_map, List.length_append, List.length_set, List.length_cons, List.length_nil]; omega)) only [go_sem, ↓reduceIte, Nat.reduceEqDiff, reduceCtorEq, q6, q9, q11, q13, q16] <;> rfl) nHE.new ⟨by omega, rfl, Nat.le_refl 3⟩ (k' := apC (gt O i)) rfl ?_
   intro HE wHE
   have q6 := (wHE.old _ (by omega)).trans q6
   have q9 := wHE.new
   have fHE := wHE.len
   have tr : ∀ a b c d e f g h i j k m n o p q r s t u v w x y z A B C D E F G H I J K L M N O P : AV, let l := lc_law_w a b c d e f g h i j k m n o p q r s t u v w x y z A B C D E F G H I J K; trim ((8,P)::(9,O)::(43,N)::(42,M)::(41,L)::l) l = [(0,a),(1,b),(4,c),(5,d),(6,e),(7,f),(8,P),(9,O),(11,i),(12,j),(13,k),(14,m),(16,n),(34,o),(35,p),(37,q),(38,r),(39,s),(40,t),(58,u),(59,v),(60,w),(61,x),(62,y),(107,z),(111,A),(112,B),(113,C),(114,D),(156,E),(169,F),(171,G),(172,H),(173,I),(174,J),(179,K)] := by intros; rfl
   refine R_nil (tr ..) ?_; clear tr
   refine then_n ?_
   refine at_seq rfl ?_
   refine at_seq rfl ?_
   refine rd rfl rfl ?_
   refine Qq ?_
   refine Q_q rfl (by simp (disch := first | omega | (simp only [List.length_map, List.length_append, List.length_set, List.length_cons, List.length_nil]; omega)) only [go_sem, ↓reduceIte, Nat.reduceEqDiff, reduceCtorEq, q6, q9, q11, q13, q16]; rfl) ?_
   refine Qq ?_
   refine Qq ?_
   refine Qq ?_
   refine Qq ?_
   refine Q_q rfl (by simp (disch := first | omega | (simp only [List.length_map, List.length_append, List.length_set, List.length_cons, List.length_nil]; omega)) only [go_sem, ↓reduceIte, Nat.reduceEqDiff, reduceCtorEq, q6, q9, q11, q13, q16]; rfl) ?_
   refine Qq ?_
   refine Qq ?_
   refine Qp_split (fun h3 => ?_) (fun h3 => ?_)
   ·
    try simp only [decide_eq_true_eq, decide_eq_false_iff_not, Bool.not_eq_true', Bool.not_eq_false', beq_iff_eq, beq_eq_false_iff_ne, ne_eq] at h3
    have hq := Q.mt hE0 i (by omega)
    first | contradiction | (simp_all; done) | omega
   ·
    try simp only [decide_eq_true_eq, decide_eq_false_iff_not, Bool.not_eq_true', Bool.not_eq_false', beq_iff_eq, beq_eq_false_iff_ne, ne_eq] at h3
    refine Qy ?_
    refine Qq ?_
    refine Qy ?_
    refine Q_q rfl (by simp (disch := first | omega | (simp only [List.length_map, List.length_append, List.length_set, List.length_cons, List.length_nil]; omega)) only [go_sem, ↓reduceIte, Nat.reduceEqDiff, reduceCtorEq, q6, q9, q11, q13, q16]; rfl) ?_
    refine Qy ?_
    refine Qq ?_
    refine Qy ?_
    refine Q_q rfl (by simp (disch := first | omega | (simp only [List.length_map, List.length_append, List.length_set, List.length_cons, List.length_nil]; omega)) only [go_sem, ↓reduceIte, Nat.reduceEqDiff, reduceCtorEq, q6, q9, q11, q13, q16]; rfl) ?_
    refine Qy ?_
    refine Qq ?_
    refine Qq ?_
    refine Q_nil ?_
    have tr : ∀ a b c d e f g h i j k m n o p q r s t u v w x y z A B C D E F G H I J K L M N O P Q R S T U V W X Y Z : AV, let l := lc_law_w a b c d e f g h i j k m n o p q r s t u v w x y z A B C D E F G H I J K; trim ((58,Z)::(57,Y)::(56,X)::(55,W)::(54,V)::(53,U)::(52,T)::(51,S)::(50,R)::(49,Q)::(48,P)::(47,O)::(46,N)::(45,M)::(44,L)::l) l = [(0,a),(1,b),(4,c),(5,d),(6,e),(7,f),(8,g),(9,h),(11,i),(12,j),(13,k),(14,m),(16,n),(34,o),(35,p),(37,q),(38,r),(39,s),(40,t),(58,Z),(59,v),(60,w),(61,x),(62,y),(107,z),(111,A),(112,B),(113,C),(114,D),(156,E),(169,F),(171,G),(172,H),(173,I),(174,J),(179,K)] := by intros; rfl
    refine R_nil (tr ..) ?_; clear tr
    refine then_n ?_
    refine cdd (fun h4 => ?_) (fun h4 => ?_)
    ·
     try simp only [decide_eq_true_eq, decide_eq_false_iff_not, Bool.not_eq_true', Bool.not_eq_false', beq_iff_eq, beq_eq_false_iff_ne, ne_eq] at h4
     have hq := Q.ne hE0 i (by omega)
     first | contradiction | (simp_all; done)
    ·
     try simp only [decide_eq_true_eq, decide_eq_false_iff_not, Bool.not_eq_true', Bool.not_eq_false', beq_iff_eq, beq_eq_false_iff_ne, ne_eq] at h4
     refine at_skip rfl ?_
     refine then_n ?_
     refine at_seq rfl ?_
     refine at_seq rfl ?_
     refine rg rfl ?_
     refine Rq ?_
     refine Rq ?_
     refine Rq ?_
     have tr : ∀ a b c d e f g h i j k m n o p q r s t u v w x y z A B C D E F G H I J K L M N : AV, let l := lc_law_w a b c d e f g h i j k m n o p q r s t u v w x y z A B C D E F G H I J K; trim ((61,N)::(60,M)::(59,L)::l) l = [(0,a),(1,b),(4,c),(5,d),(6,e),(7,f),(8,g),(9,h),(11,i),(12,j),(13,k),(14,m),(16,n),(34,o),(35,p),(37,q),(38,r),(39,s),(40,t),(58,u),(59,L),(60,M),(61,N),(62,y),(107,z),(111,A),(112,B),(113,C),(114,D),(156,E),(169,F),(171,G),(172,H),(173,I),(174,J),(179,K)] := by intros; rfl
     refine R_nil (tr ..) ?_; clear tr
     refine then_n ?_
     refine at_block rfl ?_
     refine loop_n rfl (fun mm kv H' => ∃ u : Nat, ∃ x4 x11 x62 x107 : AV, (kv = [(4, x4), (11, x11), (61, AV.i (u : Int)), (62, x62), (107, x107)]) ∧ (mm = k2 - u) ∧ (hget H' H.length = some [intsAV NS]) ∧ (hget H' HA.length = some (apC (gt O i))) ∧ (HA.length < H'.length) ∧ (u ≤ k2)) ⟨0, _, _, _, _, rfl, rfl, by exact q6, by exact q9, by omega, by omega⟩ (by rfl) ?_
     rintro mm kv HB ⟨u, x4, x11, x62, x107, rfl, rfl, q6, q9, hlB, hu⟩
     have tr : ∀ a b c d e f g h i j k m n o p q r s t u v w x y z A B C D E F G H I J K L M N O P : AV, upd [(0,a),(1,b),(4,c),(5,d),(6,e),(7,f),(8,g),(9,h),(11,i),(12,j),(13,k),(14,m),(16,n),(34,o),(35,p),(37,q),(38,r),(39,s),(40,t),(58,u),(59,v),(60,w),(61,x),(62,y),(107,z),(111,A),(112,B),(113,C),(114,D),(156,E),(169,F),(171,G),(172,H),(173,I),(174,J),(179,K)] [(4,L),(11,M),(61,N),(62,O),(107,P)] = [(0,a),(1,b),(4,L),(5,d),(6,e),(7,f),(8,g),(9,h),(11,M),(12,j),(13,k),(14,m),(16,n),(34,o),(35,p),(37,q),(38,r),(39,s),(40,t),(58,u),(59,v),(60,w),(61,N),(62,O),(107,P),(111,A),(112,B),(113,C),(114,D),(156,E),(169,F),(171,G),(172,H),(173,I),(174,J),(179,K)] := by intros; rfl
     refine W_to (tr ..) ?_; clear tr
     refine at_seq rfl ?_
     refine rg rfl ?_
     refine Rq ?_
     have tr : ∀ a b c d e f g h i j k m n o p q r s t u v w x y z A B C D E F G H I J K L : AV, let l := lc_law_w a b c d e f g h i j k m n o p q r s t u v w x y z A B C D E F G H I J K; trim ((62,L)::l) l = [(0,a),(1,b),(4,c),(5,d),(6,e),(7,f),(8,g),(9,h),(11,i),(12,j),(13,k),(14,m),(16,n),(34,o),(35,p),(37,q),(38,r),(39,s),(40,t),(58,u),(59,v),(60,w),(61,x),(62,L),(107,z),(111,A),(112,B),(113,C),(114,D),(156,E),(169,F),(171,G),(172,H),(173,I),(174,J),(179,K)] := by intros; rfl
     refine R_nil (tr ..) ?_; clear tr
     refine then_n ?_
     refine at_seq rfl ?_
     refine cdd (fun h5 => ?_) (fun h5 => ?_)
     ·
      try simp only [decide_eq_true_eq, decide_eq_false_iff_not, Bool.not_eq_true', Bool.not_eq_false', beq_iff_eq, beq_eq_false_iff_ne, ne_eq] at h5
      refine at_skip rfl ?_
      refine then_n ?_
      refine at_seq rfl ?_
      refine at_block rfl ?_
      refine at_seq rfl ?_
      refine rg rfl ?_
      refine Rq ?_
      refine R_q rfl (by simp (disch := first | omega | (simp only [List.length_map, List.length_append, List.length_set, List.length_cons, List.length_nil]; omega)) only [go_sem, ↓reduceIte, Nat.reduceEqDiff, reduceCtorEq, q6, q9, q11, q13, q16]; rfl) ?_
      refine A_alloc rfl ?_
      intro HFa nHF
      have q6 := (nHF.old _ (by omega)).trans q6
      have q9 := (nHF.old _ (by omega)).trans q9
      have eHF := nHF.len
      refine A_store ty35 (by simp (disch := first | omega | (simp only [List.length_map, List.length_append, List.length_set, List.length_cons, List.length_nil]; omega)) only [go_sem, ↓reduceIte, Nat.reduceEqDiff, reduceCtorEq, q6, q9, q11, q13, q16] <;> rfl) (by simp (disch := first | omega | (simp only [List.length_map, List.length_append, List.length_set, List.length_cons, List.length_nil]; omega)) only [go_sem, ↓reduceIte, Nat.reduceEqDiff, reduceCtorEq, q6, q9, q11, q13, q16] <;> rfl) nHF.new ⟨by omega, rfl, Nat.le_refl 3⟩ (k' := umC (gt us u)) rfl ?_
      intro HF wHF
      have q6 := (wHF.old _ (by omega)).trans q6
      have q9 := (wHF.old _ (by omega)).trans q9
      have q11 := wHF.new
      have fHF := wHF.len
      have tr : ∀ a b c d e f g h i j k m n o p q r s t u v w x y z A B C D E F G H I J K L M N : AV, let l := lc_law_w a b c d e f g h i j k m n o p q r s t u v w x y z A B C D E F G H I J K; trim ((11,N)::(64,M)::(63,L)::l) l = [(0,a),(1,b),(4,c),(5,d),(6,e),(7,f),(8,g),(9,h),(11,N),(12,j),(13,k),(14,m),(16,n),(34,o),(35,p),(37,q),(38,r),(39,s),(40,t),(58,u),(59,v),(60,w),(61,x),(62,y),(107,z),(111,A),(112,B),(113,C),(114,D),(156,E),(169,F),(171,G),(172,H),(173,I),(174,J),(179,K)] := by intros; rfl
      refine R_nil (tr ..) ?_; clear tr
      refine then_n ?_
      refine at_seq rfl ?_
      refine rd rfl rfl ?_
      refine Qq ?_
      refine Q_q rfl (by simp (disch := first | omega | (simp only [List.length_map, List.length_append, List.length_set, List.length_cons, List.length_nil]; omega)) only [go_sem, ↓reduceIte, Nat.reduceEqDiff, reduceCtorEq, q6, q9, q11, q13, q16]; rfl) ?_
      refine Qq ?_
      refine Q_q rfl (by simp (disch := first | omega | (simp only [List.length_map, List.length_append, List.length_set, List.length_cons, List.length_nil]; omega)) only [go_sem, ↓reduceIte, Nat.reduceEqDiff, reduceCtorEq, q6, q9, q11, q13, q16]; rfl) ?_
      refine Qq ?_
      refine Qq ?_
      refine Qp_split (fun h6 => ?_) (fun h6 => ?_)
      ·
       try simp only [decide_eq_true_eq, decide_eq_false_iff_not, Bool.not_eq_true', Bool.not_eq_false', beq_iff_eq, beq_eq_false_iff_ne, ne_eq] at h6
       refine Qn ?_
       refine Qn ?_
       refine Qn ?_
       refine Qn ?_
       refine Qn ?_
       refine Qq ?_
       refine Qq ?_
       refine Qy ?_
       refine Qq ?_
       refine Qy ?_
       refine Q_q rfl (by simp (disch := first | omega | (simp only [List.length_map, List.length_append, List.length_set, List.length_cons, List.length_nil]; omega)) only [go_sem, ↓reduceIte, Nat.reduceEqDiff, reduceCtorEq, q6, q9, q11, q13, q16]; rfl) ?_
       refine Qy ?_
       refine Qq ?_
       refine Qy ?_
       refine Qq ?_
       refine Qy ?_
       refine Qq ?_
       refine Qy ?_
       refine Qq ?_
       refine Qy ?_
       refine Q_q rfl (by simp (disch := first | omega | (simp only [List.length_map, List.length_append, List.length_set, List.length_cons, List.length_nil]; omega)) only [go_sem, ↓reduceIte, Nat.reduceEqDiff, reduceCtorEq, q6, q9, q11, q13, q16]; rfl) ?_
       obtain ⟨hc1, hc2, hc3⟩ := Q.st hE0 i (by omega) u (by omega) (.inl (by assumption))
       refine Qy ?_
       refine Qcall ?_
       refine ACall_eq (cont5 _ _ (gt us u).ds (gt l i).dy (by have := Q.ds (.inl hE0) u (by omega); omega) true hc1) ?_
       refine ⟨rfl, ?_⟩
       refine Qy ?_
       refine Qq ?_
       refine Qy ?_
       refine Qq ?_
       refine Qy ?_
       refine Qq ?_
       refine Qy ?_
       refine Q_q rfl (by simp (disch := first | omega | (simp only [List.length_map, List.length_append, List.length_set, List.length_cons, List.length_nil]; omega)) only [go_sem, ↓reduceIte, Nat.reduceEqDiff, reduceCtorEq, q6, q9, q11, q13, q16]; rfl) ?_
       refine Qy ?_
       refine Qq ?_
       refine Qy ?_
       refine Qq ?_
       refine Qy ?_
       refine Qq ?_
       refine Qy ?_
       refine Qq ?_
       refine Qy ?_
       refine Q_q rfl (by simp (disch := first | omega | (simp only [List.length_map, List.length_append, List.length_set, List.length_cons, List.length_nil]; omega)) only [go_sem, ↓reduceIte, Nat.reduceEqDiff, reduceCtorEq, q6, q9, q11, q13, q16]; rfl) ?_
       refine Qy ?_
       refine Qq ?_
       refine Qy ?_
       refine Qq ?_
       refine Qy ?_
       refine Qq ?_
       refine Qp_split (fun h7 => ?_) (fun h7 => ?_)
       ·
        try simp only [decide_eq_true_eq, decide_eq_false_iff_not, Bool.not_eq_true', Bool.not_eq_false', beq_iff_eq, beq_eq_false_iff_ne, ne_eq] at h7
        first | contradiction | (simp_all; done)
       ·
        try simp only [decide_eq_true_eq, decide_eq_false_iff_not, Bool.not_eq_true', Bool.not_eq_false', beq_iff_eq, beq_eq_false_iff_ne, ne_eq] at h7
        refine Qy ?_
        refine Qq ?_
        refine Qy ?_
        refine Q_q rfl (by simp (disch := first | omega | (simp only [List.length_map, List.length_append, List.length_set, List.length_cons, List.length_nil]; omega)) only [go_sem, ↓reduceIte, Nat.reduceEqDiff, reduceCtorEq, q6, q9, q11, q13, q16]; rfl) ?_
        refine Qy ?_
        refine Qq ?_
        refine Qy ?_
        refine Qq ?_
        refine Qy ?_
        refine Qq ?_
        refine Qy ?_
        refine Qq ?_
        refine Qy ?_
        refine Q_q rfl (by simp (disch := first | omega | (simp only [List.length_map, List.length_append, List.length_set, List.length_cons, List.length_nil]; omega)) only [go_sem, ↓reduceIte, Nat.reduceEqDiff, reduceCtorEq, q6, q9, q11, q13, q16]; rfl) ?_
        refine Qy ?_
        refine Qq ?_
        refine Qy ?_
        refine Qq ?_
        refine Qq ?_
        refine Q_nil ?_
        have tr : ∀ a b c d e f g h i j k m n o p q r s t u v w x y z A B C D E F G H I J K L M N O P Q R S T U V W X Y Z a1 b1 c1 d1 e1 f1 g1 h1 i1 j1 k1 m1 n1 o1 p1 q1 r1 s1 t1 u1 v1 w1 x1 y1 z1 A1 B1 C1 : AV, let l := lc_law_w a b c d e f g h i j k m n o p q r s t u v w x y z A B C D E F G H I J K; trim ((107,C1)::(106,B1)::(105,A1)::(104,z1)::(103,y1)::(102,x1)::(101,w1)::(100,v1)::(99,u1)::(98,t1)::(97,s1)::(96,r1)::(95,q1)::(94,p1)::(93,o1)::(92,n1)::(91,m1)::(90,k1)::(89,j1)::(88,i1)::(87,h1)::(86,g1)::(85,f1)::(84,e1)::(83,d1)::(82,c1)::(81,b1)::(80,a1)::(79,Z)::(78,Y)::(77,X)::(76,W)::(75,V)::(74,U)::(73,T)::(72,S)::(71,R)::(70,Q)::(69,P)::(68,O)::(67,N)::(66,M)::(65,L)::l) l = [(0,a),(1,b),(4,c),(5,d),(6,e),(7,f),(8,g),(9,h),(11,i),(12,j),(13,k),(14,m),(16,n),(34,o),(35,p),(37,q),(38,r),(39,s),(40,t),(58,u),(59,v),(60,w),(61,x),(62,y),(107,C1),(111,A),(112,B),(113,C),(114,D),(156,E),(169,F),(171,G),(172,H),(173,I),(174,J),(179,K)] := by intros; rfl
        refine R_nil (tr ..) ?_; clear tr
        refine then_n ?_
        refine cdd (fun h8 => ?_) (fun h8 => ?_)
        ·
         try simp only [decide_eq_true_eq, decide_eq_false_iff_not, Bool.not_eq_true', Bool.not_eq_false', beq_iff_eq, beq_eq_false_iff_ne, ne_eq] at h8
         first | contradiction | (simp_all; done)
        ·
         try simp only [decide_eq_true_eq, decide_eq_false_iff_not, Bool.not_eq_true', Bool.not_eq_false', beq_iff_eq, beq_eq_false_iff_ne, ne_eq] at h8
         refine at_skip rfl ?_
         refine blk_n ?_
         refine then_n ?_
         refine rg rfl ?_
         refine Rq ?_
         refine Rq ?_
         have tr : ∀ a b c d e f g h i j k m n o p q r s t u v w x y z A B C D E F G H I J K L M : AV, let l := lc_law_w a b c d e f g h i j k m n o p q r s t u v w x y z A B C D E F G H I J K; trim ((61,M)::(108,L)::l) l = [(0,a),(1,b),(4,c),(5,d),(6,e),(7,f),(8,g),(9,h),(11,i),(12,j),(13,k),(14,m),(16,n),(34,o),(35,p),(37,q),(38,r),(39,s),(40,t),(58,u),(59,v),(60,w),(61,M),(62,y),(107,z),(111,A),(112,B),(113,C),(114,D),(156,E),(169,F),(171,G),(172,H),(173,I),(174,J),(179,K)] := by intros; rfl
         refine R_nil (tr ..) ?_; clear tr
         refine then_n ?_
         exact ⟨_, _, ⟨u + 1, _, _, _, _, rfl, rfl, by exact q6, by exact q9, by (show HA.length < HF.length; omega), by omega⟩, by rfl, by omega⟩
      ·
       try simp only [decide_eq_true_eq, decide_eq_false_iff_not, Bool.not_eq_true', Bool.not_eq_false', beq_iff_eq, beq_eq_false_iff_ne, ne_eq] at h6
       refine Qy ?_
       refine Qq ?_
       refine Qy ?_
       refine Q_q rfl (by simp (disch := first | omega | (simp only [List.length_map, List.length_append, List.length_set, List.length_cons, List.length_nil]; omega)) only [go_sem, ↓reduceIte, Nat.reduceEqDiff, reduceCtorEq, q6, q9, q11, q13, q16]; rfl) ?_
       refine Qy ?_
       refine Qq ?_
       refine Qy ?_
       refine Q_q rfl (by simp (disch := first | omega | (simp only [List.length_map, List.length_append, List.length_set, List.length_cons, List.length_nil]; omega)) only [go_sem, ↓reduceIte, Nat.reduceEqDiff, reduceCtorEq, q6, q9, q11, q13, q16]; rfl) ?_
       refine Qy ?_
       refine Qq ?_
       refine Qq ?_
       refine Qq ?_
       refine Qp_split (fun h9 => ?_) (fun h9 => ?_)
       ·
        try simp only [decide_eq_true_eq, decide_eq_false_iff_not, Bool.not_eq_true', Bool.not_eq_false', beq_iff_eq, beq_eq_false_iff_ne, ne_eq] at h9
        refine Qy ?_
        refine Qq ?_
        refine Qy ?_
        refine Q_q rfl (by simp (disch := first | omega | (simp only [List.length_map, List.length_append, List.length_set, List.length_cons, List.length_nil]; omega)) only [go_sem, ↓reduceIte, Nat.reduceEqDiff, reduceCtorEq, q6, q9, q11, q13, q16]; rfl) ?_
        refine Qy ?_
        refine Qq ?_
        refine Qy ?_
        refine Qq ?_
        refine Qy ?_
        refine Qq ?_
        refine Qy ?_
        refine Qq ?_
        refine Qy ?_
        refine Q_q rfl (by simp (disch := first | omega | (simp only [List.length_map, List.length_append, List.length_set, List.length_cons, List.length_nil]; omega)) only [go_sem, ↓reduceIte, Nat.reduceEqDiff, reduceCtorEq, q6, q9, q11, q13, q16]; rfl) ?_
        obtain ⟨hc1, hc2, hc3⟩ := Q.st hE0 i (by omega) u (by omega) (.inr (by assumption))
        refine Qy ?_
        refine Qcall ?_
        refine ACall_eq (cont5 _ _ (gt us u).ds (gt l i).dy (by have := Q.ds (.inl hE0) u (by omega); omega) true hc1) ?_
        refine ⟨rfl, ?_⟩
        refine Qy ?_
        refine Qq ?_
        refine Qy ?_
        refine Qq ?_
        refine Qy ?_
        refine Qq ?_
        refine Qy ?_
        refine Q_q rfl (by simp (disch := first | omega | (simp only [List.length_map, List.length_append, List.length_set, List.length_cons, List.length_nil]; omega)) only [go_sem, ↓reduceIte, Nat.reduceEqDiff, reduceCtorEq, q6, q9, q11, q13, q16]; rfl) ?_
        refine Qy ?_
        refine Qq ?_
        refine Qy ?_
        refine Qq ?_
        refine Qy ?_
        refine Qq ?_
        refine Qy ?_
        refine Qq ?_
        refine Qy ?_
        refine Q_q rfl (by simp (disch := first | omega | (simp only [List.length_map, List.length_append, List.length_set, List.length_cons, List.length_nil]; omega)) only [go_sem, ↓reduceIte, Nat.reduceEqDiff, reduceCtorEq, q6, q9, q11, q13, q16]; rfl) ?_
        refine Qy ?_
        refine Qq ?_
        refine Qy ?_
        refine Qq ?_
        refine Qy ?_
        refine Qq ?_
        refine Qp_split (fun h10 => ?_) (fun h10 => ?_)
        ·
         try simp only [decide_eq_true_eq, decide_eq_false_iff_not, Bool.not_eq_true', Bool.not_eq_false', beq_iff_eq, beq_eq_false_iff_ne, ne_eq] at h10
         first | contradiction | (simp_all; done)
        ·
         try simp only [decide_eq_true_eq, decide_eq_false_iff_not, Bool.not_eq_true', Bool.not_eq_false', beq_iff_eq, beq_eq_false_iff_ne, ne_eq] at h10
         refine Qy ?_
         refine Qq ?_
         refine Qy ?_
         refine Q_q rfl (by simp (disch := first | omega | (simp only [List.length_map, List.length_append, List.length_set, List.length_cons, List.length_nil]; omega)) only [go_sem, ↓reduceIte, Nat.reduceEqDiff, reduceCtorEq, q6, q9, q11, q13, q16]; rfl) ?_
         refine Qy ?_
         refine Qq ?_
         refine Qy ?_
         refine Qq ?_
         refine Qy ?_
         refine Qq ?_
         refine Qy ?_
         refine Qq ?_
         refine Qy ?_
         refine Q_q rfl (by simp (disch := first | omega | (simp only [List.length_map, List.length_append, List.length_set, List.length_cons, List.length_nil]; omega)) only [go_sem, ↓reduceIte, Nat.reduceEqDiff, reduceCtorEq, q6, q9, q11, q13, q16]; rfl) ?_
         refine Qy ?_
         refine Qq ?_
         refine Qy ?_
         refine Qq ?_
         refine Qq ?_
         refine Q_nil ?_
         have tr : ∀ a b c d e f g h i j k m n o p q r s t u v w x y z A B C D E F G H I J K L M N O P Q R S T U V W X Y Z a1 b1 c1 d1 e1 f1 g1 h1 i1 j1 k1 m1 n1 o1 p1 q1 r1 s1 t1 u1 v1 w1 x1 y1 z1 A1 B1 C1 : AV, let l := lc_law_w a b c d e f g h i j k m n o p q r s t u v w x y z A B C D E F G H I J K; trim ((107,C1)::(106,B1)::(105,A1)::(104,z1)::(103,y1)::(102,x1)::(101,w1)::(100,v1)::(99,u1)::(98,t1)::(97,s1)::(96,r1)::(95,q1)::(94,p1)::(93,o1)::(92,n1)::(91,m1)::(90,k1)::(89,j1)::(88,i1)::(87,h1)::(86,g1)::(85,f1)::(84,e1)::(83,d1)::(82,c1)::(81,b1)::(80,a1)::(79,Z)::(78,Y)::(77,X)::(76,W)::(75,V)::(74,U)::(73,T)::(72,S)::(71,R)::(70,Q)::(69,P)::(68,O)::(67,N)::(66,M)::(65,L)::l) l = [(0,a),(1,b),(4,c),(5,d),(6,e),(7,f),(8,g),(9,h),(11,i),(12,j),(13,k),(14,m),(16,n),(34,o),(35,p),(37,q),(38,r),(39,s),(40,t),(58,u),(59,v),(60,w),(61,x),(62,y),(107,C1),(111,A),(112,B),(113,C),(114,D),(156,E),(169,F),(171,G),(172,H),(173,I),(174,J),(179,K)] := by intros; rfl
         refine R_nil (tr ..) ?_; clear tr
         refine then_n ?_
         refine cdd (fun h11 => ?_) (fun h11 => ?_)
         ·
          try simp only [decide_eq_true_eq, decide_eq_false_iff_not, Bool.not_eq_true', Bool.not_eq_false', beq_iff_eq, beq_eq_false_iff_ne, ne_eq] at h11
          first | contradiction | (simp_all; done)
         ·
          try simp only [decide_eq_true_eq, decide_eq_false_iff_not, Bool.not_eq_true', Bool.not_eq_false', beq_iff_eq, beq_eq_false_iff_ne, ne_eq] at h11
          refine at_skip rfl ?_
          refine blk_n ?_
          refine then_n ?_
          refine rg rfl ?_
          refine Rq ?_
          refine Rq ?_
          have tr : ∀ a b c d e f g h i j k m n o p q r s t u v w x y z A B C D E F G H I J K L M : AV, let l := lc_law_w a b c d e f g h i j k m n o p q r s t u v w x y z A B C D E F G H I J K; trim ((61,M)::(108,L)::l) l = [(0,a),(1,b),(4,c),(5,d),(6,e),(7,f),(8,g),(9,h),(11,i),(12,j),(13,k),(14,m),(16,n),(34,o),(35,p),(37,q),(38,r),(39,s),(40,t),(58,u),(59,v),(60,w),(61,M),(62,y),(107,z),(111,A),(112,B),(113,C),(114,D),(156,E),(169,F),(171,G),(172,H),(173,I),(174,J),(179,K)] := by intros; rfl
          refine R_nil (tr ..) ?_; clear tr
          refine then_n ?_
          exact ⟨_, _, ⟨u + 1, _, _, _, _, rfl, rfl, by exact q6, by exact q9, by (show HA.length < HF.length; omega), by omega⟩, by rfl, by omega⟩
       ·
        try simp only [decide_eq_true_eq, decide_eq_false_iff_not, Bool.not_eq_true', Bool.not_eq_false', beq_iff_eq, beq_eq_false_iff_ne, ne_eq] at h9
        refine Qn ?_
        refine Qn ?_
        refine Qn ?_
        refine Qn ?_
        refine Qn ?_
        refine Qn ?_
        refine Qn ?_
        refine Qn ?_
        refine Qn ?_
        refine Qn ?_
        refine Qu ?_
        refine Qu ?_
        refine Qu ?_
        refine Qu ?_
        refine Qu ?_
        refine Qu ?_
        refine Qu ?_
        refine Qu ?_
        refine Qn ?_
        refine Qn ?_
        refine Qu ?_
        refine Qu ?_
        refine Qu ?_
        refine Qu ?_
        refine Qu ?_
        refine Qu ?_
        refine Qu ?_
        refine Qu ?_
        refine Qn ?_
        refine Qq ?_
        refine Q_nil ?_
        have tr : ∀ a b c d e f g h i j k m n o p q r s t u v w x y z A B C D E F G H I J K L M N O P Q R S T U V W X Y Z a1 b1 c1 d1 e1 f1 g1 h1 i1 j1 k1 m1 n1 o1 p1 q1 r1 s1 t1 u1 v1 w1 x1 y1 z1 A1 B1 C1 : AV, let l := lc_law_w a b c d e f g h i j k m n o p q r s t u v w x y z A B C D E F G H I J K; trim ((107,C1)::(106,B1)::(105,A1)::(104,z1)::(103,y1)::(102,x1)::(101,w1)::(100,v1)::(99,u1)::(98,t1)::(97,s1)::(96,r1)::(95,q1)::(94,p1)::(93,o1)::(92,n1)::(91,m1)::(90,k1)::(89,j1)::(88,i1)::(87,h1)::(86,g1)::(85,f1)::(84,e1)::(83,d1)::(82,c1)::(81,b1)::(80,a1)::(79,Z)::(78,Y)::(77,X)::(76,W)::(75,V)::(74,U)::(73,T)::(72,S)::(71,R)::(70,Q)::(69,P)::(68,O)::(67,N)::(66,M)::(65,L)::l) l = [(0,a),(1,b),(4,c),(5,d),(6,e),(7,f),(8,g),(9,h),(11,i),(12,j),(13,k),(14,m),(16,n),(34,o),(35,p),(37,q),(38,r),(39,s),(40,t),(58,u),(59,v),(60,w),(61,x),(62,y),(107,C1),(111,A),(112,B),(113,C),(114,D),(156,E),(169,F),(171,G),(172,H),(173,I),(174,J),(179,K)] := by intros; rfl
        refine R_nil (tr ..) ?_; clear tr
        refine then_n ?_
        refine cdf ?_
        refine at_skip rfl ?_
        refine blk_n ?_
        refine then_n ?_
        refine rg rfl ?_
        refine Rq ?_
        refine Rq ?_
        have tr : ∀ a b c d e f g h i j k m n o p q r s t u v w x y z A B C D E F G H I J K L M : AV, let l := lc_law_w a b c d e f g h i j k m n o p q r s t u v w x y z A B C D E F G H I J K; trim ((61,M)::(108,L)::l) l = [(0,a),(1,b),(4,c),(5,d),(6,e),(7,f),(8,g),(9,h),(11,i),(12,j),(13,k),(14,m),(16,n),(34,o),(35,p),(37,q),(38,r),(39,s),(40,t),(58,u),(59,v),(60,w),(61,M),(62,y),(107,z),(111,A),(112,B),(113,C),(114,D),(156,E),(169,F),(171,G),(172,H),(173,I),(174,J),(179,K)] := by intros; rfl
        refine R_nil (tr ..) ?_; clear tr
        refine then_n ?_
        exact ⟨_, _, ⟨u + 1, _, _, _, _, rfl, rfl, by exact q6, by exact q9, by (show HA.length < HF.length; omega), by omega⟩, by rfl, by omega⟩
     ·
      try simp only [decide_eq_true_eq, decide_eq_false_iff_not, Bool.not_eq_true', Bool.not_eq_false', beq_iff_eq, beq_eq_false_iff_ne, ne_eq] at h5
      refine at_exit rfl ?_
      refine then_x ?_
      refine then_x ?_
      refine blk_x ?_
      refine then_n ?_
      refine at_seq rfl ?_
      refine rg rfl ?_
      refine Rq ?_
      refine Rq ?_
      refine R_q (r := .sl i (flatC O)) rfl (by simp (disch := first | omega | (simp only [List.length_map, List.length_append, List.length_set, List.length_cons, List.length_nil]; omega)) only [go_sem, ↓reduceIte, Nat.reduceEqDiff, reduceCtorEq, q6, q9, q11, q13, q16] <;> exact cut24 _ _ _ (by omega)) ?_
      refine Rq ?_
      refine Rq ?_
      have tr : ∀ a b c d e f g h i j k m n o p q r s t u v w x y z A B C D E F G H I J K L M N O P : AV, let l := lc_law_w a b c d e f g h i j k m n o p q r s t u v w x y z A B C D E F G H I J K; trim ((113,P)::(112,O)::(111,N)::(110,M)::(109,L)::l) l = [(0,a),(1,b),(4,c),(5,d),(6,e),(7,f),(8,g),(9,h),(11,i),(12,j),(13,k),(14,m),(16,n),(34,o),(35,p),(37,q),(38,r),(39,s),(40,t),(58,u),(59,v),(60,w),(61,x),(62,y),(107,z),(111,N),(112,O),(113,P),(114,D),(156,E),(169,F),(171,G),(172,H),(173,I),(174,J),(179,K)] := by intros; rfl
      refine R_nil (tr ..) ?_; clear tr
      refine then_n ?_
      refine at_block rfl ?_
      refine loop_n rfl (fun mm kv H' => ∃ a : Nat, ∃ x4 x12 x13 x114 x156 : AV, (kv = [(4, x4), (12, x12), (13, x13), (113, AV.i (a : Int)), (114, x114), (156, x156)]) ∧ (mm = i - a) ∧ (hget H' H.length = some [intsAV NS]) ∧ (hget H' HA.length = some (apC (gt O i))) ∧ (HA.length < H'.length) ∧ (a ≤ i)) ⟨0, _, _, _, _, _, rfl, rfl, by exact q6, by exact q9, by omega, by omega⟩ (by rfl) ?_
      rintro mm kv HC ⟨a, x4, x12, x13, x114, x156, rfl, rfl, q6, q9, hlC, ha⟩
      have tr : ∀ a b c d e f g h i j k m n o p q r s t u v w x y z A B C D E F G H I J K L M N O P Q : AV, upd [(0,a),(1,b),(4,c),(5,d),(6,e),(7,f),(8,g),(9,h),(11,i),(12,j),(13,k),(14,m),(16,n),(34,o),(35,p),(37,q),(38,r),(39,s),(40,t),(58,u),(59,v),(60,w),(61,x),(62,y),(107,z),(111,A),(112,B),(113,C),(114,D),(156,E),(169,F),(171,G),(172,H),(173,I),(174,J),(179,K)] [(4,L),(12,M),(13,N),(113,O),(114,P),(156,Q)] = [(0,a),(1,b),(4,L),(5,d),(6,e),(7,f),(8,g),(9,h),(11,i),(12,M),(13,N),(14,m),(16,n),(34,o),(35,p),(37,q),(38,r),(39,s),(40,t),(58,u),(59,v),(60,w),(61,x),(62,y),(107,z),(111,A),(112,B),(113,O),(114,P),(156,Q),(169,F),(171,G),(172,H),(173,I),(174,J),(179,K)] := by intros; rfl
      refine W_to (tr ..) ?_; clear tr
      refine at_seq rfl ?_
      refine rg rfl ?_
      refine Rq ?_
      have tr : ∀ a b c d e f g h i j k m n o p q r s t u v w x y z A B C D E F G H I J K L : AV, let l := lc_law_w a b c d e f g h i j k m n o p q r s t u v w x y z A B C D E F G H I J K; trim ((114,L)::l) l = [(0,a),(1,b),(4,c),(5,d),(6,e),(7,f),(8,g),(9,h),(11,i),(12,j),(13,k),(14,m),(16,n),(34,o),(35,p),(37,q),(38,r),(39,s),(40,t),(58,u),(59,v),(60,w),(61,x),(62,y),(107,z),(111,A),(112,B),(113,C),(114,L),(156,E),(169,F),(171,G),(172,H),(173,I),(174,J),(179,K)] := by intros; rfl
      refine R_nil (tr ..) ?_; clear tr
      refine then_n ?_
      refine at_seq rfl ?_
      refine cdd (fun h12 => ?_) (fun h12 => ?_)
      ·
       try simp only [decide_eq_true_eq, decide_eq_false_iff_not, Bool.not_eq_true', Bool.not_eq_false', beq_iff_eq, beq_eq_false_iff_ne, ne_eq] at h12
       refine at_skip rfl ?_
       refine then_n ?_
       refine at_seq rfl ?_
       refine at_block rfl ?_
       refine at_seq rfl ?_
       refine rg rfl ?_
       refine Rq ?_
       refine Rq ?_
       refine R_q rfl (by simp (disch := first | omega | (simp only [List.length_map, List.length_append, List.length_set, List.length_cons, List.length_nil]; omega)) only [go_sem, ↓reduceIte, Nat.reduceEqDiff, reduceCtorEq, q6, q9, q11, q13, q16]; rfl) ?_
       refine A_alloc rfl ?_
       intro HGa nHG
       have q6 := (nHG.old _ (by omega)).trans q6
       have q9 := (nHG.old _ (by omega)).trans q9
       have eHG := nHG.len
       refine Rq ?_
       refine A_store ty30 (by simp (disch := first | omega | (simp only [List.length_map, List.length_append, List.length_set, List.length_cons, List.length_nil]; omega)) only [go_sem, ↓reduceIte, Nat.reduceEqDiff, reduceCtorEq, q6, q9, q11, q13, q16] <;> rfl) (by simp (disch := first | omega | (simp only [List.length_map, List.length_append, List.length_set, List.length_cons, List.length_nil]; omega)) only [go_sem, ↓reduceIte, Nat.reduceEqDiff, reduceCtorEq, q6, q9, q11, q13, q16] <;> rfl) nHG.new ⟨by omega, rfl, Nat.le_refl 3⟩ (k' := apC (gt O a)) rfl ?_
       intro HG wHG
       have q6 := (wHG.old _ (by omega)).trans q6
       have q9 := (wHG.old _ (by omega)).trans q9
       have q13 := wHG.new
       have fHG := wHG.len
       have tr : ∀ a b c d e f g h i j k m n o p q r s t u v w x y z A B C D E F G H I J K L M N O P : AV, let l := lc_law_w a b c d e f g h i j k m n o p q r s t u v w x y z A B C D E F G H I J K; trim ((12,P)::(13,O)::(117,N)::(116,M)::(115,L)::l) l = [(0,a),(1,b),(4,c),(5,d),(6,e),(7,f),(8,g),(9,h),(11,i),(12,P),(13,O),(14,m),(16,n),(34,o),(35,p),(37,q),(38,r),(39,s),(40,t),(58,u),(59,v),(60,w),(61,x),(62,y),(107,z),(111,A),(112,B),(113,C),(114,D),(156,E),(169,F),(171,G),(172,H),(173,I),(174,J),(179,K)] := by intros; rfl
       refine R_nil (tr ..) ?_; clear tr
       refine then_n ?_
       refine at_seq rfl ?_
       refine rd rfl rfl ?_
       refine Qq ?_
       refine Qq ?_
       refine Qq ?_
       refine Qq ?_
       refine Q_q rfl (by simp (disch := first | omega | (simp only [List.length_map, List.length_append, List.length_set, List.length_cons, List.length_nil]; omega)) only [go_sem, ↓reduceIte, Nat.reduceEqDiff, reduceCtorEq, q6, q9, q11, q13, q16]; rfl) ?_
       refine Qq ?_
       refine Qq ?_
       refine Qq ?_
       refine Qq ?_
       refine Q_q rfl (by simp (disch := first | omega | (simp only [List.length_map, List.length_append, List.length_set, List.length_cons, List.length_nil]; omega)) only [go_sem, ↓reduceIte, Nat.reduceEqDiff, reduceCtorEq, q6, q9, q11, q13, q16]; rfl) ?_
       refine Qq ?_
       refine Qq ?_
       refine Qp_split (fun h13 => ?_) (fun h13 => ?_)
       ·
        try simp only [decide_eq_true_eq, decide_eq_false_iff_not, Bool.not_eq_true', Bool.not_eq_false', beq_iff_eq, beq_eq_false_iff_ne, ne_eq] at h13
        obtain ⟨d1, d2, d3, d4⟩ := Q.dj hE0 i (by omega) a (by omega) (by assumption)
        refine Qy ?_
        refine Qq ?_
        refine Qy ?_
        refine Q_q rfl (by simp (disch := first | omega | (simp only [List.length_map, List.length_append, List.length_set, List.length_cons, List.length_nil]; omega)) only [go_sem, ↓reduceIte, Nat.reduceEqDiff, reduceCtorEq, q6, q9, q11, q13, q16]; rfl) ?_
        refine Qy ?_
        refine Qq ?_
        refine Qy ?_
        refine Q_q rfl (by simp (disch := first | omega | (simp only [List.length_map, List.length_append, List.length_set, List.length_cons, List.length_nil]; omega)) only [go_sem, ↓reduceIte, Nat.reduceEqDiff, reduceCtorEq, q6, q9, q11, q13, q16]; rfl) ?_
        refine Qy ?_
        refine Qq ?_
        refine Qy ?_
        refine Qq ?_
        refine Qp_split (fun h14 => ?_) (fun h14 => ?_)
        ·
         try simp only [decide_eq_true_eq, decide_eq_false_iff_not, Bool.not_eq_true', Bool.not_eq_false', beq_iff_eq, beq_eq_false_iff_ne, ne_eq] at h14
         first | contradiction | (simp_all; done)
        ·
         try simp only [decide_eq_true_eq, decide_eq_false_iff_not, Bool.not_eq_true', Bool.not_eq_false', beq_iff_eq, beq_eq_false_iff_ne, ne_eq] at h14
         refine Qy ?_
         refine Qq ?_
         refine Qy ?_
         refine Q_q rfl (by simp (disch := first | omega | (simp only [List.length_map, List.length_append, List.length_set, List.length_cons, List.length_nil]; omega)) only [go_sem, ↓reduceIte, Nat.reduceEqDiff, reduceCtorEq, q6, q9, q11, q13, q16]; rfl) ?_
         refine Qy ?_
         refine Qq ?_
         refine Qy ?_
         refine Q_q rfl (by simp (disch := first | omega | (simp only [List.length_map, List.length_append, List.length_set, List.length_cons, List.length_nil]; omega)) only [go_sem, ↓reduceIte, Nat.reduceEqDiff, reduceCtorEq, q6, q9, q11, q13, q16]; rfl) ?_
         refine Qy ?_
         refine Qq ?_
         refine Qy ?_
         refine Qq ?_
         refine Qy ?_
         refine Qq ?_
         refine Qp_split (fun h15 => ?_) (fun h15 => ?_)
         ·
          try simp only [decide_eq_true_eq, decide_eq_false_iff_not, Bool.not_eq_true', Bool.not_eq_false', beq_iff_eq, beq_eq_false_iff_ne, ne_eq] at h15
          first | contradiction | (simp_all; done)
         ·
          try simp only [decide_eq_true_eq, decide_eq_false_iff_not, Bool.not_eq_true', Bool.not_eq_false', beq_iff_eq, beq_eq_false_iff_ne, ne_eq] at h15
          refine Qy ?_
          refine Qq ?_
          refine Qy ?_
          refine Q_q rfl (by simp (disch := first | omega | (simp only [List.length_map, List.length_append, List.length_set, List.length_cons, List.length_nil]; omega)) only [go_sem, ↓reduceIte, Nat.reduceEqDiff, reduceCtorEq, q6, q9, q11, q13, q16]; rfl) ?_
          refine Qy ?_
          refine Qq ?_
          refine Qy ?_
          refine Q_q rfl (by simp (disch := first | omega | (simp only [List.length_map, List.length_append, List.length_set, List.length_cons, List.length_nil]; omega)) only [go_sem, ↓reduceIte, Nat.reduceEqDiff, reduceCtorEq, q6, q9, q11, q13, q16]; rfl) ?_
          refine Qy ?_
          refine Qq ?_
          refine Qy ?_
          refine Qq ?_
          refine Qy ?_
          refine Qq ?_
          refine Qp_split (fun h16 => ?_) (fun h16 => ?_)
          ·
           try simp only [decide_eq_true_eq, decide_eq_false_iff_not, Bool.not_eq_true', Bool.not_eq_false', beq_iff_eq, beq_eq_false_iff_ne, ne_eq] at h16
           first | contradiction | (simp_all; done)
          ·
           try simp only [decide_eq_true_eq, decide_eq_false_iff_not, Bool.not_eq_true', Bool.not_eq_false', beq_iff_eq, beq_eq_false_iff_ne, ne_eq] at h16
           refine Qy ?_
           refine Qq ?_
           refine Qy ?_
           refine Q_q rfl (by simp (disch := first | omega | (simp only [List.length_map, List.length_append, List.length_set, List.length_cons, List.length_nil]; omega)) only [go_sem, ↓reduceIte, Nat.reduceEqDiff, reduceCtorEq, q6, q9, q11, q13, q16]; rfl) ?_
           refine Qy ?_
           refine Qq ?_
           refine Qy ?_
           refine Q_q rfl (by simp (disch := first | omega | (simp only [List.length_map, List.length_append, List.length_set, List.length_cons, List.length_nil]; omega)) only [go_sem, ↓reduceIte, Nat.reduceEqDiff, reduceCtorEq, q6, q9, q11, q13, q16]; rfl) ?_
           refine Qy ?_
           refine Qq ?_
           refine Qy ?_
           refine Qq ?_
           refine Qq ?_
           refine Q_nil ?_
           have tr : ∀ a b c d e f g h i j k m n o p q r s t u v w x y z A B C D E F G H I J K L M N O P Q R S T U V W X Y Z a1 b1 c1 d1 e1 f1 g1 h1 i1 j1 k1 m1 n1 o1 p1 q1 r1 s1 t1 u1 v1 w1 x1 y1 : AV, let l := lc_law_w a b c d e f g h i j k m n o p q r s t u v w x y z A B C D E F G H I J K; trim ((156,y1)::(155,x1)::(154,w1)::(153,v1)::(152,u1)::(151,t1)::(150,s1)::(149,r1)::(148,q1)::(147,p1)::(146,o1)::(145,n1)::(144,m1)::(143,k1)::(142,j1)::(141,i1)::(140,h1)::(139,g1)::(138,f1)::(137,e1)::(136,d1)::(135,c1)::(134,b1)::(133,a1)::(132,Z)::(131,Y)::(130,X)::(129,W)::(128,V)::(127,U)::(126,T)::(125,S)::(124,R)::(123,Q)::(122,P)::(121,O)::(120,N)::(119,M)::(118,L)::l) l = [(0,a),(1,b),(4,c),(5,d),(6,e),(7,f),(8,g),(9,h),(11,i),(12,j),(13,k),(14,m),(16,n),(34,o),(35,p),(37,q),(38,r),(39,s),(40,t),(58,u),(59,v),(60,w),(61,x),(62,y),(107,z),(111,A),(112,B),(113,C),(114,D),(156,y1),(169,F),(171,G),(172,H),(173,I),(174,J),(179,K)] := by intros; rfl
           refine R_nil (tr ..) ?_; clear tr
           refine then_n ?_
           refine cdd (fun h17 => ?_) (fun h17 => ?_)
           ·
            try simp only [decide_eq_true_eq, decide_eq_false_iff_not, Bool.not_eq_true', Bool.not_eq_false', beq_iff_eq, beq_eq_false_iff_ne, ne_eq] at h17
            first | contradiction | (simp_all; done)
           ·
            try simp only [decide_eq_true_eq, decide_eq_false_iff_not, Bool.not_eq_true', Bool.not_eq_false', beq_iff_eq, beq_eq_false_iff_ne, ne_eq] at h17
            refine at_skip rfl ?_
            refine blk_n ?_
            refine then_n ?_
            refine rg rfl ?_
            refine Rq ?_
            refine Rq ?_
            have tr : ∀ a b c d e f g h i j k m n o p q r s t u v w x y z A B C D E F G H I J K L M : AV, let l := lc_law_w a b c d e f g h i j k m n o p q r s t u v w x y z A B C D E F G H I J K; trim ((113,M)::(157,L)::l) l = [(0,a),(1,b),(4,c),(5,d),(6,e),(7,f),(8,g),(9,h),(11,i),(12,j),(13,k),(14,m),(16,n),(34,o),(35,p),(37,q),(38,r),(39,s),(40,t),(58,u),(59,v),(60,w),(61,x),(62,y),(107,z),(111,A),(112,B),(113,M),(114,D),(156,E),(169,F),(171,G),(172,H),(173,I),(174,J),(179,K)] := by intros; rfl
            refine R_nil (tr ..) ?_; clear tr
            refine then_n ?_
            exact ⟨_, _, ⟨a + 1, _, _, _, _, _, rfl, rfl, by exact q6, by exact q9, by (show HA.length < HG.length; omega), by omega⟩, by rfl, by omega⟩
       ·
        try simp only [decide_eq_true_eq, decide_eq_false_iff_not, Bool.not_eq_true', Bool.not_eq_false', beq_iff_eq, beq_eq_false_iff_ne, ne_eq] at h13
        refine Qn ?_
        refine Qn ?_
        refine Qn ?_
        refine Qn ?_
        refine Qn ?_
        refine Qn ?_
        refine Qu ?_
        refine Qu ?_
        refine Qu ?_
        refine Qu ?_
        refine Qu ?_
        refine Qn ?_
        refine Qn ?_
        refine Qu ?_
        refine Qu ?_
        refine Qu ?_
        refine Qu ?_
        refine Qu ?_
        refine Qn ?_
        refine Qn ?_
        refine Qu ?_
        refine Qu ?_
        refine Qu ?_
        refine Qu ?_
        refine Qu ?_
        refine Qn ?_
        refine Qq ?_
        refine Q_nil ?_
        have tr : ∀ a b c d e f g h i j k m n o p q r s t u v w x y z A B C D E F G H I J K L M N O P Q R S T U V W X Y Z a1 b1 c1 d1 e1 f1 g1 h1 i1 j1 k1 m1 n1 o1 p1 q1 r1 s1 t1 u1 v1 w1 x1 y1 : AV, let l := lc_law_w a b c d e f g h i j k m n o p q r s t u v w x y z A B C D E F G H I J K; trim ((156,y1)::(155,x1)::(154,w1)::(153,v1)::(152,u1)::(151,t1)::(150,s1)::(149,r1)::(148,q1)::(147,p1)::(146,o1)::(145,n1)::(144,m1)::(143,k1)::(142,j1)::(141,i1)::(140,h1)::(139,g1)::(138,f1)::(137,e1)::(136,d1)::(135,c1)::(134,b1)::(133,a1)::(132,Z)::(131,Y)::(130,X)::(129,W)::(128,V)::(127,U)::(126,T)::(125,S)::(124,R)::(123,Q)::(122,P)::(121,O)::(120,N)::(119,M)::(118,L)::l) l = [(0,a),(1,b),(4,c),(5,d),(6,e),(7,f),(8,g),(9,h),(11,i),(12,j),(13,k),(14,m),(16,n),(34,o),(35,p),(37,q),(38,r),(39,s),(40,t),(58,u),(59,v),(60,w),(61,x),(62,y),(107,z),(111,A),(112,B),(113,C),(114,D),(156,y1),(169,F),(171,G),(172,H),(173,I),(174,J),(179,K)] := by intros; rfl
        refine R_nil (tr ..) ?_; clear tr
        refine then_n ?_
        refine cdf ?_
        refine at_skip rfl ?_
        refine blk_n ?_
        refine then_n ?_
        refine rg rfl ?_
        refine Rq ?_
        refine Rq ?_
        have tr : ∀ a b c d e f g h i j k m n o p q r s t u v w x y z A B C D E F G H I J K L M : AV, let l := lc_law_w a b c d e f g h i j k m n o p q r s t u v w x y z A B C D E F G H I J K; trim ((113,M)::(157,L)::l) l = [(0,a),(1,b),(4,c),(5,d),(6,e),(7,f),(8,g),(9,h),(11,i),(12,j),(13,k),(14,m),(16,n),(34,o),(35,p),(37,q),(38,r),(39,s),(40,t),(58,u),(59,v),(60,w),(61,x),(62,y),(107,z),(111,A),(112,B),(113,M),(114,D),(156,E),(169,F),(171,G),(172,H),(173,I),(174,J),(179,K)] := by intros; rfl
        refine R_nil (tr ..) ?_; clear tr
        refine then_n ?_
        exact ⟨_, _, ⟨a + 1, _, _, _, _, _, rfl, rfl, by exact q6, by exact q9, by (show HA.length < HG.length; omega), by omega⟩, by rfl, by omega⟩
      ·
       try simp only [decide_eq_true_eq, decide_eq_false_iff_not, Bool.not_eq_true', Bool.not_eq_false', beq_iff_eq, beq_eq_false_iff_ne, ne_eq] at h12
       refine at_exit rfl ?_
       refine then_x ?_
       refine then_x ?_
       refine blk_x ?_
       refine blk_n ?_
       refine then_n ?_
       refine rg rfl ?_
       refine Rq ?_
       refine Rq ?_
       have tr : ∀ a b c d e f g h i j k m n o p q r s t u v w x y z A B C D E F G H I J K L M : AV, let l := lc_law_w a b c d e f g h i j k m n o p q r s t u v w x y z A B C D E F G H I J K; trim ((39,M)::(158,L)::l) l = [(0,a),(1,b),(4,c),(5,d),(6,e),(7,f),(8,g),(9,h),(11,i),(12,j),(13,k),(14,m),(16,n),(34,o),(35,p),(37,q),(38,r),(39,M),(40,t),(58,u),(59,v),(60,w),(61,x),(62,y),(107,z),(111,A),(112,B),(113,C),(114,D),(156,E),(169,F),(171,G),(172,H),(173,I),(174,J),(179,K)] := by intros; rfl
       refine R_nil (tr ..) ?_; clear tr
       refine then_n ?_
       exact ⟨_, _, ⟨i + 1, _, _, _, _, _, _, _, _, _, _, _, _, _, _, _, _, _, _, rfl, rfl, by exact q6, by (show H.length < HC.length; omega), by omega⟩, by rfl, by omega⟩
  ·
   try simp only [decide_eq_true_eq, decide_eq_false_iff_not, Bool.not_eq_true', Bool.not_eq_false', beq_iff_eq, beq_eq_false_iff_ne, ne_eq] at h2
   refine at_exit rfl ?_
   refine then_x ?_
   refine then_x ?_
   refine blk_x ?_
   refine then_n ?_
   refine at_seq rfl ?_
   refine rg rfl ?_
   refine Rq ?_
   refine Rq ?_
   refine Rq ?_
   refine Rq ?_
   refine Rq ?_
   refine Rq ?_
   refine Rp_split (fun h18 => ?_) (fun h18 => ?_)
   ·
    try simp only [decide_eq_true_eq, decide_eq_false_iff_not, Bool.not_eq_true', Bool.not_eq_false', beq_iff_eq, beq_eq_false_iff_ne, ne_eq] at h18
    refine Ry ?_
    refine R_q rfl (by simp (disch := first | omega | (simp only [List.length_map, List.length_append, List.length_set, List.length_cons, List.length_nil]; omega)) only [go_sem, ↓reduceIte, Nat.reduceEqDiff, reduceCtorEq, q6, q9, q11, q13, q16]; rfl) ?_
    refine Ry ?_
    refine Rq ?_
    refine Ry ?_
    refine Rq ?_
    refine Rq ?_
    refine Rq ?_
    have tr : ∀ a b c d e f g h i j k m n o p q r s t u v w x y z A B C D E F G H I J K L M N O P Q R S T U V : AV, let l := lc_law_w a b c d e f g h i j k m n o p q r s t u v w x y z A B C D E F G H I J K; trim ((4,V)::(168,U)::(167,T)::(166,S)::(165,R)::(164,Q)::(163,P)::(162,O)::(161,N)::(160,M)::(159,L)::l) l = [(0,a),(1,b),(4,V),(5,d),(6,e),(7,f),(8,g),(9,h),(11,i),(12,j),(13,k),(14,m),(16,n),(34,o),(35,p),(37,q),(38,r),(39,s),(40,t),(58,u),(59,v),(60,w),(61,x),(62,y),(107,z),(111,A),(112,B),(113,C),(114,D),(156,E),(169,F),(171,G),(172,H),(173,I),(174,J),(179,K)] := by intros; rfl
    refine R_nil (tr ..) ?_; clear tr
    refine then_n ?_
    refine at_ret rfl ?_
    refine blk_r ?_
    refine then_r ?_
    refine fpure ?_
    refine congrArg (fun b => AV.v (.bool b)) ?_
    rw [hNS]; rfl
   ·
    try simp only [decide_eq_true_eq, decide_eq_false_iff_not, Bool.not_eq_true', Bool.not_eq_false', beq_iff_eq, beq_eq_false_iff_ne, ne_eq] at h18
    omega
 ·
  try simp only [decide_eq_true_eq, decide_eq_false_iff_not, Bool.not_eq_true', Bool.not_eq_false', beq_iff_eq, beq_eq_false_iff_ne, ne_eq] at h1
  have hE1 : ¬ E = 0 := by assumption
  refine at_seq rfl ?_
  refine rg rfl ?_
  refine Rq ?_
  refine Rq ?_
  have tr : ∀ a b c d e f g h i j k m n o p q r s t u v w x y z A B C D E F G H I J K L M : AV, let l := lc_law_w a b c d e f g h i j k m n o p q r s t u v w x y z A B C D E F G H I J K; trim ((169,M)::(170,L)::l) l = [(0,a),(1,b),(4,c),(5,d),(6,e),(7,f),(8,g),(9,h),(11,i),(12,j),(13,k),(14,m),(16,n),(34,o),(35,p),(37,q),(38,r),(39,s),(40,t),(58,u),(59,v),(60,w),(61,x),(62,y),(107,z),(111,A),(112,B),(113,C),(114,D),(156,E),(169,M),(171,G),(172,H),(173,I),(174,J),(179,K)] := by intros; rfl
  refine R_nil (tr ..) ?_; clear tr
  refine then_n ?_
  refine cdd (fun h19 => ?_) (fun h19 => ?_)
  ·
   try simp only [decide_eq_true_eq, decide_eq_false_iff_not, Bool.not_eq_true', Bool.not_eq_false', beq_iff_eq, beq_eq_false_iff_ne, ne_eq] at h19
   have hE13 : E = 13 := by assumption
   obtain ⟨hO0, hab⟩ := Q.able hE13
   refine at_seq rfl ?_
   refine rg rfl ?_
   refine Rq ?_
   have tr : ∀ a b c d e f g h i j k m n o p q r s t u v w x y z A B C D E F G H I J K L : AV, let l := lc_law_w a b c d e f g h i j k m n o p q r s t u v w x y z A B C D E F G H I J K; trim ((14,L)::l) l = [(0,a),(1,b),(4,c),(5,d),(6,e),(7,f),(8,g),(9,h),(11,i),(12,j),(13,k),(14,L),(16,n),(34,o),(35,p),(37,q),(38,r),(39,s),(40,t),(58,u),(59,v),(60,w),(61,x),(62,y),(107,z),(111,A),(112,B),(113,C),(114,D),(156,E),(169,F),(171,G),(172,H),(173,I),(174,J),(179,K)] := by intros; rfl
   refine R_nil (tr ..) ?_; clear tr
   refine then_n ?_
   refine at_seq rfl ?_
   refine at_seq rfl ?_
   refine rg rfl ?_
   refine Rq ?_
   refine Rq ?_
   refine Rq ?_
   have tr : ∀ a b c d e f g h i j k m n o p q r s t u v w x y z A B C D E F G H I J K L M N : AV, let l := lc_law_w a b c d e f g h i j k m n o p q r s t u v w x y z A B C D E F G H I J K; trim ((173,N)::(172,M)::(171,L)::l) l = [(0,a),(1,b),(4,c),(5,d),(6,e),(7,f),(8,g),(9,h),(11,i),(12,j),(13,k),(14,m),(16,n),(34,o),(35,p),(37,q),(38,r),(39,s),(40,t),(58,u),(59,v),(60,w),(61,x),(62,y),(107,z),(111,A),(112,B),(113,C),(114,D),(156,E),(169,F),(171,L),(172,M),(173,N),(174,J),(179,K)] := by intros; rfl
   refine R_nil (tr ..) ?_; clear tr
   refine then_n ?_
   refine at_block rfl ?_
   refine loop_n rfl (fun mm kv H' => ∃ v : Nat, ∃ n : Int, ∃ x16 x174 x179 : AV, (kv = [(14, AV.i n), (16, x16), (173, AV.i (v : Int)), (174, x174), (179, x179)]) ∧ (mm = k2 - v) ∧ (hget H' H.length = some [intsAV NS]) ∧ (H.length < H'.length) ∧ (v ≤ k2) ∧ (n = (ableL NS l us k v : Int))) ⟨0, 0, _, _, _, rfl, rfl, by exact q6, by omega, by omega, by rfl⟩ (by rfl) ?_
   rintro mm kv HD ⟨v, n, x16, x174, x179, rfl, rfl, q6, hlD, hv, hn⟩
   have tr : ∀ a b c d e f g h i j k m n o p q r s t u v w x y z A B C D E F G H I J K L M N O P : AV, upd [(0,a),(1,b),(4,c),(5,d),(6,e),(7,f),(8,g),(9,h),(11,i),(12,j),(13,k),(14,m),(16,n),(34,o),(35,p),(37,q),(38,r),(39,s),(40,t),(58,u),(59,v),(60,w),(61,x),(62,y),(107,z),(111,A),(112,B),(113,C),(114,D),(156,E),(169,F),(171,G),(172,H),(173,I),(174,J),(179,K)] [(14,L),(16,M),(173,N),(174,O),(179,P)] = [(0,a),(1,b),(4,c),(5,d),(6,e),(7,f),(8,g),(9,h),(11,i),(12,j),(13,k),(14,L),(16,M),(34,o),(35,p),(37,q),(38,r),(39,s),(40,t),(58,u),(59,v),(60,w),(61,x),(62,y),(107,z),(111,A),(112,B),(113,C),(114,D),(156,E),(169,F),(171,G),(172,H),(173,N),(174,O),(179,P)] := by intros; rfl
   refine W_to (tr ..) ?_; clear tr
   have hnb := able_le NS l us k v
   refine at_seq rfl ?_
   refine rg rfl ?_
   refine Rq ?_
   have tr : ∀ a b c d e f g h i j k m n o p q r s t u v w x y z A B C D E F G H I J K L : AV, let l := lc_law_w a b c d e f g h i j k m n o p q r s t u v w x y z A B C D E F G H I J K; trim ((174,L)::l) l = [(0,a),(1,b),(4,c),(5,d),(6,e),(7,f),(8,g),(9,h),(11,i),(12,j),(13,k),(14,m),(16,n),(34,o),(35,p),(37,q),(38,r),(39,s),(40,t),(58,u),(59,v),(60,w),(61,x),(62,y),(107,z),(111,A),(112,B),(113,C),(114,D),(156,E),(169,F),(171,G),(172,H),(173,I),(174,L),(179,K)] := by intros; rfl
   refine R_nil (tr ..) ?_; clear tr
   refine then_n ?_
   refine at_seq rfl ?_
   refine cdd (fun h20 => ?_) (fun h20 => ?_)
   ·
    try simp only [decide_eq_true_eq, decide_eq_false_iff_not, Bool.not_eq_true', Bool.not_eq_false', beq_iff_eq, beq_eq_false_iff_ne, ne_eq] at h20
    refine at_skip rfl ?_
    refine then_n ?_
    refine at_seq rfl ?_
    refine at_block rfl ?_
    refine at_seq rfl ?_
    refine rg rfl ?_
    refine Rq ?_
    refine R_q rfl (by simp (disch := first | omega | (simp only [List.length_map, List.length_append, List.length_set, List.length_cons, List.length_nil]; omega)) only [go_sem, ↓reduceIte, Nat.reduceEqDiff, reduceCtorEq, q6, q9, q11, q13, q16]; rfl) ?_
    refine A_alloc rfl ?_
    intro HIa nHI
    have q6 := (nHI.old _ (by omega)).trans q6
    have eHI := nHI.len
    refine A_store ty35 (by simp (disch := first | omega | (simp only [List.length_map, List.length_append, List.length_set, List.length_cons, List.length_nil]; omega)) only [go_sem, ↓reduceIte, Nat.reduceEqDiff, reduceCtorEq, q6, q9, q11, q13, q16] <;> rfl) (by simp (disch := first | omega | (simp only [List.length_map, List.length_append, List.length_set, List.length_cons, List.length_nil]; omega)) only [go_sem, ↓reduceIte, Nat.reduceEqDiff, reduceCtorEq, q6, q9, q11, q13, q16] <;> rfl) nHI.new ⟨by omega, rfl, Nat.le_refl 3⟩ (k' := umC (gt us v)) rfl ?_
    intro HI wHI
    have q6 := (wHI.old _ (by omega)).trans q6
    have q16 := wHI.new
    have fHI := wHI.len
    have tr : ∀ a b c d e f g h i j k m n o p q r s t u v w x y z A B C D E F G H I J K L M N : AV, let l := lc_law_w a b c d e f g h i j k m n o p q r s t u v w x y z A B C D E F G H I J K; trim ((16,N)::(176,M)::(175,L)::l) l = [(0,a),(1,b),(4,c),(5,d),(6,e),(7,f),(8,g),(9,h),(11,i),(12,j),(13,k),(14,m),(16,N),(34,o),(35,p),(37,q),(38,r),(39,s),(40,t),(58,u),(59,v),(60,w),(61,x),(62,y),(107,z),(111,A),(112,B),(113,C),(114,D),(156,E),(169,F),(171,G),(172,H),(173,I),(174,J),(179,K)] := by intros; rfl
    refine R_nil (tr ..) ?_; clear tr
    refine then_n ?_
    refine at_seq rfl ?_
    refine rg rfl ?_
    refine Rq ?_
    refine Rq ?_
    refine Rcall ?_
    refine ACall_eq (contf_ok _ _ H.length HD.length NS l k hkl (by omega) (gt us v) q6 q16 (by omega) (by have := Q.ds (.inr hE13) v (by omega); omega)) ?_
    have tr : ∀ a b c d e f g h i j k m n o p q r s t u v w x y z A B C D E F G H I J K L M N : AV, let l := lc_law_w a b c d e f g h i j k m n o p q r s t u v w x y z A B C D E F G H I J K; trim ((179,N)::(178,M)::(177,L)::l) l = [(0,a),(1,b),(4,c),(5,d),(6,e),(7,f),(8,g),(9,h),(11,i),(12,j),(13,k),(14,m),(16,n),(34,o),(35,p),(37,q),(38,r),(39,s),(40,t),(58,u),(59,v),(60,w),(61,x),(62,y),(107,z),(111,A),(112,B),(113,C),(114,D),(156,E),(169,F),(171,G),(172,H),(173,I),(174,J),(179,N)] := by intros; rfl
    refine R_nil (tr ..) ?_; clear tr
    refine then_n ?_
    refine cdd (fun h21 => ?_) (fun h21 => ?_)
    ·
     try simp only [decide_eq_true_eq, decide_eq_false_iff_not, Bool.not_eq_true', Bool.not_eq_false', beq_iff_eq, beq_eq_false_iff_ne, ne_eq] at h21
     refine rg rfl ?_
     refine Rq ?_
     refine Rq ?_
     refine Rq ?_
     have tr : ∀ a b c d e f g h i j k m n o p q r s t u v w x y z A B C D E F G H I J K L M N : AV, let l := lc_law_w a b c d e f g h i j k m n o p q r s t u v w x y z A B C D E F G H I J K; trim ((14,N)::(181,M)::(180,L)::l) l = [(0,a),(1,b),(4,c),(5,d),(6,e),(7,f),(8,g),(9,h),(11,i),(12,j),(13,k),(14,N),(16,n),(34,o),(35,p),(37,q),(38,r),(39,s),(40,t),(58,u),(59,v),(60,w),(61,x),(62,y),(107,z),(111,A),(112,B),(113,C),(114,D),(156,E),(169,F),(171,G),(172,H),(173,I),(174,J),(179,K)] := by intros; rfl
     refine R_nil (tr ..) ?_; clear tr
     refine blk_n ?_
     refine then_n ?_
     refine rg rfl ?_
     refine Rq ?_
     refine Rq ?_
     have tr : ∀ a b c d e f g h i j k m n o p q r s t u v w x y z A B C D E F G H I J K L M : AV, let l := lc_law_w a b c d e f g h i j k m n o p q r s t u v w x y z A B C D E F G H I J K; trim ((173,M)::(182,L)::l) l = [(0,a),(1,b),(4,c),(5,d),(6,e),(7,f),(8,g),(9,h),(11,i),(12,j),(13,k),(14,m),(16,n),(34,o),(35,p),(37,q),(38,r),(39,s),(40,t),(58,u),(59,v),(60,w),(61,x),(62,y),(107,z),(111,A),(112,B),(113,C),(114,D),(156,E),(169,F),(171,G),(172,H),(173,M),(174,J),(179,K)] := by intros; rfl
     refine R_nil (tr ..) ?_; clear tr
     refine then_n ?_
     exact ⟨_, _, ⟨v + 1, n + 1, _, _, _, rfl, rfl, by exact q6, by (show H.length < HI.length; omega), by omega, by first | (rw [hn, able_y (by assumption)]; rfl) | (rw [hn, able_n (by first | assumption | omega)])⟩, by rfl, by omega⟩
    ·
     try simp only [decide_eq_true_eq, decide_eq_false_iff_not, Bool.not_eq_true', Bool.not_eq_false', beq_iff_eq, beq_eq_false_iff_ne, ne_eq] at h21
     refine at_skip rfl ?_
     refine blk_n ?_
     refine then_n ?_
     refine rg rfl ?_
     refine Rq ?_
     refine Rq ?_
     have tr : ∀ a b c d e f g h i j k m n o p q r s t u v w x y z A B C D E F G H I J K L M : AV, let l := lc_law_w a b c d e f g h i j k m n o p q r s t u v w x y z A B C D E F G H I J K; trim ((173,M)::(182,L)::l) l = [(0,a),(1,b),(4,c),(5,d),(6,e),(7,f),(8,g),(9,h),(11,i),(12,j),(13,k),(14,m),(16,n),(34,o),(35,p),(37,q),(38,r),(39,s),(40,t),(58,u),(59,v),(60,w),(61,x),(62,y),(107,z),(111,A),(112,B),(113,C),(114,D),(156,E),(169,F),(171,G),(172,H),(173,M),(174,J),(179,K)] := by intros; rfl
     refine R_nil (tr ..) ?_; clear tr
     refine then_n ?_
     exact ⟨_, _, ⟨v + 1, n, _, _, _, rfl, rfl, by exact q6, by (show H.length < HI.length; omega), by omega, by first | (rw [hn, able_y (by assumption)]; rfl) | (rw [hn, able_n (by first | assumption | omega)])⟩, by rfl, by omega⟩
   ·
    try simp only [decide_eq_true_eq, decide_eq_false_iff_not, Bool.not_eq_true', Bool.not_eq_false', beq_iff_eq, beq_eq_false_iff_ne, ne_eq] at h20
    refine at_exit rfl ?_
    refine then_x ?_
    refine then_x ?_
    refine blk_x ?_
    refine then_n ?_
    refine at_seq rfl ?_
    refine rg rfl ?_
    refine Rq ?_
    refine Rq ?_
    refine Rq ?_
    refine Rq ?_
    refine Rp_split (fun h22 => ?_) (fun h22 => ?_)
    ·
     try simp only [decide_eq_true_eq, decide_eq_false_iff_not, Bool.not_eq_true', Bool.not_eq_false', beq_iff_eq, beq_eq_false_iff_ne, ne_eq] at h22
     refine Ry ?_
     refine Rq ?_
     refine Ry ?_
     refine R_q rfl (by simp (disch := first | omega | (simp only [List.length_map, List.length_append, List.length_set, List.length_cons, List.length_nil]; omega)) only [go_sem, ↓reduceIte, Nat.reduceEqDiff, reduceCtorEq, q6, q9, q11, q13, q16]; rfl) ?_
     refine Ry ?_
     refine Rq ?_
     refine Ry ?_
     refine Rq ?_
     refine Ry ?_
     refine Rq ?_
     refine Rq ?_
     refine Rq ?_
     have tr : ∀ a b c d e f g h i j k m n o p q r s t u v w x y z A B C D E F G H I J K L M N O P Q R S T U V : AV, let l := lc_law_w a b c d e f g h i j k m n o p q r s t u v w x y z A B C D E F G H I J K; trim ((4,V)::(192,U)::(191,T)::(190,S)::(189,R)::(188,Q)::(187,P)::(186,O)::(185,N)::(184,M)::(183,L)::l) l = [(0,a),(1,b),(4,V),(5,d),(6,e),(7,f),(8,g),(9,h),(11,i),(12,j),(13,k),(14,m),(16,n),(34,o),(35,p),(37,q),(38,r),(39,s),(40,t),(58,u),(59,v),(60,w),(61,x),(62,y),(107,z),(111,A),(112,B),(113,C),(114,D),(156,E),(169,F),(171,G),(172,H),(173,I),(174,J),(179,K)] := by intros; rfl
     refine R_nil (tr ..) ?_; clear tr
     refine then_n ?_
     refine at_ret rfl ?_
     refine blk_r ?_
     refine then_r ?_
     refine fpure ?_
     refine congrArg (fun b => AV.v (.bool b)) ?_
     obtain rfl : v = k2 := by omega
     refine decide_eq_true ?_
     omega
    ·
     try simp only [decide_eq_true_eq, decide_eq_false_iff_not, Bool.not_eq_true', Bool.not_eq_false', beq_iff_eq, beq_eq_false_iff_ne, ne_eq] at h22
     first | contradiction | (simp_all; done)
  ·
   try simp only [decide_eq_true_eq, decide_eq_false_iff_not, Bool.not_eq_true', Bool.not_eq_false', beq_iff_eq, beq_eq_false_iff_ne, ne_eq] at h19
   have hE2 : ¬ E = 13 := by assumption
   have her := Q.err hE1 hE2
   refine at_skip rfl ?_
   refine blk_n ?_
   refine then_n ?_
   refine at_seq rfl ?_
   refine rg rfl ?_
   refine Rq ?_
   refine Rq ?_
   refine Rcall ?_
   refine ACall_prim (r := AV.i (ckS (l.take k) (us.take k2))) rfl hchk ?_
   refine Rq ?_
   refine Rq ?_
   refine Rq ?_
   have tr : ∀ a b c d e f g h i j k m n o p q r s t u v w x y z A B C D E F G H I J K L M N O P Q : AV, let l := lc_law_w a b c d e f g h i j k m n o p q r s t u v w x y z A B C D E F G H I J K; trim ((4,Q)::(197,P)::(196,O)::(195,N)::(194,M)::(193,L)::l) l = [(0,a),(1,b),(4,Q),(5,d),(6,e),(7,f),(8,g),(9,h),(11,i),(12,j),(13,k),(14,m),(16,n),(34,o),(35,p),(37,q),(38,r),(39,s),(40,t),(58,u),(59,v),(60,w),(61,x),(62,y),(107,z),(111,A),(112,B),(113,C),(114,D),(156,E),(169,F),(171,G),(172,H),(173,I),(174,J),(179,K)] := by intros; rfl
   refine R_nil (tr ..) ?_; clear tr
   refine then_n ?_
   refine at_ret rfl ?_
   refine fpure ?_
   refine congrArg (fun b => AV.v (.bool b)) ?_
   rw [her]; exact decide_eq_true rfl

end Go.Proofs.Ytcnleglfdnhagaa.L
