/-
  Walks of the seat of TopReserve. The steps are written by program (walk.py).
-/
import Derived.Test.YtkjgmpjnhfmecaaBt
import Derived.Test.YtkjgmpjnhfmecaaAw
import Derived.Test.YtkjgmpjnhfmecaaRE
import Derived.Test.YtkjgmpjnhfmecaaRF
import Derived.Test.YtkjgmpjnhfmecaaRG
set_option linter.unusedSimpArgs false
set_option linter.unusedVariables false
set_option maxHeartbeats 40000000
set_option maxRecDepth 4000
namespace Go.Proofs.Ytkjgmpjnhfmecaa
open Go Go.Am

abbrev lc_reserve_law (a b c d e f g h i j k m n o p q r s t u v w x y z A B C D E F G H I J K L M N O P Q R S T U V W X Y Z a1 b1 c1 d1 e1 f1 g1 h1 i1 j1 k1 : AV) : Env := [(0,a),(1,b),(2,c),(4,d),(5,e),(6,f),(7,g),(8,h),(9,i),(10,j),(11,k),(12,m),(13,n),(14,o),(15,p),(16,q),(17,r),(18,s),(19,t),(20,u),(21,v),(22,w),(23,x),(24,y),(25,z),(26,A),(27,B),(28,C),(30,D),(31,E),(32,F),(33,G),(35,H),(63,I),(81,J),(82,K),(83,L),(96,M),(97,N),(98,O),(99,P),(135,Q),(154,R),(158,S),(159,T),(160,U),(161,V),(186,W),(200,X),(201,Y),(202,Z),(212,a1),(219,b1),(220,c1),(221,d1),(222,e1),(236,f1),(240,g1),(241,h1),(242,i1),(243,j1),(259,k1)]
theorem reserve_law (k f0 r0 : Int) (z : AV) (G : List Int) (hz : AnyI z G) (hk : 0 ≤ k ∧ k ≤ 255) (l0 l1 l2 l3 : Int) (b0 : 0 ≤ l0 ∧ l0 ≤ 255) (b1 : 0 ≤ l1 ∧ l1 ≤ 255) (b2 : 0 ≤ l2 ∧ l2 ≤ 255) (b3 : 0 ≤ l3 ∧ l3 ≤ 255) :
    ACall sig 0 3 [.v (.int .u8 k), .agg [AV.i f0, AV.i r0, z], .agg [u8A l0, u8A l1, u8A l2, u8A l3]] [] fun r _ => r = .v (.bool true) := by
 have hsz := hz.st
 have q4 : True := trivial
 have q5 : True := trivial
 have qc : True := trivial
 have qu : True := trivial
 have q18 : True := trivial
 have q21 : True := trivial
 have q25 : True := trivial
 have q30 : True := trivial
 have qj : True := trivial
 have qo : True := trivial
 refine ACall_pure (fa := fa3) rfl rfl rfl rfl ?_
 have tr : ∀ a0 a1 a2 : AV, env0 fa3.keep [a0, a1, a2] = [(0,a0),(1,a1),(2,a2),(4,.any),(5,.any),(6,.any),(7,.any),(8,.any),(9,.any),(10,.any),(11,.any),(12,.any),(13,.any),(14,.any),(15,.any),(16,.any),(17,.any),(18,.any),(19,.any),(20,.any),(21,.any),(22,.any),(23,.any),(24,.any),(25,.any),(26,.any),(27,.any),(28,.any),(30,.any),(31,.any),(32,.any),(33,.any),(35,.any),(63,.any),(81,.any),(82,.any),(83,.any),(96,.any),(97,.any),(98,.any),(99,.any),(135,.any),(154,.any),(158,.any),(159,.any),(160,.any),(161,.any),(186,.any),(200,.any),(201,.any),(202,.any),(212,.any),(219,.any),(220,.any),(221,.any),(222,.any),(236,.any),(240,.any),(241,.any),(242,.any),(243,.any),(259,.any)] := fun a0 a1 a2 => rfl
 refine W_to (tr _ _ _) ?_; clear tr
 refine at_seq rfl ?_
 refine rg rfl ?_
 refine R_box (H' := [some [AV.i f0, AV.i r0, z]]) rfl (by simp (disch := first | omega | (simp only [List.length_map, List.length_append, List.length_set, List.length_cons, List.length_nil]; omega)) only [go_sem, ↓reduceIte, Nat.reduceEqDiff, reduceCtorEq, hsz] <;> rfl) rfl rfl ?_
 refine R_box (H' := [some [AV.i f0, AV.i r0, z], some [u8A l0, u8A l1, u8A l2, u8A l3]]) rfl (by simp (disch := first | omega | (simp only [List.length_map, List.length_append, List.length_set, List.length_cons, List.length_nil]; omega)) only [go_sem, ↓reduceIte, Nat.reduceEqDiff, reduceCtorEq, hsz] <;> rfl) rfl rfl ?_
 refine Rq ?_
 have tr : ∀ a b c d e f g h i j k m n o p q r s t u v w x y z A B C D E F G H I J K L M N O P Q R S T U V W X Y Z a1 b1 c1 d1 e1 f1 g1 h1 i1 j1 k1 m1 n1 o1 : AV, let l := lc_reserve_law a b c d e f g h i j k m n o p q r s t u v w x y z A B C D E F G H I J K L M N O P Q R S T U V W X Y Z a1 b1 c1 d1 e1 f1 g1 h1 i1 j1 k1; trim ((6,o1)::(5,n1)::(4,m1)::l) l = [(0,a),(1,b),(2,c),(4,m1),(5,n1),(6,o1),(7,g),(8,h),(9,i),(10,j),(11,k),(12,m),(13,n),(14,o),(15,p),(16,q),(17,r),(18,s),(19,t),(20,u),(21,v),(22,w),(23,x),(24,y),(25,z),(26,A),(27,B),(28,C),(30,D),(31,E),(32,F),(33,G),(35,H),(63,I),(81,J),(82,K),(83,L),(96,M),(97,N),(98,O),(99,P),(135,Q),(154,R),(158,S),(159,T),(160,U),(161,V),(186,W),(200,X),(201,Y),(202,Z),(212,a1),(219,b1),(220,c1),(221,d1),(222,e1),(236,f1),(240,g1),(241,h1),(242,i1),(243,j1),(259,k1)] := by intros; rfl
 refine R_nil (tr ..) ?_; clear tr
 refine then_n ?_
 refine at_seq rfl ?_
 refine at_seq rfl ?_
 refine rg rfl ?_
 refine Rcall ?_
 refine ACall_eval 200 (awake50 _ _) ?_
 refine Rq ?_
 have tr : ∀ a b c d e f g h i j k m n o p q r s t u v w x y z A B C D E F G H I J K L M N O P Q R S T U V W X Y Z a1 b1 c1 d1 e1 f1 g1 h1 i1 j1 k1 m1 n1 : AV, let l := lc_reserve_law a b c d e f g h i j k m n o p q r s t u v w x y z A B C D E F G H I J K L M N O P Q R S T U V W X Y Z a1 b1 c1 d1 e1 f1 g1 h1 i1 j1 k1; trim ((35,n1)::(34,m1)::l) l = [(0,a),(1,b),(2,c),(4,d),(5,e),(6,f),(7,g),(8,h),(9,i),(10,j),(11,k),(12,m),(13,n),(14,o),(15,p),(16,q),(17,r),(18,s),(19,t),(20,u),(21,v),(22,w),(23,x),(24,y),(25,z),(26,A),(27,B),(28,C),(30,D),(31,E),(32,F),(33,G),(35,n1),(63,I),(81,J),(82,K),(83,L),(96,M),(97,N),(98,O),(99,P),(135,Q),(154,R),(158,S),(159,T),(160,U),(161,V),(186,W),(200,X),(201,Y),(202,Z),(212,a1),(219,b1),(220,c1),(221,d1),(222,e1),(236,f1),(240,g1),(241,h1),(242,i1),(243,j1),(259,k1)] := by intros; rfl
 refine R_nil (tr ..) ?_; clear tr
 refine then_n ?_
 refine cdf ?_
 refine at_skip rfl ?_
 refine then_n ?_
 refine at_seq rfl ?_
 refine rg rfl ?_
 refine Rq ?_
 refine R_q rfl (by simp (disch := first | omega | (simp only [List.length_map, List.length_append, List.length_set, List.length_cons, List.length_nil]; omega)) only [go_sem, ↓reduceIte, Nat.reduceEqDiff, reduceCtorEq, q4, q5, qc, qu, q18, q21, q25, q30, qj, qo, hsz]; rfl) ?_
 refine Rcall ?_
 refine ACall_mono (seasonof_ok _ _ k f0 r0 z G hz hk) ?_
 rintro r H5 ⟨⟨n, first, rest, gr, hn, rfl, hf1, hr1, hgl, hgr⟩, rfl⟩
 refine Rq ?_
 refine Rq ?_
 refine Rq ?_
 refine Rq ?_
 refine R_store (b := 0) (o := 0) (k := [AV.i f0, AV.i r0, z]) (H' := [some (ssC first rest gr), some [u8A l0, u8A l1, u8A l2, u8A l3]]) ty24 (by simp (disch := first | omega | (simp only [List.length_map, List.length_append, List.length_set, List.length_cons, List.length_nil]; omega)) only [go_sem, ↓reduceIte, Nat.reduceEqDiff, reduceCtorEq] <;> rfl) (by simp (disch := first | omega | (simp only [List.length_map, List.length_append, List.length_set, List.length_cons, List.length_nil]; omega)) only [go_sem, ↓reduceIte, Nat.reduceEqDiff, reduceCtorEq] <;> rfl) rfl (by simp) rfl rfl ?_
 have tr : ∀ a b c d e f g h i j k m n o p q r s t u v w x y z A B C D E F G H I J K L M N O P Q R S T U V W X Y Z a1 b1 c1 d1 e1 f1 g1 h1 i1 j1 k1 m1 n1 o1 p1 q1 r1 s1 : AV, let l := lc_reserve_law a b c d e f g h i j k m n o p q r s t u v w x y z A B C D E F G H I J K L M N O P Q R S T U V W X Y Z a1 b1 c1 d1 e1 f1 g1 h1 i1 j1 k1; trim ((7,s1)::(41,r1)::(40,q1)::(36,p1)::(39,o1)::(38,n1)::(37,m1)::l) l = [(0,a),(1,b),(2,c),(4,d),(5,e),(6,f),(7,s1),(8,h),(9,i),(10,j),(11,k),(12,m),(13,n),(14,o),(15,p),(16,q),(17,r),(18,s),(19,t),(20,u),(21,v),(22,w),(23,x),(24,y),(25,z),(26,A),(27,B),(28,C),(30,D),(31,E),(32,F),(33,G),(35,H),(63,I),(81,J),(82,K),(83,L),(96,M),(97,N),(98,O),(99,P),(135,Q),(154,R),(158,S),(159,T),(160,U),(161,V),(186,W),(200,X),(201,Y),(202,Z),(212,a1),(219,b1),(220,c1),(221,d1),(222,e1),(236,f1),(240,g1),(241,h1),(242,i1),(243,j1),(259,k1)] := by intros; rfl
 refine R_nil (tr ..) ?_; clear tr
 refine then_n ?_
 refine at_seq rfl ?_
 refine rg rfl ?_
 refine Rq ?_
 refine Rcall ?_
 obtain ⟨L, hL1, hL2, hL3, hL4⟩ := rounds_all n (by omega)
 refine ACall_eval 200 (hL1 _ _ _ _ _ _ _ _) ?_
 obtain ⟨HX, hHX⟩ : ∃ HX : Heap, HX = [some (ssC first rest gr), some [u8A l0, u8A l1, u8A l2, u8A l3]] := ⟨_, rfl⟩
 have q4 : hget HX 0 = some (ssC first rest gr) := by rw [hHX]; rfl
 have q5 : hget HX 1 = some [u8A l0, u8A l1, u8A l2, u8A l3] := by rw [hHX]; rfl
 have lHX : 2 = HX.length := by rw [hHX]; rfl
 rewrite [← hHX]
 clear hHX
 refine Rq ?_
 refine Rq ?_
 refine Rq ?_
 refine Rq ?_
 refine Rq ?_
 have tr : ∀ a b c d e f g h i j k m n o p q r s t u v w x y z A B C D E F G H I J K L M N O P Q R S T U V W X Y Z a1 b1 c1 d1 e1 f1 g1 h1 i1 j1 k1 m1 n1 o1 p1 q1 r1 s1 : AV, let l := lc_reserve_law a b c d e f g h i j k m n o p q r s t u v w x y z A B C D E F G H I J K L M N O P Q R S T U V W X Y Z a1 b1 c1 d1 e1 f1 g1 h1 i1 j1 k1; trim ((9,s1)::(8,r1)::(46,q1)::(45,p1)::(42,o1)::(44,n1)::(43,m1)::l) l = [(0,a),(1,b),(2,c),(4,d),(5,e),(6,f),(7,g),(8,r1),(9,s1),(10,j),(11,k),(12,m),(13,n),(14,o),(15,p),(16,q),(17,r),(18,s),(19,t),(20,u),(21,v),(22,w),(23,x),(24,y),(25,z),(26,A),(27,B),(28,C),(30,D),(31,E),(32,F),(33,G),(35,H),(63,I),(81,J),(82,K),(83,L),(96,M),(97,N),(98,O),(99,P),(135,Q),(154,R),(158,S),(159,T),(160,U),(161,V),(186,W),(200,X),(201,Y),(202,Z),(212,a1),(219,b1),(220,c1),(221,d1),(222,e1),(236,f1),(240,g1),(241,h1),(242,i1),(243,j1),(259,k1)] := by intros; rfl
 refine R_nil (tr ..) ?_; clear tr
 refine then_n ?_
 refine at_seq rfl ?_
 refine rg rfl ?_
 refine Rq ?_
 refine R_q rfl (by simp (disch := first | omega | (simp only [List.length_map, List.length_append, List.length_set, List.length_cons, List.length_nil]; omega)) only [go_sem, ↓reduceIte, Nat.reduceEqDiff, reduceCtorEq, q4, q5, qc, qu, q18, q21, q25, q30, qj, qo, hsz]; rfl) ?_
 refine Rcall ?_
 refine ACall_mono (place_ok _ _ L hL2 (by omega) first rest gr hf1 hr1 (by omega) hgr (fun i hi => by rw [hgl]; exact hL4 i hi)) ?_
 rintro r HX ⟨⟨P, rfl, hPl, hPd⟩, rfl⟩
 refine Rq ?_
 refine Rq ?_
 refine Rq ?_
 refine Rq ?_
 refine Rq ?_
 have tr : ∀ a b c d e f g h i j k m n o p q r s t u v w x y z A B C D E F G H I J K L M N O P Q R S T U V W X Y Z a1 b1 c1 d1 e1 f1 g1 h1 i1 j1 k1 m1 n1 o1 p1 q1 r1 s1 t1 : AV, let l := lc_reserve_law a b c d e f g h i j k m n o p q r s t u v w x y z A B C D E F G H I J K L M N O P Q R S T U V W X Y Z a1 b1 c1 d1 e1 f1 g1 h1 i1 j1 k1; trim ((11,t1)::(10,s1)::(52,r1)::(51,q1)::(47,p1)::(50,o1)::(49,n1)::(48,m1)::l) l = [(0,a),(1,b),(2,c),(4,d),(5,e),(6,f),(7,g),(8,h),(9,i),(10,s1),(11,t1),(12,m),(13,n),(14,o),(15,p),(16,q),(17,r),(18,s),(19,t),(20,u),(21,v),(22,w),(23,x),(24,y),(25,z),(26,A),(27,B),(28,C),(30,D),(31,E),(32,F),(33,G),(35,H),(63,I),(81,J),(82,K),(83,L),(96,M),(97,N),(98,O),(99,P),(135,Q),(154,R),(158,S),(159,T),(160,U),(161,V),(186,W),(200,X),(201,Y),(202,Z),(212,a1),(219,b1),(220,c1),(221,d1),(222,e1),(236,f1),(240,g1),(241,h1),(242,i1),(243,j1),(259,k1)] := by intros; rfl
 refine R_nil (tr ..) ?_; clear tr
 refine then_n ?_
 refine at_seq rfl ?_
 refine at_seq rfl ?_
 refine rg rfl ?_
 refine Rq ?_
 refine Rq ?_
 refine Rq ?_
 refine Rp_split (fun h1 => ?_) (fun h1 => ?_)
 ·
  try simp only [decide_eq_true_eq, decide_eq_false_iff_not, Bool.not_eq_true', Bool.not_eq_false', beq_iff_eq, beq_eq_false_iff_ne, ne_eq] at h1
  first | omega | contradiction | (exfalso; simp_all; done)
 ·
  try simp only [decide_eq_true_eq, decide_eq_false_iff_not, Bool.not_eq_true', Bool.not_eq_false', beq_iff_eq, beq_eq_false_iff_ne, ne_eq] at h1
  refine Ry ?_
  refine Rq ?_
  refine Ry ?_
  refine Rq ?_
  refine Rq ?_
  refine Rq ?_
  refine Rp_split (fun h2 => ?_) (fun h2 => ?_)
  ·
   try simp only [decide_eq_true_eq, decide_eq_false_iff_not, Bool.not_eq_true', Bool.not_eq_false', beq_iff_eq, beq_eq_false_iff_ne, ne_eq] at h2
   first | omega | contradiction | (exfalso; simp_all; done)
  ·
   try simp only [decide_eq_true_eq, decide_eq_false_iff_not, Bool.not_eq_true', Bool.not_eq_false', beq_iff_eq, beq_eq_false_iff_ne, ne_eq] at h2
   refine Ry ?_
   refine Rq ?_
   refine Ry ?_
   refine Rq ?_
   refine Ry ?_
   refine Rq ?_
   refine Rq ?_
   have tr : ∀ a b c d e f g h i j k m n o p q r s t u v w x y z A B C D E F G H I J K L M N O P Q R S T U V W X Y Z a1 b1 c1 d1 e1 f1 g1 h1 i1 j1 k1 m1 n1 o1 p1 q1 r1 s1 t1 u1 v1 w1 : AV, let l := lc_reserve_law a b c d e f g h i j k m n o p q r s t u v w x y z A B C D E F G H I J K L M N O P Q R S T U V W X Y Z a1 b1 c1 d1 e1 f1 g1 h1 i1 j1 k1; trim ((63,w1)::(62,v1)::(61,u1)::(60,t1)::(59,s1)::(58,r1)::(57,q1)::(56,p1)::(55,o1)::(54,n1)::(53,m1)::l) l = [(0,a),(1,b),(2,c),(4,d),(5,e),(6,f),(7,g),(8,h),(9,i),(10,j),(11,k),(12,m),(13,n),(14,o),(15,p),(16,q),(17,r),(18,s),(19,t),(20,u),(21,v),(22,w),(23,x),(24,y),(25,z),(26,A),(27,B),(28,C),(30,D),(31,E),(32,F),(33,G),(35,H),(63,w1),(81,J),(82,K),(83,L),(96,M),(97,N),(98,O),(99,P),(135,Q),(154,R),(158,S),(159,T),(160,U),(161,V),(186,W),(200,X),(201,Y),(202,Z),(212,a1),(219,b1),(220,c1),(221,d1),(222,e1),(236,f1),(240,g1),(241,h1),(242,i1),(243,j1),(259,k1)] := by intros; rfl
   refine R_nil (tr ..) ?_; clear tr
   refine then_n ?_
   refine cdd (fun h3 => ?_) (fun h3 => ?_)
   ·
    try simp only [decide_eq_true_eq, decide_eq_false_iff_not, Bool.not_eq_true', Bool.not_eq_false', beq_iff_eq, beq_eq_false_iff_ne, ne_eq] at h3
    first | omega | contradiction | (exfalso; simp_all; done)
   ·
    try simp only [decide_eq_true_eq, decide_eq_false_iff_not, Bool.not_eq_true', Bool.not_eq_false', beq_iff_eq, beq_eq_false_iff_ne, ne_eq] at h3
    refine at_skip rfl ?_
    refine then_n ?_
    refine at_seq rfl ?_
    refine rd rfl rfl ?_
    obtain ⟨pe, hpe⟩ : ∃ p : Nat, (p : Int) = (P.length : Int) - 1 := ⟨P.length - 1, by omega⟩
    have hpd := hPd pe (by omega)
    refine Qq ?_
    refine Q_q rfl (by simp (disch := first | omega | (simp only [List.length_map, List.length_append, List.length_set, List.length_cons, List.length_nil]; omega)) only [go_sem, ↓reduceIte, Nat.reduceEqDiff, reduceCtorEq, q4, q5, qc, qu, q18, q21, q25, q30, qj, qo, hsz]; rfl) ?_
    refine Qq ?_
    refine Qq ?_
    refine Qq ?_
    refine Q_q (r := AV.i (pe : Nat)) rfl (by simp (disch := first | omega | (simp only [List.length_map, List.length_append, List.length_set, List.length_cons, List.length_nil]; omega)) only [go_sem, ↓reduceIte, Nat.reduceEqDiff, reduceCtorEq, q4, q5, qc] <;> first | rfl | (rw [hpe])) ?_
    refine Qq ?_
    refine Qq ?_
    refine Q_q (r := AV.i (gt P pe).d) rfl (by simp (disch := first | omega | (simp only [List.length_map, List.length_append, List.length_set, List.length_cons, List.length_nil]; omega)) only [go_sem, ↓reduceIte, Nat.reduceEqDiff, reduceCtorEq, q4, q5, qc, qu] <;> exact flatP3 P pe (by omega)) ?_
    refine Qq ?_
    refine Qq ?_
    refine Qq ?_
    refine Q_nil ?_
    have tr : ∀ a b c d e f g h i j k m n o p q r s t u v w x y z A B C D E F G H I J K L M N O P Q R S T U V W X Y Z a1 b1 c1 d1 e1 f1 g1 h1 i1 j1 k1 m1 n1 o1 p1 q1 r1 s1 t1 u1 v1 w1 x1 : AV, let l := lc_reserve_law a b c d e f g h i j k m n o p q r s t u v w x y z A B C D E F G H I J K L M N O P Q R S T U V W X Y Z a1 b1 c1 d1 e1 f1 g1 h1 i1 j1 k1; trim ((13,x1)::(12,w1)::(73,v1)::(72,u1)::(71,t1)::(70,s1)::(69,r1)::(68,q1)::(67,p1)::(66,o1)::(65,n1)::(64,m1)::l) l = [(0,a),(1,b),(2,c),(4,d),(5,e),(6,f),(7,g),(8,h),(9,i),(10,j),(11,k),(12,w1),(13,x1),(14,o),(15,p),(16,q),(17,r),(18,s),(19,t),(20,u),(21,v),(22,w),(23,x),(24,y),(25,z),(26,A),(27,B),(28,C),(30,D),(31,E),(32,F),(33,G),(35,H),(63,I),(81,J),(82,K),(83,L),(96,M),(97,N),(98,O),(99,P),(135,Q),(154,R),(158,S),(159,T),(160,U),(161,V),(186,W),(200,X),(201,Y),(202,Z),(212,a1),(219,b1),(220,c1),(221,d1),(222,e1),(236,f1),(240,g1),(241,h1),(242,i1),(243,j1),(259,k1)] := by intros; rfl
    refine R_nil (tr ..) ?_; clear tr
    refine then_n ?_
    refine at_seq rfl ?_
    refine rg rfl ?_
    obtain ⟨m, hm⟩ : ∃ m : Nat, (m : Int) = min ((gt P pe).d + 10 - first + 1) 400 := ⟨(min ((gt P pe).d + 10 - first + 1) 400).toNat, by omega⟩
    refine Rq ?_
    refine Rq ?_
    refine Rq ?_
    refine Rq ?_
    refine R_q (r := AV.i (m : Nat)) rfl (by simp (disch := first | omega | (simp only [List.length_map, List.length_append, List.length_set, List.length_cons, List.length_nil]; omega)) only [go_sem, ↓reduceIte, Nat.reduceEqDiff, reduceCtorEq, q4, q5, qc] <;> first | rfl | (rw [hm])) ?_
    refine A_makeSlice (ms22 _ _ m _ _ _ (by omega) (by simp (disch := first | omega | (simp only [List.length_map, List.length_append, List.length_set, List.length_cons, List.length_nil]; omega)) only [go_sem, ↓reduceIte, Nat.reduceEqDiff, reduceCtorEq] <;> rfl) (by simp (disch := first | omega | (simp only [List.length_map, List.length_append, List.length_set, List.length_cons, List.length_nil]; omega)) only [go_sem, ↓reduceIte, Nat.reduceEqDiff, reduceCtorEq] <;> rfl)) ?_
    intro HA n9
    have en9 := n9.len
    have q4 := (n9.old _ (hget_lt q4)).trans q4
    have q5 := (n9.old _ (hget_lt q5)).trans q5
    have qc := n9.new
    refine Rq ?_
    have tr : ∀ a b c d e f g h i j k m n o p q r s t u v w x y z A B C D E F G H I J K L M N O P Q R S T U V W X Y Z a1 b1 c1 d1 e1 f1 g1 h1 i1 j1 k1 m1 n1 o1 p1 q1 r1 s1 : AV, let l := lc_reserve_law a b c d e f g h i j k m n o p q r s t u v w x y z A B C D E F G H I J K L M N O P Q R S T U V W X Y Z a1 b1 c1 d1 e1 f1 g1 h1 i1 j1 k1; trim ((14,s1)::(79,r1)::(78,q1)::(77,p1)::(76,o1)::(75,n1)::(74,m1)::l) l = [(0,a),(1,b),(2,c),(4,d),(5,e),(6,f),(7,g),(8,h),(9,i),(10,j),(11,k),(12,m),(13,n),(14,s1),(15,p),(16,q),(17,r),(18,s),(19,t),(20,u),(21,v),(22,w),(23,x),(24,y),(25,z),(26,A),(27,B),(28,C),(30,D),(31,E),(32,F),(33,G),(35,H),(63,I),(81,J),(82,K),(83,L),(96,M),(97,N),(98,O),(99,P),(135,Q),(154,R),(158,S),(159,T),(160,U),(161,V),(186,W),(200,X),(201,Y),(202,Z),(212,a1),(219,b1),(220,c1),(221,d1),(222,e1),(236,f1),(240,g1),(241,h1),(242,i1),(243,j1),(259,k1)] := by intros; rfl
    refine R_nil (tr ..) ?_; clear tr
    refine then_n ?_
    refine at_seq rfl ?_
    refine at_seq rfl ?_
    refine rg rfl ?_
    refine Rq ?_
    refine Rq ?_
    refine Rq ?_
    have tr : ∀ a b c d e f g h i j k m n o p q r s t u v w x y z A B C D E F G H I J K L M N O P Q R S T U V W X Y Z a1 b1 c1 d1 e1 f1 g1 h1 i1 j1 k1 m1 n1 o1 : AV, let l := lc_reserve_law a b c d e f g h i j k m n o p q r s t u v w x y z A B C D E F G H I J K L M N O P Q R S T U V W X Y Z a1 b1 c1 d1 e1 f1 g1 h1 i1 j1 k1; trim ((82,o1)::(81,n1)::(80,m1)::l) l = [(0,a),(1,b),(2,c),(4,d),(5,e),(6,f),(7,g),(8,h),(9,i),(10,j),(11,k),(12,m),(13,n),(14,o),(15,p),(16,q),(17,r),(18,s),(19,t),(20,u),(21,v),(22,w),(23,x),(24,y),(25,z),(26,A),(27,B),(28,C),(30,D),(31,E),(32,F),(33,G),(35,H),(63,I),(81,n1),(82,o1),(83,L),(96,M),(97,N),(98,O),(99,P),(135,Q),(154,R),(158,S),(159,T),(160,U),(161,V),(186,W),(200,X),(201,Y),(202,Z),(212,a1),(219,b1),(220,c1),(221,d1),(222,e1),(236,f1),(240,g1),(241,h1),(242,i1),(243,j1),(259,k1)] := by intros; rfl
    refine R_nil (tr ..) ?_; clear tr
    refine then_n ?_
    refine at_block rfl ?_
    refine loop_n rfl (fun mm kv H' => ∃ u : Nat, ∃ D : List Int, ∃ x15 x83 : AV, (kv = [(15, x15), (82, AV.i u), (83, x83)]) ∧ (mm = m - u) ∧ (u ≤ m) ∧ (D.length = m) ∧ (∀ i, i < u → gt D i = 0 ∨ gt D i = 1) ∧ (hget H' 1 = some [u8A l0, u8A l1, u8A l2, u8A l3]) ∧ (hget H' HX.length = some (D.map AV.i))) ⟨0, List.replicate m 0, _, _, rfl, rfl, by omega, by (rw [List.length_replicate]), by intro i hi; omega, by exact q5, by exact qc⟩ (by rfl) ?_
    rintro mm kv HC ⟨u, D, x15, x83, rfl, rfl, hu, hDl, hD, q5, qc⟩
    have tr : ∀ a b c d e f g h i j k m n o p q r s t u v w x y z A B C D E F G H I J K L M N O P Q R S T U V W X Y Z a1 b1 c1 d1 e1 f1 g1 h1 i1 j1 k1 m1 n1 o1 : AV, upd [(0,a),(1,b),(2,c),(4,d),(5,e),(6,f),(7,g),(8,h),(9,i),(10,j),(11,k),(12,m),(13,n),(14,o),(15,p),(16,q),(17,r),(18,s),(19,t),(20,u),(21,v),(22,w),(23,x),(24,y),(25,z),(26,A),(27,B),(28,C),(30,D),(31,E),(32,F),(33,G),(35,H),(63,I),(81,J),(82,K),(83,L),(96,M),(97,N),(98,O),(99,P),(135,Q),(154,R),(158,S),(159,T),(160,U),(161,V),(186,W),(200,X),(201,Y),(202,Z),(212,a1),(219,b1),(220,c1),(221,d1),(222,e1),(236,f1),(240,g1),(241,h1),(242,i1),(243,j1),(259,k1)] [(15,m1),(82,n1),(83,o1)] = [(0,a),(1,b),(2,c),(4,d),(5,e),(6,f),(7,g),(8,h),(9,i),(10,j),(11,k),(12,m),(13,n),(14,o),(15,m1),(16,q),(17,r),(18,s),(19,t),(20,u),(21,v),(22,w),(23,x),(24,y),(25,z),(26,A),(27,B),(28,C),(30,D),(31,E),(32,F),(33,G),(35,H),(63,I),(81,J),(82,n1),(83,o1),(96,M),(97,N),(98,O),(99,P),(135,Q),(154,R),(158,S),(159,T),(160,U),(161,V),(186,W),(200,X),(201,Y),(202,Z),(212,a1),(219,b1),(220,c1),(221,d1),(222,e1),(236,f1),(240,g1),(241,h1),(242,i1),(243,j1),(259,k1)] := by intros; rfl
    refine W_to (tr ..) ?_; clear tr
    refine at_seq rfl ?_
    refine rg rfl ?_
    refine Rq ?_
    have tr : ∀ a b c d e f g h i j k m n o p q r s t u v w x y z A B C D E F G H I J K L M N O P Q R S T U V W X Y Z a1 b1 c1 d1 e1 f1 g1 h1 i1 j1 k1 m1 : AV, let l := lc_reserve_law a b c d e f g h i j k m n o p q r s t u v w x y z A B C D E F G H I J K L M N O P Q R S T U V W X Y Z a1 b1 c1 d1 e1 f1 g1 h1 i1 j1 k1; trim ((83,m1)::l) l = [(0,a),(1,b),(2,c),(4,d),(5,e),(6,f),(7,g),(8,h),(9,i),(10,j),(11,k),(12,m),(13,n),(14,o),(15,p),(16,q),(17,r),(18,s),(19,t),(20,u),(21,v),(22,w),(23,x),(24,y),(25,z),(26,A),(27,B),(28,C),(30,D),(31,E),(32,F),(33,G),(35,H),(63,I),(81,J),(82,K),(83,m1),(96,M),(97,N),(98,O),(99,P),(135,Q),(154,R),(158,S),(159,T),(160,U),(161,V),(186,W),(200,X),(201,Y),(202,Z),(212,a1),(219,b1),(220,c1),(221,d1),(222,e1),(236,f1),(240,g1),(241,h1),(242,i1),(243,j1),(259,k1)] := by intros; rfl
    refine R_nil (tr ..) ?_; clear tr
    refine then_n ?_
    refine at_seq rfl ?_
    refine cdd (fun h4 => ?_) (fun h4 => ?_)
    ·
     try simp only [decide_eq_true_eq, decide_eq_false_iff_not, Bool.not_eq_true', Bool.not_eq_false', beq_iff_eq, beq_eq_false_iff_ne, ne_eq] at h4
     refine at_skip rfl ?_
     refine then_n ?_
     refine at_seq rfl ?_
     refine at_block rfl ?_
     refine at_seq rfl ?_
     refine rg rfl ?_
     refine Rq ?_
     refine Rq ?_
     have tr : ∀ a b c d e f g h i j k m n o p q r s t u v w x y z A B C D E F G H I J K L M N O P Q R S T U V W X Y Z a1 b1 c1 d1 e1 f1 g1 h1 i1 j1 k1 m1 n1 : AV, let l := lc_reserve_law a b c d e f g h i j k m n o p q r s t u v w x y z A B C D E F G H I J K L M N O P Q R S T U V W X Y Z a1 b1 c1 d1 e1 f1 g1 h1 i1 j1 k1; trim ((15,n1)::(84,m1)::l) l = [(0,a),(1,b),(2,c),(4,d),(5,e),(6,f),(7,g),(8,h),(9,i),(10,j),(11,k),(12,m),(13,n),(14,o),(15,n1),(16,q),(17,r),(18,s),(19,t),(20,u),(21,v),(22,w),(23,x),(24,y),(25,z),(26,A),(27,B),(28,C),(30,D),(31,E),(32,F),(33,G),(35,H),(63,I),(81,J),(82,K),(83,L),(96,M),(97,N),(98,O),(99,P),(135,Q),(154,R),(158,S),(159,T),(160,U),(161,V),(186,W),(200,X),(201,Y),(202,Z),(212,a1),(219,b1),(220,c1),(221,d1),(222,e1),(236,f1),(240,g1),(241,h1),(242,i1),(243,j1),(259,k1)] := by intros; rfl
     refine R_nil (tr ..) ?_; clear tr
     refine then_n ?_
     refine rg rfl ?_
     refine Rq ?_
     refine Rq ?_
     refine Rq ?_
     refine R_q rfl (by simp (disch := first | omega | (simp only [List.length_map, List.length_append, List.length_set, List.length_cons, List.length_nil]; omega)) only [go_sem, ↓reduceIte, Nat.reduceEqDiff, reduceCtorEq, q4, q5, qc, qu, q18, q21, q25, q30, qj, qo, hsz]; rfl) ?_
     refine Rq ?_
     refine Rq ?_
     refine Rq ?_
     obtain ⟨s7, hs7⟩ := shr_ex l2 ((u : Int) % 8) (by omega)
     refine R_q (r := AV.i s7) rfl (by simp (disch := first | omega | (simp only [List.length_map, List.length_append, List.length_set, List.length_cons, List.length_nil]; omega)) only [go_sem, ↓reduceIte, Nat.reduceEqDiff, reduceCtorEq, q4, q5, qc, qu] <;> exact hs7) ?_
     obtain ⟨s8, hs8, hs01⟩ := and01 s7
     refine R_q (r := AV.i s8) rfl (by simp (disch := first | omega | (simp only [List.length_map, List.length_append, List.length_set, List.length_cons, List.length_nil]; omega)) only [go_sem, ↓reduceIte, Nat.reduceEqDiff, reduceCtorEq, q4, q5, qc, qu] <;> exact hs8) ?_
     refine Rq ?_
     have lq5 := hget_lt q5
     have lqc := hget_lt qc
     refine A_store ty3 (by simp (disch := first | omega | (simp only [List.length_map, List.length_append, List.length_set, List.length_cons, List.length_nil]; omega)) only [go_sem, ↓reduceIte, Nat.reduceEqDiff, reduceCtorEq, q5, qc] <;> rfl) (by simp (disch := first | omega | (simp only [List.length_map, List.length_append, List.length_set, List.length_cons, List.length_nil]; omega)) only [go_sem, ↓reduceIte, Nat.reduceEqDiff, reduceCtorEq, q5, qc] <;> rfl) qc ⟨by first | omega | exact Nat.zero_le _, rfl, by first | exact Nat.le_refl _ | (simp; done) | (simp; omega)⟩ (k' := (D.set u s8).map AV.i) (by first | exact setI _ _ _ | rfl) ?_
     intro HB wB
     have ewB := wB.len
     have q5 := (wB.old _ (by omega)).trans q5
     have qc := wB.new
     have tr : ∀ a b c d e f g h i j k m n o p q r s t u v w x y z A B C D E F G H I J K L M N O P Q R S T U V W X Y Z a1 b1 c1 d1 e1 f1 g1 h1 i1 j1 k1 m1 n1 o1 p1 q1 r1 s1 t1 u1 v1 : AV, let l := lc_reserve_law a b c d e f g h i j k m n o p q r s t u v w x y z A B C D E F G H I J K L M N O P Q R S T U V W X Y Z a1 b1 c1 d1 e1 f1 g1 h1 i1 j1 k1; trim ((94,v1)::(93,u1)::(92,t1)::(91,s1)::(90,r1)::(89,q1)::(88,p1)::(87,o1)::(86,n1)::(85,m1)::l) l = [(0,a),(1,b),(2,c),(4,d),(5,e),(6,f),(7,g),(8,h),(9,i),(10,j),(11,k),(12,m),(13,n),(14,o),(15,p),(16,q),(17,r),(18,s),(19,t),(20,u),(21,v),(22,w),(23,x),(24,y),(25,z),(26,A),(27,B),(28,C),(30,D),(31,E),(32,F),(33,G),(35,H),(63,I),(81,J),(82,K),(83,L),(96,M),(97,N),(98,O),(99,P),(135,Q),(154,R),(158,S),(159,T),(160,U),(161,V),(186,W),(200,X),(201,Y),(202,Z),(212,a1),(219,b1),(220,c1),(221,d1),(222,e1),(236,f1),(240,g1),(241,h1),(242,i1),(243,j1),(259,k1)] := by intros; rfl
     refine R_nil (tr ..) ?_; clear tr
     refine blk_n ?_
     refine then_n ?_
     refine rg rfl ?_
     refine Rq ?_
     refine Rq ?_
     have tr : ∀ a b c d e f g h i j k m n o p q r s t u v w x y z A B C D E F G H I J K L M N O P Q R S T U V W X Y Z a1 b1 c1 d1 e1 f1 g1 h1 i1 j1 k1 m1 n1 : AV, let l := lc_reserve_law a b c d e f g h i j k m n o p q r s t u v w x y z A B C D E F G H I J K L M N O P Q R S T U V W X Y Z a1 b1 c1 d1 e1 f1 g1 h1 i1 j1 k1; trim ((82,n1)::(95,m1)::l) l = [(0,a),(1,b),(2,c),(4,d),(5,e),(6,f),(7,g),(8,h),(9,i),(10,j),(11,k),(12,m),(13,n),(14,o),(15,p),(16,q),(17,r),(18,s),(19,t),(20,u),(21,v),(22,w),(23,x),(24,y),(25,z),(26,A),(27,B),(28,C),(30,D),(31,E),(32,F),(33,G),(35,H),(63,I),(81,J),(82,n1),(83,L),(96,M),(97,N),(98,O),(99,P),(135,Q),(154,R),(158,S),(159,T),(160,U),(161,V),(186,W),(200,X),(201,Y),(202,Z),(212,a1),(219,b1),(220,c1),(221,d1),(222,e1),(236,f1),(240,g1),(241,h1),(242,i1),(243,j1),(259,k1)] := by intros; rfl
     refine R_nil (tr ..) ?_; clear tr
     refine then_n ?_
     exact ⟨_, _, ⟨u + 1, D.set u s8, _, _, rfl, rfl, by omega, by (rw [List.length_set]; exact hDl), by exact cap_step hD (by omega) hs01, by exact q5, by exact qc⟩, by rfl, by omega⟩
    ·
     try simp only [decide_eq_true_eq, decide_eq_false_iff_not, Bool.not_eq_true', Bool.not_eq_false', beq_iff_eq, beq_eq_false_iff_ne, ne_eq] at h4
     refine at_exit rfl ?_
     refine then_x ?_
     refine then_x ?_
     refine blk_x ?_
     refine then_n ?_
     refine at_seq rfl ?_
     refine rg rfl ?_
     refine Rq ?_
     have tr : ∀ a b c d e f g h i j k m n o p q r s t u v w x y z A B C D E F G H I J K L M N O P Q R S T U V W X Y Z a1 b1 c1 d1 e1 f1 g1 h1 i1 j1 k1 m1 : AV, let l := lc_reserve_law a b c d e f g h i j k m n o p q r s t u v w x y z A B C D E F G H I J K L M N O P Q R S T U V W X Y Z a1 b1 c1 d1 e1 f1 g1 h1 i1 j1 k1; trim ((16,m1)::l) l = [(0,a),(1,b),(2,c),(4,d),(5,e),(6,f),(7,g),(8,h),(9,i),(10,j),(11,k),(12,m),(13,n),(14,o),(15,p),(16,m1),(17,r),(18,s),(19,t),(20,u),(21,v),(22,w),(23,x),(24,y),(25,z),(26,A),(27,B),(28,C),(30,D),(31,E),(32,F),(33,G),(35,H),(63,I),(81,J),(82,K),(83,L),(96,M),(97,N),(98,O),(99,P),(135,Q),(154,R),(158,S),(159,T),(160,U),(161,V),(186,W),(200,X),(201,Y),(202,Z),(212,a1),(219,b1),(220,c1),(221,d1),(222,e1),(236,f1),(240,g1),(241,h1),(242,i1),(243,j1),(259,k1)] := by intros; rfl
     refine R_nil (tr ..) ?_; clear tr
     refine then_n ?_
     refine at_seq rfl ?_
     refine at_seq rfl ?_
     refine rg rfl ?_
     refine Rq ?_
     refine Rq ?_
     refine Rq ?_
     have tr : ∀ a b c d e f g h i j k m n o p q r s t u v w x y z A B C D E F G H I J K L M N O P Q R S T U V W X Y Z a1 b1 c1 d1 e1 f1 g1 h1 i1 j1 k1 m1 n1 o1 : AV, let l := lc_reserve_law a b c d e f g h i j k m n o p q r s t u v w x y z A B C D E F G H I J K L M N O P Q R S T U V W X Y Z a1 b1 c1 d1 e1 f1 g1 h1 i1 j1 k1; trim ((98,o1)::(97,n1)::(96,m1)::l) l = [(0,a),(1,b),(2,c),(4,d),(5,e),(6,f),(7,g),(8,h),(9,i),(10,j),(11,k),(12,m),(13,n),(14,o),(15,p),(16,q),(17,r),(18,s),(19,t),(20,u),(21,v),(22,w),(23,x),(24,y),(25,z),(26,A),(27,B),(28,C),(30,D),(31,E),(32,F),(33,G),(35,H),(63,I),(81,J),(82,K),(83,L),(96,m1),(97,n1),(98,o1),(99,P),(135,Q),(154,R),(158,S),(159,T),(160,U),(161,V),(186,W),(200,X),(201,Y),(202,Z),(212,a1),(219,b1),(220,c1),(221,d1),(222,e1),(236,f1),(240,g1),(241,h1),(242,i1),(243,j1),(259,k1)] := by intros; rfl
     refine R_nil (tr ..) ?_; clear tr
     refine then_n ?_
     refine at_block rfl ?_
     refine loop_n rfl (fun mm kv H' => ∃ i : Nat, ∃ o : AV, ∃ J : List Jb, ∃ x17 x18 x19 x99 x135 : AV, (kv = [(16, o), (17, x17), (18, x18), (19, x19), (98, AV.i i), (99, x99), (135, x135)]) ∧ (mm = P.length - i) ∧ (i ≤ P.length) ∧ (J.length ≤ i) ∧ (∀ j, j < J.length → first ≤ (gt J j).f ∧ (gt J j).f ≤ (gt J j).t ∧ (gt J j).t ≤ first + (m : Nat) - 1) ∧ (hget H' 1 = some [u8A l0, u8A l1, u8A l2, u8A l3]) ∧ (hget H' HX.length = some (D.map AV.i)) ∧ (OutG 2 (HX.length + 1) H' o J.length (flatJ J))) ⟨0, nilO, [], _, _, _, _, _, rfl, rfl, by omega, by simp, by intro j hj; simp at hj, by exact q5, by exact qc, by exact .inl ⟨rfl, rfl⟩⟩ (by rfl) ?_
     rintro mm kv HQ ⟨i, o, J, x17, x18, x19, x99, x135, rfl, rfl, hi, hJi, hJ, q5, qc, hO⟩
     have tr : ∀ a b c d e f g h i j k m n o p q r s t u v w x y z A B C D E F G H I J K L M N O P Q R S T U V W X Y Z a1 b1 c1 d1 e1 f1 g1 h1 i1 j1 k1 m1 n1 o1 p1 q1 r1 s1 : AV, upd [(0,a),(1,b),(2,c),(4,d),(5,e),(6,f),(7,g),(8,h),(9,i),(10,j),(11,k),(12,m),(13,n),(14,o),(15,p),(16,q),(17,r),(18,s),(19,t),(20,u),(21,v),(22,w),(23,x),(24,y),(25,z),(26,A),(27,B),(28,C),(30,D),(31,E),(32,F),(33,G),(35,H),(63,I),(81,J),(82,K),(83,L),(96,M),(97,N),(98,O),(99,P),(135,Q),(154,R),(158,S),(159,T),(160,U),(161,V),(186,W),(200,X),(201,Y),(202,Z),(212,a1),(219,b1),(220,c1),(221,d1),(222,e1),(236,f1),(240,g1),(241,h1),(242,i1),(243,j1),(259,k1)] [(16,m1),(17,n1),(18,o1),(19,p1),(98,q1),(99,r1),(135,s1)] = [(0,a),(1,b),(2,c),(4,d),(5,e),(6,f),(7,g),(8,h),(9,i),(10,j),(11,k),(12,m),(13,n),(14,o),(15,p),(16,m1),(17,n1),(18,o1),(19,p1),(20,u),(21,v),(22,w),(23,x),(24,y),(25,z),(26,A),(27,B),(28,C),(30,D),(31,E),(32,F),(33,G),(35,H),(63,I),(81,J),(82,K),(83,L),(96,M),(97,N),(98,q1),(99,r1),(135,s1),(154,R),(158,S),(159,T),(160,U),(161,V),(186,W),(200,X),(201,Y),(202,Z),(212,a1),(219,b1),(220,c1),(221,d1),(222,e1),(236,f1),(240,g1),(241,h1),(242,i1),(243,j1),(259,k1)] := by intros; rfl
     refine W_to (tr ..) ?_; clear tr
     refine at_seq rfl ?_
     refine rg rfl ?_
     refine Rq ?_
     have tr : ∀ a b c d e f g h i j k m n o p q r s t u v w x y z A B C D E F G H I J K L M N O P Q R S T U V W X Y Z a1 b1 c1 d1 e1 f1 g1 h1 i1 j1 k1 m1 : AV, let l := lc_reserve_law a b c d e f g h i j k m n o p q r s t u v w x y z A B C D E F G H I J K L M N O P Q R S T U V W X Y Z a1 b1 c1 d1 e1 f1 g1 h1 i1 j1 k1; trim ((99,m1)::l) l = [(0,a),(1,b),(2,c),(4,d),(5,e),(6,f),(7,g),(8,h),(9,i),(10,j),(11,k),(12,m),(13,n),(14,o),(15,p),(16,q),(17,r),(18,s),(19,t),(20,u),(21,v),(22,w),(23,x),(24,y),(25,z),(26,A),(27,B),(28,C),(30,D),(31,E),(32,F),(33,G),(35,H),(63,I),(81,J),(82,K),(83,L),(96,M),(97,N),(98,O),(99,m1),(135,Q),(154,R),(158,S),(159,T),(160,U),(161,V),(186,W),(200,X),(201,Y),(202,Z),(212,a1),(219,b1),(220,c1),(221,d1),(222,e1),(236,f1),(240,g1),(241,h1),(242,i1),(243,j1),(259,k1)] := by intros; rfl
     refine R_nil (tr ..) ?_; clear tr
     refine then_n ?_
     refine at_seq rfl ?_
     refine cdd (fun h5 => ?_) (fun h5 => ?_)
     ·
      try simp only [decide_eq_true_eq, decide_eq_false_iff_not, Bool.not_eq_true', Bool.not_eq_false', beq_iff_eq, beq_eq_false_iff_ne, ne_eq] at h5
      refine at_skip rfl ?_
      refine then_n ?_
      refine at_seq rfl ?_
      refine at_block rfl ?_
      refine at_seq rfl ?_
      refine rg rfl ?_
      refine Rq ?_
      refine Rq ?_
      refine R_q rfl (by simp (disch := first | omega | (simp only [List.length_map, List.length_append, List.length_set, List.length_cons, List.length_nil]; omega)) only [go_sem, ↓reduceIte, Nat.reduceEqDiff, reduceCtorEq, q4, q5, qc, qu, q18, q21, q25, q30, qj, qo, hsz]; rfl) ?_
      have mq5 := hget_lt q5
      have mqc := hget_lt qc
      refine A_alloc rfl ?_
      intro HT nT
      have enT := nT.len
      have q5 := (nT.old _ (hget_lt q5)).trans q5
      have qc := (nT.old _ (hget_lt qc)).trans qc
      have q18 := nT.new
      refine Rq ?_
      have lq5 := hget_lt q5
      have lqc := hget_lt qc
      have lq18 := hget_lt q18
      refine A_store ty39 (by simp (disch := first | omega | (simp only [List.length_map, List.length_append, List.length_set, List.length_cons, List.length_nil]; omega)) only [go_sem, ↓reduceIte, Nat.reduceEqDiff, reduceCtorEq, q18] <;> rfl) (by simp (disch := first | omega | (simp only [List.length_map, List.length_append, List.length_set, List.length_cons, List.length_nil]; omega)) only [go_sem, ↓reduceIte, Nat.reduceEqDiff, reduceCtorEq, q18] <;> rfl) q18 ⟨by first | omega | exact Nat.zero_le _, rfl, by first | exact Nat.le_refl _ | simp⟩ (k' := pdC (gt P i)) rfl ?_
      intro HTw wT
      have ewT := wT.len
      have q5 := (wT.old _ (by omega)).trans q5
      have qc := (wT.old _ (by omega)).trans qc
      have q18 := wT.new
      have hO := hO.rec nT wT
      have hpi := hPd i (by omega)
      have tr : ∀ a b c d e f g h i j k m n o p q r s t u v w x y z A B C D E F G H I J K L M N O P Q R S T U V W X Y Z a1 b1 c1 d1 e1 f1 g1 h1 i1 j1 k1 m1 n1 o1 p1 q1 : AV, let l := lc_reserve_law a b c d e f g h i j k m n o p q r s t u v w x y z A B C D E F G H I J K L M N O P Q R S T U V W X Y Z a1 b1 c1 d1 e1 f1 g1 h1 i1 j1 k1; trim ((17,q1)::(18,p1)::(102,o1)::(101,n1)::(100,m1)::l) l = [(0,a),(1,b),(2,c),(4,d),(5,e),(6,f),(7,g),(8,h),(9,i),(10,j),(11,k),(12,m),(13,n),(14,o),(15,p),(16,q),(17,q1),(18,p1),(19,t),(20,u),(21,v),(22,w),(23,x),(24,y),(25,z),(26,A),(27,B),(28,C),(30,D),(31,E),(32,F),(33,G),(35,H),(63,I),(81,J),(82,K),(83,L),(96,M),(97,N),(98,O),(99,P),(135,Q),(154,R),(158,S),(159,T),(160,U),(161,V),(186,W),(200,X),(201,Y),(202,Z),(212,a1),(219,b1),(220,c1),(221,d1),(222,e1),(236,f1),(240,g1),(241,h1),(242,i1),(243,j1),(259,k1)] := by intros; rfl
      refine R_nil (tr ..) ?_; clear tr
      refine then_n ?_
      refine at_seq rfl ?_
      refine rg rfl ?_
      refine Rq ?_
      refine R_q rfl (by simp (disch := first | omega | (simp only [List.length_map, List.length_append, List.length_set, List.length_cons, List.length_nil]; omega)) only [go_sem, ↓reduceIte, Nat.reduceEqDiff, reduceCtorEq, q4, q5, qc, qu, q18, q21, q25, q30, qj, qo, hsz]; rfl) ?_
      refine Rq ?_
      refine Rq ?_
      refine R_q rfl (by simp (disch := first | omega | (simp only [List.length_map, List.length_append, List.length_set, List.length_cons, List.length_nil]; omega)) only [go_sem, ↓reduceIte, Nat.reduceEqDiff, reduceCtorEq, q4, q5, qc, qu, q18, q21, q25, q30, qj, qo, hsz]; rfl) ?_
      refine Rq ?_
      refine Rq ?_
      refine Rq ?_
      refine Rq ?_
      refine Rq ?_
      refine Rq ?_
      refine Rq ?_
      refine Rq ?_
      refine Rq ?_
      refine Rq ?_
      have tr : ∀ a b c d e f g h i j k m n o p q r s t u v w x y z A B C D E F G H I J K L M N O P Q R S T U V W X Y Z a1 b1 c1 d1 e1 f1 g1 h1 i1 j1 k1 m1 n1 o1 p1 q1 r1 s1 t1 u1 v1 w1 x1 y1 z1 A1 : AV, let l := lc_reserve_law a b c d e f g h i j k m n o p q r s t u v w x y z A B C D E F G H I J K L M N O P Q R S T U V W X Y Z a1 b1 c1 d1 e1 f1 g1 h1 i1 j1 k1; trim ((19,A1)::(116,z1)::(115,y1)::(114,x1)::(113,w1)::(112,v1)::(111,u1)::(110,t1)::(109,s1)::(108,r1)::(107,q1)::(106,p1)::(105,o1)::(104,n1)::(103,m1)::l) l = [(0,a),(1,b),(2,c),(4,d),(5,e),(6,f),(7,g),(8,h),(9,i),(10,j),(11,k),(12,m),(13,n),(14,o),(15,p),(16,q),(17,r),(18,s),(19,A1),(20,u),(21,v),(22,w),(23,x),(24,y),(25,z),(26,A),(27,B),(28,C),(30,D),(31,E),(32,F),(33,G),(35,H),(63,I),(81,J),(82,K),(83,L),(96,M),(97,N),(98,O),(99,P),(135,Q),(154,R),(158,S),(159,T),(160,U),(161,V),(186,W),(200,X),(201,Y),(202,Z),(212,a1),(219,b1),(220,c1),(221,d1),(222,e1),(236,f1),(240,g1),(241,h1),(242,i1),(243,j1),(259,k1)] := by intros; rfl
      refine R_nil (tr ..) ?_; clear tr
      refine then_n ?_
      refine at_seq rfl ?_
      refine rg rfl ?_
      refine Rq ?_
      refine R_q rfl (by simp (disch := first | omega | (simp only [List.length_map, List.length_append, List.length_set, List.length_cons, List.length_nil]; omega)) only [go_sem, ↓reduceIte, Nat.reduceEqDiff, reduceCtorEq, q4, q5, qc, qu, q18, q21, q25, q30, qj, qo, hsz]; rfl) ?_
      refine Rq ?_
      refine Rq ?_
      refine R_q rfl (by simp (disch := first | omega | (simp only [List.length_map, List.length_append, List.length_set, List.length_cons, List.length_nil]; omega)) only [go_sem, ↓reduceIte, Nat.reduceEqDiff, reduceCtorEq, q4, q5, qc, qu, q18, q21, q25, q30, qj, qo, hsz]; rfl) ?_
      refine Rq ?_
      obtain ⟨s1, hs1⟩ := shl_ex l1
      refine R_q (r := AV.i s1) rfl (by simp (disch := first | omega | (simp only [List.length_map, List.length_append, List.length_set, List.length_cons, List.length_nil]; omega)) only [go_sem, ↓reduceIte, Nat.reduceEqDiff, reduceCtorEq, q4, q5, qc, qu] <;> exact hs1) ?_
      obtain ⟨s2, hs2⟩ := or_ex l0 s1
      refine R_q (r := AV.i s2) rfl (by simp (disch := first | omega | (simp only [List.length_map, List.length_append, List.length_set, List.length_cons, List.length_nil]; omega)) only [go_sem, ↓reduceIte, Nat.reduceEqDiff, reduceCtorEq, q4, q5, qc, qu] <;> exact hs2) ?_
      refine Rq ?_
      refine Rq ?_
      obtain ⟨s3, hs3⟩ := shr_ex s2 ((i : Int) % 16) (by omega)
      refine R_q (r := AV.i s3) rfl (by simp (disch := first | omega | (simp only [List.length_map, List.length_append, List.length_set, List.length_cons, List.length_nil]; omega)) only [go_sem, ↓reduceIte, Nat.reduceEqDiff, reduceCtorEq, q4, q5, qc, qu] <;> exact hs3) ?_
      obtain ⟨s4, hs4, hs41⟩ := and01 s3
      refine R_q (r := AV.i s4) rfl (by simp (disch := first | omega | (simp only [List.length_map, List.length_append, List.length_set, List.length_cons, List.length_nil]; omega)) only [go_sem, ↓reduceIte, Nat.reduceEqDiff, reduceCtorEq, q4, q5, qc, qu] <;> exact hs4) ?_
      refine Rq ?_
      refine Rq ?_
      refine Rp_split (fun h6 => ?_) (fun h6 => ?_)
      ·
       try simp only [decide_eq_true_eq, decide_eq_false_iff_not, Bool.not_eq_true', Bool.not_eq_false', beq_iff_eq, beq_eq_false_iff_ne, ne_eq] at h6
       refine Ry ?_
       refine Rq ?_
       refine Ry ?_
       refine R_q rfl (by simp (disch := first | omega | (simp only [List.length_map, List.length_append, List.length_set, List.length_cons, List.length_nil]; omega)) only [go_sem, ↓reduceIte, Nat.reduceEqDiff, reduceCtorEq, q4, q5, qc, qu, q18, q21, q25, q30, qj, qo, hsz]; rfl) ?_
       refine Ry ?_
       refine Rq ?_
       refine Ry ?_
       refine Rq ?_
       refine Rq ?_
       have tr : ∀ a b c d e f g h i j k m n o p q r s t u v w x y z A B C D E F G H I J K L M N O P Q R S T U V W X Y Z a1 b1 c1 d1 e1 f1 g1 h1 i1 j1 k1 m1 n1 o1 p1 q1 r1 s1 t1 u1 v1 w1 x1 y1 z1 A1 B1 C1 D1 E1 : AV, let l := lc_reserve_law a b c d e f g h i j k m n o p q r s t u v w x y z A B C D E F G H I J K L M N O P Q R S T U V W X Y Z a1 b1 c1 d1 e1 f1 g1 h1 i1 j1 k1; trim ((135,E1)::(134,D1)::(133,C1)::(132,B1)::(131,A1)::(130,z1)::(129,y1)::(128,x1)::(127,w1)::(126,v1)::(125,u1)::(124,t1)::(123,s1)::(122,r1)::(121,q1)::(120,p1)::(119,o1)::(118,n1)::(117,m1)::l) l = [(0,a),(1,b),(2,c),(4,d),(5,e),(6,f),(7,g),(8,h),(9,i),(10,j),(11,k),(12,m),(13,n),(14,o),(15,p),(16,q),(17,r),(18,s),(19,t),(20,u),(21,v),(22,w),(23,x),(24,y),(25,z),(26,A),(27,B),(28,C),(30,D),(31,E),(32,F),(33,G),(35,H),(63,I),(81,J),(82,K),(83,L),(96,M),(97,N),(98,O),(99,P),(135,E1),(154,R),(158,S),(159,T),(160,U),(161,V),(186,W),(200,X),(201,Y),(202,Z),(212,a1),(219,b1),(220,c1),(221,d1),(222,e1),(236,f1),(240,g1),(241,h1),(242,i1),(243,j1),(259,k1)] := by intros; rfl
       refine R_nil (tr ..) ?_; clear tr
       refine then_n ?_
       refine cdd (fun h7 => ?_) (fun h7 => ?_)
       ·
        try simp only [decide_eq_true_eq, decide_eq_false_iff_not, Bool.not_eq_true', Bool.not_eq_false', beq_iff_eq, beq_eq_false_iff_ne, ne_eq] at h7
        refine rg rfl ?_
        refine Rq ?_
        refine Rq ?_
        refine R_q rfl (by simp (disch := first | omega | (simp only [List.length_map, List.length_append, List.length_set, List.length_cons, List.length_nil]; omega)) only [go_sem, ↓reduceIte, Nat.reduceEqDiff, reduceCtorEq, q4, q5, qc, qu, q18, q21, q25, q30, qj, qo, hsz]; rfl) ?_
        refine Rq ?_
        refine Rq ?_
        refine R_q (r := .agg (jbC ⟨(gt P i).d + 1, (min ((gt P i).d + 1 + l3 % 8) (first + (m : Nat) - 1))⟩)) rfl (by simp (disch := first | omega | (simp only [List.length_map, List.length_append, List.length_set, List.length_cons, List.length_nil]; omega)) only [go_sem, ↓reduceIte, Nat.reduceEqDiff, reduceCtorEq] <;> exact bld43 _ _) ?_
        refine A_buildSlice (bs40 _ _ _ _ ⟨(gt P i).d + 1, (min ((gt P i).d + 1 + l3 % 8) (first + (m : Nat) - 1))⟩ (by simp (disch := first | omega | (simp only [List.length_map, List.length_append, List.length_set, List.length_cons, List.length_nil]; omega)) only [go_sem, ↓reduceIte, Nat.reduceEqDiff, reduceCtorEq] <;> rfl)) ?_
        intro HN n21
        have en21 := n21.len
        have q5 := (n21.old _ (hget_lt q5)).trans q5
        have qc := (n21.old _ (hget_lt qc)).trans qc
        have qj := n21.new
        have hO := hO.new n21
        have l5 := hget_lt q5
        have lc := hget_lt qc
        obtain ⟨bb, hb1, hb2, HK, ha, hg⟩ := app40 (lim := 0) hO (by rw [flatJ_len]) qj rfl rfl (by omega) (by omega) (by omega)
        refine A_append ⟨HK, by simp (disch := first | omega | (simp only [List.length_map, List.length_append, List.length_set, List.length_cons, List.length_nil]; omega)) only [go_sem, ↓reduceIte, Nat.reduceEqDiff, reduceCtorEq]; exact ha, hg⟩ ?_
        intro HW g21
        have e21 := g21.len
        have q5 := (g21.old _ (by omega) (by omega)).trans q5
        have qc := (g21.old _ (by omega) (by omega)).trans qc
        refine Rq ?_
        have tr : ∀ a b c d e f g h i j k m n o p q r s t u v w x y z A B C D E F G H I J K L M N O P Q R S T U V W X Y Z a1 b1 c1 d1 e1 f1 g1 h1 i1 j1 k1 m1 n1 o1 p1 q1 r1 s1 t1 u1 : AV, let l := lc_reserve_law a b c d e f g h i j k m n o p q r s t u v w x y z A B C D E F G H I J K L M N O P Q R S T U V W X Y Z a1 b1 c1 d1 e1 f1 g1 h1 i1 j1 k1; trim ((16,u1)::(143,t1)::(142,s1)::(141,r1)::(140,q1)::(139,p1)::(138,o1)::(137,n1)::(136,m1)::l) l = [(0,a),(1,b),(2,c),(4,d),(5,e),(6,f),(7,g),(8,h),(9,i),(10,j),(11,k),(12,m),(13,n),(14,o),(15,p),(16,u1),(17,r),(18,s),(19,t),(20,u),(21,v),(22,w),(23,x),(24,y),(25,z),(26,A),(27,B),(28,C),(30,D),(31,E),(32,F),(33,G),(35,H),(63,I),(81,J),(82,K),(83,L),(96,M),(97,N),(98,O),(99,P),(135,Q),(154,R),(158,S),(159,T),(160,U),(161,V),(186,W),(200,X),(201,Y),(202,Z),(212,a1),(219,b1),(220,c1),(221,d1),(222,e1),(236,f1),(240,g1),(241,h1),(242,i1),(243,j1),(259,k1)] := by intros; rfl
        refine R_nil (tr ..) ?_; clear tr
        refine blk_n ?_
        refine then_n ?_
        refine rg rfl ?_
        refine Rq ?_
        refine Rq ?_
        have tr : ∀ a b c d e f g h i j k m n o p q r s t u v w x y z A B C D E F G H I J K L M N O P Q R S T U V W X Y Z a1 b1 c1 d1 e1 f1 g1 h1 i1 j1 k1 m1 n1 : AV, let l := lc_reserve_law a b c d e f g h i j k m n o p q r s t u v w x y z A B C D E F G H I J K L M N O P Q R S T U V W X Y Z a1 b1 c1 d1 e1 f1 g1 h1 i1 j1 k1; trim ((98,n1)::(144,m1)::l) l = [(0,a),(1,b),(2,c),(4,d),(5,e),(6,f),(7,g),(8,h),(9,i),(10,j),(11,k),(12,m),(13,n),(14,o),(15,p),(16,q),(17,r),(18,s),(19,t),(20,u),(21,v),(22,w),(23,x),(24,y),(25,z),(26,A),(27,B),(28,C),(30,D),(31,E),(32,F),(33,G),(35,H),(63,I),(81,J),(82,K),(83,L),(96,M),(97,N),(98,n1),(99,P),(135,Q),(154,R),(158,S),(159,T),(160,U),(161,V),(186,W),(200,X),(201,Y),(202,Z),(212,a1),(219,b1),(220,c1),(221,d1),(222,e1),(236,f1),(240,g1),(241,h1),(242,i1),(243,j1),(259,k1)] := by intros; rfl
        refine R_nil (tr ..) ?_; clear tr
        refine then_n ?_
        exact ⟨_, _, ⟨i + 1, .own 2 HN.length 0 (J.length + 1), J ++ [⟨(gt P i).d + 1, (min ((gt P i).d + 1 + l3 % 8) (first + (m : Nat) - 1))⟩], _, _, _, _, _, rfl, rfl, by omega, by first | omega | (rw [List.length_append, List.length_cons, List.length_nil]; omega), by first | exact hJ | exact jb_step hJ ⟨by (show first ≤ (gt P i).d + 1); omega, by (show (gt P i).d + 1 ≤ (min ((gt P i).d + 1 + l3 % 8) (first + (m : Nat) - 1))); omega, by (show (min ((gt P i).d + 1 + l3 % 8) (first + (m : Nat) - 1)) ≤ _); omega⟩, by exact q5, by exact qc, by first | exact hO | exact OutG.snocJ (by omega) g21.new⟩, by rfl, by omega⟩
       ·
        try simp only [decide_eq_true_eq, decide_eq_false_iff_not, Bool.not_eq_true', Bool.not_eq_false', beq_iff_eq, beq_eq_false_iff_ne, ne_eq] at h7
        refine at_skip rfl ?_
        refine blk_n ?_
        refine then_n ?_
        refine rg rfl ?_
        refine Rq ?_
        refine Rq ?_
        have tr : ∀ a b c d e f g h i j k m n o p q r s t u v w x y z A B C D E F G H I J K L M N O P Q R S T U V W X Y Z a1 b1 c1 d1 e1 f1 g1 h1 i1 j1 k1 m1 n1 : AV, let l := lc_reserve_law a b c d e f g h i j k m n o p q r s t u v w x y z A B C D E F G H I J K L M N O P Q R S T U V W X Y Z a1 b1 c1 d1 e1 f1 g1 h1 i1 j1 k1; trim ((98,n1)::(144,m1)::l) l = [(0,a),(1,b),(2,c),(4,d),(5,e),(6,f),(7,g),(8,h),(9,i),(10,j),(11,k),(12,m),(13,n),(14,o),(15,p),(16,q),(17,r),(18,s),(19,t),(20,u),(21,v),(22,w),(23,x),(24,y),(25,z),(26,A),(27,B),(28,C),(30,D),(31,E),(32,F),(33,G),(35,H),(63,I),(81,J),(82,K),(83,L),(96,M),(97,N),(98,n1),(99,P),(135,Q),(154,R),(158,S),(159,T),(160,U),(161,V),(186,W),(200,X),(201,Y),(202,Z),(212,a1),(219,b1),(220,c1),(221,d1),(222,e1),(236,f1),(240,g1),(241,h1),(242,i1),(243,j1),(259,k1)] := by intros; rfl
        refine R_nil (tr ..) ?_; clear tr
        refine then_n ?_
        exact ⟨_, _, ⟨i + 1, o, J, _, _, _, _, _, rfl, rfl, by omega, by first | omega | (rw [List.length_append, List.length_cons, List.length_nil]; omega), by first | exact hJ | exact jb_step hJ ⟨by (show first ≤ (gt P i).d + 1); omega, by (show (gt P i).d + 1 ≤ (min ((gt P i).d + 1 + l3 % 8) (first + (m : Nat) - 1))); omega, by (show (min ((gt P i).d + 1 + l3 % 8) (first + (m : Nat) - 1)) ≤ _); omega⟩, by exact q5, by exact qc, by first | exact hO | exact OutG.snocJ (by omega) g21.new⟩, by rfl, by omega⟩
      ·
       try simp only [decide_eq_true_eq, decide_eq_false_iff_not, Bool.not_eq_true', Bool.not_eq_false', beq_iff_eq, beq_eq_false_iff_ne, ne_eq] at h6
       refine Rn ?_
       refine Rn ?_
       refine Rn ?_
       refine Rn ?_
       refine Rq ?_
       have tr : ∀ a b c d e f g h i j k m n o p q r s t u v w x y z A B C D E F G H I J K L M N O P Q R S T U V W X Y Z a1 b1 c1 d1 e1 f1 g1 h1 i1 j1 k1 m1 n1 o1 p1 q1 r1 s1 t1 u1 v1 w1 x1 y1 z1 A1 B1 C1 D1 E1 : AV, let l := lc_reserve_law a b c d e f g h i j k m n o p q r s t u v w x y z A B C D E F G H I J K L M N O P Q R S T U V W X Y Z a1 b1 c1 d1 e1 f1 g1 h1 i1 j1 k1; trim ((135,E1)::(134,D1)::(133,C1)::(132,B1)::(131,A1)::(130,z1)::(129,y1)::(128,x1)::(127,w1)::(126,v1)::(125,u1)::(124,t1)::(123,s1)::(122,r1)::(121,q1)::(120,p1)::(119,o1)::(118,n1)::(117,m1)::l) l = [(0,a),(1,b),(2,c),(4,d),(5,e),(6,f),(7,g),(8,h),(9,i),(10,j),(11,k),(12,m),(13,n),(14,o),(15,p),(16,q),(17,r),(18,s),(19,t),(20,u),(21,v),(22,w),(23,x),(24,y),(25,z),(26,A),(27,B),(28,C),(30,D),(31,E),(32,F),(33,G),(35,H),(63,I),(81,J),(82,K),(83,L),(96,M),(97,N),(98,O),(99,P),(135,E1),(154,R),(158,S),(159,T),(160,U),(161,V),(186,W),(200,X),(201,Y),(202,Z),(212,a1),(219,b1),(220,c1),(221,d1),(222,e1),(236,f1),(240,g1),(241,h1),(242,i1),(243,j1),(259,k1)] := by intros; rfl
       refine R_nil (tr ..) ?_; clear tr
       refine then_n ?_
       refine cdf ?_
       refine at_skip rfl ?_
       refine blk_n ?_
       refine then_n ?_
       refine rg rfl ?_
       refine Rq ?_
       refine Rq ?_
       have tr : ∀ a b c d e f g h i j k m n o p q r s t u v w x y z A B C D E F G H I J K L M N O P Q R S T U V W X Y Z a1 b1 c1 d1 e1 f1 g1 h1 i1 j1 k1 m1 n1 : AV, let l := lc_reserve_law a b c d e f g h i j k m n o p q r s t u v w x y z A B C D E F G H I J K L M N O P Q R S T U V W X Y Z a1 b1 c1 d1 e1 f1 g1 h1 i1 j1 k1; trim ((98,n1)::(144,m1)::l) l = [(0,a),(1,b),(2,c),(4,d),(5,e),(6,f),(7,g),(8,h),(9,i),(10,j),(11,k),(12,m),(13,n),(14,o),(15,p),(16,q),(17,r),(18,s),(19,t),(20,u),(21,v),(22,w),(23,x),(24,y),(25,z),(26,A),(27,B),(28,C),(30,D),(31,E),(32,F),(33,G),(35,H),(63,I),(81,J),(82,K),(83,L),(96,M),(97,N),(98,n1),(99,P),(135,Q),(154,R),(158,S),(159,T),(160,U),(161,V),(186,W),(200,X),(201,Y),(202,Z),(212,a1),(219,b1),(220,c1),(221,d1),(222,e1),(236,f1),(240,g1),(241,h1),(242,i1),(243,j1),(259,k1)] := by intros; rfl
       refine R_nil (tr ..) ?_; clear tr
       refine then_n ?_
       exact ⟨_, _, ⟨i + 1, o, J, _, _, _, _, _, rfl, rfl, by omega, by first | omega | (rw [List.length_append, List.length_cons, List.length_nil]; omega), by first | exact hJ | exact jb_step hJ ⟨by (show first ≤ (gt P i).d + 1); omega, by (show (gt P i).d + 1 ≤ (min ((gt P i).d + 1 + l3 % 8) (first + (m : Nat) - 1))); omega, by (show (min ((gt P i).d + 1 + l3 % 8) (first + (m : Nat) - 1)) ≤ _); omega⟩, by exact q5, by exact qc, by first | exact hO | exact OutG.snocJ (by omega) g21.new⟩, by rfl, by omega⟩
     ·
      try simp only [decide_eq_true_eq, decide_eq_false_iff_not, Bool.not_eq_true', Bool.not_eq_false', beq_iff_eq, beq_eq_false_iff_ne, ne_eq] at h5
      refine at_exit rfl ?_
      refine then_x ?_
      refine then_x ?_
      refine blk_x ?_
      refine then_n ?_
      refine at_seq rfl ?_
      refine rg rfl ?_
      have hDm : m = D.length := by omega
      rewrite [hDm]
      refine Rq ?_
      refine Rq ?_
      refine Rq ?_
      refine Rcall ?_
      have hol : ∀ z b n, o = .own z b 0 n → b < HQ.length := fun z b n he => hO.lt he
      have h01 : ∀ i, i < D.length → gt D i = 0 ∨ gt D i = 1 := fun i hi => hD i (by omega)
      refine ACall_mono (plan_ok _ _ o J hO.low (by omega) HX.length D qc (by omega) h01 first (by omega) (fun j hj => by have := hJ j hj; omega)) ?_
      rintro r HQ ⟨hcz, rfl⟩
      obtain ⟨dz, wa, wb, ee, rfl, hcase⟩ := plan_case hcz
      clear hcz
      refine Rq ?_
      refine Rq ?_
      refine Rq ?_
      refine Rq ?_
      have mqc := hget_lt qc
      refine A_alloc rfl ?_
      intro HU nU
      have enU := nU.len
      have qc := (nU.old _ (hget_lt qc)).trans qc
      have q21 := nU.new
      refine Rq ?_
      have lqc := hget_lt qc
      have lq21 := hget_lt q21
      refine A_store ty45 (by simp (disch := first | omega | (simp only [List.length_map, List.length_append, List.length_set, List.length_cons, List.length_nil]; omega)) only [go_sem, ↓reduceIte, Nat.reduceEqDiff, reduceCtorEq, q21] <;> rfl) (by simp (disch := first | omega | (simp only [List.length_map, List.length_append, List.length_set, List.length_cons, List.length_nil]; omega)) only [go_sem, ↓reduceIte, Nat.reduceEqDiff, reduceCtorEq, q21] <;> rfl) q21 ⟨by first | omega | exact Nat.zero_le _, rfl, by first | exact Nat.le_refl _ | simp⟩ (k' := [AV.i wa, AV.i wb]) rfl ?_
      intro HUw wU
      have ewU := wU.len
      have qc := (wU.old _ (by omega)).trans qc
      have q21 := wU.new
      have hO := hO.rec nU wU
      refine Rq ?_
      have tr : ∀ a b c d e f g h i j k m n o p q r s t u v w x y z A B C D E F G H I J K L M N O P Q R S T U V W X Y Z a1 b1 c1 d1 e1 f1 g1 h1 i1 j1 k1 m1 n1 o1 p1 q1 r1 s1 t1 u1 v1 w1 : AV, let l := lc_reserve_law a b c d e f g h i j k m n o p q r s t u v w x y z A B C D E F G H I J K L M N O P Q R S T U V W X Y Z a1 b1 c1 d1 e1 f1 g1 h1 i1 j1 k1; trim ((22,w1)::(20,v1)::(21,u1)::(152,t1)::(151,s1)::(150,r1)::(145,q1)::(149,p1)::(148,o1)::(147,n1)::(146,m1)::l) l = [(0,a),(1,b),(2,c),(4,d),(5,e),(6,f),(7,g),(8,h),(9,i),(10,j),(11,k),(12,m),(13,n),(14,o),(15,p),(16,q),(17,r),(18,s),(19,t),(20,v1),(21,u1),(22,w1),(23,x),(24,y),(25,z),(26,A),(27,B),(28,C),(30,D),(31,E),(32,F),(33,G),(35,H),(63,I),(81,J),(82,K),(83,L),(96,M),(97,N),(98,O),(99,P),(135,Q),(154,R),(158,S),(159,T),(160,U),(161,V),(186,W),(200,X),(201,Y),(202,Z),(212,a1),(219,b1),(220,c1),(221,d1),(222,e1),(236,f1),(240,g1),(241,h1),(242,i1),(243,j1),(259,k1)] := by intros; rfl
      refine R_nil (tr ..) ?_; clear tr
      refine then_n ?_
      refine at_seq rfl ?_
      refine at_seq rfl ?_
      refine rg rfl ?_
      refine Rq ?_
      refine Rq ?_
      have tr : ∀ a b c d e f g h i j k m n o p q r s t u v w x y z A B C D E F G H I J K L M N O P Q R S T U V W X Y Z a1 b1 c1 d1 e1 f1 g1 h1 i1 j1 k1 m1 n1 : AV, let l := lc_reserve_law a b c d e f g h i j k m n o p q r s t u v w x y z A B C D E F G H I J K L M N O P Q R S T U V W X Y Z a1 b1 c1 d1 e1 f1 g1 h1 i1 j1 k1; trim ((154,n1)::(153,m1)::l) l = [(0,a),(1,b),(2,c),(4,d),(5,e),(6,f),(7,g),(8,h),(9,i),(10,j),(11,k),(12,m),(13,n),(14,o),(15,p),(16,q),(17,r),(18,s),(19,t),(20,u),(21,v),(22,w),(23,x),(24,y),(25,z),(26,A),(27,B),(28,C),(30,D),(31,E),(32,F),(33,G),(35,H),(63,I),(81,J),(82,K),(83,L),(96,M),(97,N),(98,O),(99,P),(135,Q),(154,n1),(158,S),(159,T),(160,U),(161,V),(186,W),(200,X),(201,Y),(202,Z),(212,a1),(219,b1),(220,c1),(221,d1),(222,e1),(236,f1),(240,g1),(241,h1),(242,i1),(243,j1),(259,k1)] := by intros; rfl
      refine R_nil (tr ..) ?_; clear tr
      refine then_n ?_
      refine cdd (fun h8 => ?_) (fun h8 => ?_)
      ·
       try simp only [decide_eq_true_eq, decide_eq_false_iff_not, Bool.not_eq_true', Bool.not_eq_false', beq_iff_eq, beq_eq_false_iff_ne, ne_eq] at h8
       obtain ⟨-, rfl, hdz⟩ := hcase.resolve_right (fun hh => by omega)
       have inv := inv_run (J := J) (cs := D) (first := first) (by omega) h01 (fun j hj => (hJ j hj).1) D.length (Nat.le_refl _)
       refine at_seq rfl ?_
       refine rg rfl ?_
       refine Rq ?_
       refine Rq ?_
       refine A_makeSlice (ms22 _ _ D.length _ _ _ (by omega) (by simp (disch := first | omega | (simp only [List.length_map, List.length_append, List.length_set, List.length_cons, List.length_nil]; omega)) only [go_sem, ↓reduceIte, Nat.reduceEqDiff, reduceCtorEq] <;> rfl) (by simp (disch := first | omega | (simp only [List.length_map, List.length_append, List.length_set, List.length_cons, List.length_nil]; omega)) only [go_sem, ↓reduceIte, Nat.reduceEqDiff, reduceCtorEq] <;> rfl)) ?_
       intro HV n25
       have en25 := n25.len
       have qc := (n25.old _ (hget_lt qc)).trans qc
       have qu := n25.new
       have hO := hO.new n25
       refine Rq ?_
       have tr : ∀ a b c d e f g h i j k m n o p q r s t u v w x y z A B C D E F G H I J K L M N O P Q R S T U V W X Y Z a1 b1 c1 d1 e1 f1 g1 h1 i1 j1 k1 m1 n1 o1 p1 : AV, let l := lc_reserve_law a b c d e f g h i j k m n o p q r s t u v w x y z A B C D E F G H I J K L M N O P Q R S T U V W X Y Z a1 b1 c1 d1 e1 f1 g1 h1 i1 j1 k1; trim ((23,p1)::(157,o1)::(156,n1)::(155,m1)::l) l = [(0,a),(1,b),(2,c),(4,d),(5,e),(6,f),(7,g),(8,h),(9,i),(10,j),(11,k),(12,m),(13,n),(14,o),(15,p),(16,q),(17,r),(18,s),(19,t),(20,u),(21,v),(22,w),(23,p1),(24,y),(25,z),(26,A),(27,B),(28,C),(30,D),(31,E),(32,F),(33,G),(35,H),(63,I),(81,J),(82,K),(83,L),(96,M),(97,N),(98,O),(99,P),(135,Q),(154,R),(158,S),(159,T),(160,U),(161,V),(186,W),(200,X),(201,Y),(202,Z),(212,a1),(219,b1),(220,c1),(221,d1),(222,e1),(236,f1),(240,g1),(241,h1),(242,i1),(243,j1),(259,k1)] := by intros; rfl
       refine R_nil (tr ..) ?_; clear tr
       refine then_n ?_
       refine at_seq rfl ?_
       refine at_seq rfl ?_
       refine rg rfl ?_
       refine Rq ?_
       refine R_q (r := AV.i (J.length : Nat)) rfl (by simp (disch := first | omega | (simp only [List.length_map, List.length_append, List.length_set, List.length_cons, List.length_nil]; omega)) only [go_sem, ↓reduceIte, Nat.reduceEqDiff, reduceCtorEq]; exact hO.len40) ?_
       refine Rq ?_
       have tr : ∀ a b c d e f g h i j k m n o p q r s t u v w x y z A B C D E F G H I J K L M N O P Q R S T U V W X Y Z a1 b1 c1 d1 e1 f1 g1 h1 i1 j1 k1 m1 n1 o1 : AV, let l := lc_reserve_law a b c d e f g h i j k m n o p q r s t u v w x y z A B C D E F G H I J K L M N O P Q R S T U V W X Y Z a1 b1 c1 d1 e1 f1 g1 h1 i1 j1 k1; trim ((160,o1)::(159,n1)::(158,m1)::l) l = [(0,a),(1,b),(2,c),(4,d),(5,e),(6,f),(7,g),(8,h),(9,i),(10,j),(11,k),(12,m),(13,n),(14,o),(15,p),(16,q),(17,r),(18,s),(19,t),(20,u),(21,v),(22,w),(23,x),(24,y),(25,z),(26,A),(27,B),(28,C),(30,D),(31,E),(32,F),(33,G),(35,H),(63,I),(81,J),(82,K),(83,L),(96,M),(97,N),(98,O),(99,P),(135,Q),(154,R),(158,m1),(159,n1),(160,o1),(161,V),(186,W),(200,X),(201,Y),(202,Z),(212,a1),(219,b1),(220,c1),(221,d1),(222,e1),(236,f1),(240,g1),(241,h1),(242,i1),(243,j1),(259,k1)] := by intros; rfl
       refine R_nil (tr ..) ?_; clear tr
       refine then_n ?_
       refine at_block rfl ?_
       refine loop_n rfl (fun mm kv H' => ∃ v : Nat, ∃ U : List Int, ∃ x6 x24 x25 x161 x186 : AV, (kv = [(6, x6), (24, x24), (25, x25), (160, AV.i v), (161, x161), (186, x186)]) ∧ (mm = 1 * (J.length - v)) ∧ (v ≤ J.length) ∧ (U.length = D.length) ∧ (∀ c, c < D.length → gt U c = usd (dys J D first D.length) first v c) ∧ (hget H' HX.length = some (D.map AV.i)) ∧ (hget H' HUw.length = some (U.map AV.i)) ∧ (OutG 2 (HX.length + 1) H' o J.length (flatJ J))) ⟨0, List.replicate D.length 0, _, _, _, _, _, rfl, rfl, by omega, by (rw [List.length_replicate]), by exact usd_0 _ _, by exact qc, by exact qu, by exact hO⟩ (by rfl) ?_
       rintro mm kv HI ⟨v, U, x6, x24, x25, x161, x186, rfl, rfl, hv, hUl, hU, qc, qu, hO⟩
       have tr : ∀ a b c d e f g h i j k m n o p q r s t u v w x y z A B C D E F G H I J K L M N O P Q R S T U V W X Y Z a1 b1 c1 d1 e1 f1 g1 h1 i1 j1 k1 m1 n1 o1 p1 q1 r1 : AV, upd [(0,a),(1,b),(2,c),(4,d),(5,e),(6,f),(7,g),(8,h),(9,i),(10,j),(11,k),(12,m),(13,n),(14,o),(15,p),(16,q),(17,r),(18,s),(19,t),(20,u),(21,v),(22,w),(23,x),(24,y),(25,z),(26,A),(27,B),(28,C),(30,D),(31,E),(32,F),(33,G),(35,H),(63,I),(81,J),(82,K),(83,L),(96,M),(97,N),(98,O),(99,P),(135,Q),(154,R),(158,S),(159,T),(160,U),(161,V),(186,W),(200,X),(201,Y),(202,Z),(212,a1),(219,b1),(220,c1),(221,d1),(222,e1),(236,f1),(240,g1),(241,h1),(242,i1),(243,j1),(259,k1)] [(6,m1),(24,n1),(25,o1),(160,p1),(161,q1),(186,r1)] = [(0,a),(1,b),(2,c),(4,d),(5,e),(6,m1),(7,g),(8,h),(9,i),(10,j),(11,k),(12,m),(13,n),(14,o),(15,p),(16,q),(17,r),(18,s),(19,t),(20,u),(21,v),(22,w),(23,x),(24,n1),(25,o1),(26,A),(27,B),(28,C),(30,D),(31,E),(32,F),(33,G),(35,H),(63,I),(81,J),(82,K),(83,L),(96,M),(97,N),(98,O),(99,P),(135,Q),(154,R),(158,S),(159,T),(160,p1),(161,q1),(186,r1),(200,X),(201,Y),(202,Z),(212,a1),(219,b1),(220,c1),(221,d1),(222,e1),(236,f1),(240,g1),(241,h1),(242,i1),(243,j1),(259,k1)] := by intros; rfl
       refine W_to (tr ..) ?_; clear tr
       refine at_seq rfl ?_
       refine rg rfl ?_
       refine Rq ?_
       have tr : ∀ a b c d e f g h i j k m n o p q r s t u v w x y z A B C D E F G H I J K L M N O P Q R S T U V W X Y Z a1 b1 c1 d1 e1 f1 g1 h1 i1 j1 k1 m1 : AV, let l := lc_reserve_law a b c d e f g h i j k m n o p q r s t u v w x y z A B C D E F G H I J K L M N O P Q R S T U V W X Y Z a1 b1 c1 d1 e1 f1 g1 h1 i1 j1 k1; trim ((161,m1)::l) l = [(0,a),(1,b),(2,c),(4,d),(5,e),(6,f),(7,g),(8,h),(9,i),(10,j),(11,k),(12,m),(13,n),(14,o),(15,p),(16,q),(17,r),(18,s),(19,t),(20,u),(21,v),(22,w),(23,x),(24,y),(25,z),(26,A),(27,B),(28,C),(30,D),(31,E),(32,F),(33,G),(35,H),(63,I),(81,J),(82,K),(83,L),(96,M),(97,N),(98,O),(99,P),(135,Q),(154,R),(158,S),(159,T),(160,U),(161,m1),(186,W),(200,X),(201,Y),(202,Z),(212,a1),(219,b1),(220,c1),(221,d1),(222,e1),(236,f1),(240,g1),(241,h1),(242,i1),(243,j1),(259,k1)] := by intros; rfl
       refine R_nil (tr ..) ?_; clear tr
       refine then_n ?_
       refine at_seq rfl ?_
       refine cdd (fun h9 => ?_) (fun h9 => ?_)
       ·
        try simp only [decide_eq_true_eq, decide_eq_false_iff_not, Bool.not_eq_true', Bool.not_eq_false', beq_iff_eq, beq_eq_false_iff_ne, ne_eq] at h9
        refine at_skip rfl ?_
        refine then_n ?_
        refine at_seq rfl ?_
        refine at_block rfl ?_
        refine at_seq rfl ?_
        refine rg rfl ?_
        obtain ⟨bo, rfl, hbo, qo⟩ := hO.own (by omega)
        have hbl := hol _ _ _ rfl
        refine Rq ?_
        refine Rq ?_
        refine R_q rfl (by simp (disch := first | omega | (simp only [List.length_map, List.length_append, List.length_set, List.length_cons, List.length_nil]; omega)) only [go_sem, ↓reduceIte, Nat.reduceEqDiff, reduceCtorEq, q4, q5, qc, qu, q18, q21, q25, q30, qj, qo, hsz]; rfl) ?_
        have mqc := hget_lt qc
        have mqu := hget_lt qu
        have mqo := hget_lt qo
        refine A_alloc rfl ?_
        intro HE nE
        have enE := nE.len
        have qc := (nE.old _ (hget_lt qc)).trans qc
        have qu := (nE.old _ (hget_lt qu)).trans qu
        have qo := (nE.old _ (hget_lt qo)).trans qo
        have q25 := nE.new
        refine Rq ?_
        have lqc := hget_lt qc
        have lqu := hget_lt qu
        have lqo := hget_lt qo
        have lq25 := hget_lt q25
        refine A_store ty43 (by simp (disch := first | omega | (simp only [List.length_map, List.length_append, List.length_set, List.length_cons, List.length_nil]; omega)) only [go_sem, ↓reduceIte, Nat.reduceEqDiff, reduceCtorEq, q25] <;> rfl) (by simp (disch := first | omega | (simp only [List.length_map, List.length_append, List.length_set, List.length_cons, List.length_nil]; omega)) only [go_sem, ↓reduceIte, Nat.reduceEqDiff, reduceCtorEq, q25] <;> rfl) q25 ⟨by first | omega | exact Nat.zero_le _, rfl, by first | exact Nat.le_refl _ | simp⟩ (k' := jbC (gt J v)) rfl ?_
        intro HEw wE
        have ewE := wE.len
        have qc := (wE.old _ (by omega)).trans qc
        have qu := (wE.old _ (by omega)).trans qu
        have qo := (wE.old _ (by omega)).trans qo
        have q25 := wE.new
        have tr : ∀ a b c d e f g h i j k m n o p q r s t u v w x y z A B C D E F G H I J K L M N O P Q R S T U V W X Y Z a1 b1 c1 d1 e1 f1 g1 h1 i1 j1 k1 m1 n1 o1 p1 q1 : AV, let l := lc_reserve_law a b c d e f g h i j k m n o p q r s t u v w x y z A B C D E F G H I J K L M N O P Q R S T U V W X Y Z a1 b1 c1 d1 e1 f1 g1 h1 i1 j1 k1; trim ((24,q1)::(25,p1)::(164,o1)::(163,n1)::(162,m1)::l) l = [(0,a),(1,b),(2,c),(4,d),(5,e),(6,f),(7,g),(8,h),(9,i),(10,j),(11,k),(12,m),(13,n),(14,o),(15,p),(16,q),(17,r),(18,s),(19,t),(20,u),(21,v),(22,w),(23,x),(24,q1),(25,p1),(26,A),(27,B),(28,C),(30,D),(31,E),(32,F),(33,G),(35,H),(63,I),(81,J),(82,K),(83,L),(96,M),(97,N),(98,O),(99,P),(135,Q),(154,R),(158,S),(159,T),(160,U),(161,V),(186,W),(200,X),(201,Y),(202,Z),(212,a1),(219,b1),(220,c1),(221,d1),(222,e1),(236,f1),(240,g1),(241,h1),(242,i1),(243,j1),(259,k1)] := by intros; rfl
        refine R_nil (tr ..) ?_; clear tr
        refine then_n ?_
        refine at_seq rfl ?_
        refine at_seq rfl ?_
        refine rd rfl rfl ?_
        have hdv := hdz v (by omega)
        have hdd := inv.day v (by omega)
        have hdl := dys_len J D first D.length
        refine Qq ?_
        refine Qq ?_
        refine Qq ?_
        refine Qq ?_
        refine Qq ?_
        refine Qp_split (fun h10 => ?_) (fun h10 => ?_)
        ·
         try simp only [decide_eq_true_eq, decide_eq_false_iff_not, Bool.not_eq_true', Bool.not_eq_false', beq_iff_eq, beq_eq_false_iff_ne, ne_eq] at h10
         omega
        ·
         try simp only [decide_eq_true_eq, decide_eq_false_iff_not, Bool.not_eq_true', Bool.not_eq_false', beq_iff_eq, beq_eq_false_iff_ne, ne_eq] at h10
         refine Qy ?_
         refine Qq ?_
         refine Qy ?_
         refine Qq ?_
         refine Qy ?_
         refine Qq ?_
         refine Qy ?_
         refine Q_q (r := AV.i (gt (dys J D first D.length) v)) rfl (by simp (disch := first | omega | (simp only [List.length_map, List.length_append, List.length_set, List.length_cons, List.length_nil]; omega)) only [go_sem, ↓reduceIte, Nat.reduceEqDiff, reduceCtorEq, q4, q5, qc, qu] <;> exact ints_at _ v (by rw [dys_len]; omega)) ?_
         refine Qy ?_
         refine Qq ?_
         refine Qy ?_
         refine Q_q (r := AV.i (gt J v).f) rfl (by simp (disch := first | omega | (simp only [List.length_map, List.length_append, List.length_set, List.length_cons, List.length_nil]; omega)) only [go_sem, ↓reduceIte, Nat.reduceEqDiff, reduceCtorEq, q25] <;> rfl) ?_
         refine Qy ?_
         refine Qq ?_
         refine Qq ?_
         refine Qq ?_
         refine Qp_split (fun h11 => ?_) (fun h11 => ?_)
         ·
          try simp only [decide_eq_true_eq, decide_eq_false_iff_not, Bool.not_eq_true', Bool.not_eq_false', beq_iff_eq, beq_eq_false_iff_ne, ne_eq] at h11
          omega
         ·
          try simp only [decide_eq_true_eq, decide_eq_false_iff_not, Bool.not_eq_true', Bool.not_eq_false', beq_iff_eq, beq_eq_false_iff_ne, ne_eq] at h11
          refine Qy ?_
          refine Qq ?_
          refine Qy ?_
          refine Qq ?_
          refine Qy ?_
          refine Qq ?_
          refine Qy ?_
          refine Q_q (r := AV.i (gt (dys J D first D.length) v)) rfl (by simp (disch := first | omega | (simp only [List.length_map, List.length_append, List.length_set, List.length_cons, List.length_nil]; omega)) only [go_sem, ↓reduceIte, Nat.reduceEqDiff, reduceCtorEq, q4, q5, qc, qu] <;> exact ints_at _ v (by rw [dys_len]; omega)) ?_
          refine Qy ?_
          refine Qq ?_
          refine Qy ?_
          refine Q_q (r := AV.i (gt J v).t) rfl (by simp (disch := first | omega | (simp only [List.length_map, List.length_append, List.length_set, List.length_cons, List.length_nil]; omega)) only [go_sem, ↓reduceIte, Nat.reduceEqDiff, reduceCtorEq, q25] <;> rfl) ?_
          refine Qy ?_
          refine Qq ?_
          refine Qq ?_
          refine Q_nil ?_
          have tr : ∀ a b c d e f g h i j k m n o p q r s t u v w x y z A B C D E F G H I J K L M N O P Q R S T U V W X Y Z a1 b1 c1 d1 e1 f1 g1 h1 i1 j1 k1 m1 n1 o1 p1 q1 r1 s1 t1 u1 v1 w1 x1 y1 z1 A1 B1 C1 D1 E1 F1 G1 H1 : AV, let l := lc_reserve_law a b c d e f g h i j k m n o p q r s t u v w x y z A B C D E F G H I J K L M N O P Q R S T U V W X Y Z a1 b1 c1 d1 e1 f1 g1 h1 i1 j1 k1; trim ((186,H1)::(185,G1)::(184,F1)::(183,E1)::(182,D1)::(181,C1)::(180,B1)::(179,A1)::(178,z1)::(177,y1)::(176,x1)::(175,w1)::(174,v1)::(173,u1)::(172,t1)::(171,s1)::(170,r1)::(169,q1)::(168,p1)::(167,o1)::(166,n1)::(165,m1)::l) l = [(0,a),(1,b),(2,c),(4,d),(5,e),(6,f),(7,g),(8,h),(9,i),(10,j),(11,k),(12,m),(13,n),(14,o),(15,p),(16,q),(17,r),(18,s),(19,t),(20,u),(21,v),(22,w),(23,x),(24,y),(25,z),(26,A),(27,B),(28,C),(30,D),(31,E),(32,F),(33,G),(35,H),(63,I),(81,J),(82,K),(83,L),(96,M),(97,N),(98,O),(99,P),(135,Q),(154,R),(158,S),(159,T),(160,U),(161,V),(186,H1),(200,X),(201,Y),(202,Z),(212,a1),(219,b1),(220,c1),(221,d1),(222,e1),(236,f1),(240,g1),(241,h1),(242,i1),(243,j1),(259,k1)] := by intros; rfl
          refine R_nil (tr ..) ?_; clear tr
          refine then_n ?_
          refine cdd (fun h12 => ?_) (fun h12 => ?_)
          ·
           try simp only [decide_eq_true_eq, decide_eq_false_iff_not, Bool.not_eq_true', Bool.not_eq_false', beq_iff_eq, beq_eq_false_iff_ne, ne_eq] at h12
           first | omega | contradiction | (exfalso; simp_all; done)
          ·
           try simp only [decide_eq_true_eq, decide_eq_false_iff_not, Bool.not_eq_true', Bool.not_eq_false', beq_iff_eq, beq_eq_false_iff_ne, ne_eq] at h12
           refine at_skip rfl ?_
           refine then_n ?_
           refine rg rfl ?_
           refine Rq ?_
           refine Rq ?_
           refine Rq ?_
           refine Rq ?_
           refine R_q (r := AV.i (gt (dys J D first D.length) v)) rfl (by simp (disch := first | omega | (simp only [List.length_map, List.length_append, List.length_set, List.length_cons, List.length_nil]; omega)) only [go_sem, ↓reduceIte, Nat.reduceEqDiff, reduceCtorEq, q4, q5, qc, qu] <;> exact ints_at _ v (by rw [dys_len]; omega)) ?_
           refine Rq ?_
           obtain ⟨kc, hkc⟩ : ∃ c : Nat, (c : Int) = gt (dys J D first D.length) v - first := ⟨(gt (dys J D first D.length) v - first).toNat, by omega⟩
           refine R_q (r := AV.i (kc : Nat)) rfl (by simp (disch := first | omega | (simp only [List.length_map, List.length_append, List.length_set, List.length_cons, List.length_nil]; omega)) only [go_sem, ↓reduceIte, Nat.reduceEqDiff, reduceCtorEq, q4, q5, qc] <;> first | rfl | (rw [hkc])) ?_
           refine Rq ?_
           have hub := usd_box (dys J D first D.length) first v kc
           rewrite [← hU kc (by omega)] at hub
           refine R_q (r := AV.i (gt U kc)) rfl (by simp (disch := first | omega | (simp only [List.length_map, List.length_append, List.length_set, List.length_cons, List.length_nil]; omega)) only [go_sem, ↓reduceIte, Nat.reduceEqDiff, reduceCtorEq, q4, q5, qc, qu] <;> exact ints_at U kc (by omega)) ?_
           refine Rq ?_
           refine Rq ?_
           have lqc := hget_lt qc
           have lqu := hget_lt qu
           have lqo := hget_lt qo
           refine A_store ty3 (by simp (disch := first | omega | (simp only [List.length_map, List.length_append, List.length_set, List.length_cons, List.length_nil]; omega)) only [go_sem, ↓reduceIte, Nat.reduceEqDiff, reduceCtorEq, qc, qu, qo] <;> rfl) (by simp (disch := first | omega | (simp only [List.length_map, List.length_append, List.length_set, List.length_cons, List.length_nil]; omega)) only [go_sem, ↓reduceIte, Nat.reduceEqDiff, reduceCtorEq, qc, qu, qo] <;> rfl) qu ⟨by first | omega | exact Nat.zero_le _, rfl, by first | exact Nat.le_refl _ | (simp; done) | (simp; omega)⟩ (k' := (U.set kc (gt U kc + 1)).map AV.i) (by first | exact setI _ _ _ | rfl) ?_
           intro HG wG
           have ewG := wG.len
           have qc := (wG.old _ (by omega)).trans qc
           have qo := (wG.old _ (by omega)).trans qo
           have qu := wG.new
           have tr : ∀ a b c d e f g h i j k m n o p q r s t u v w x y z A B C D E F G H I J K L M N O P Q R S T U V W X Y Z a1 b1 c1 d1 e1 f1 g1 h1 i1 j1 k1 m1 n1 o1 p1 q1 r1 s1 t1 u1 v1 w1 : AV, let l := lc_reserve_law a b c d e f g h i j k m n o p q r s t u v w x y z A B C D E F G H I J K L M N O P Q R S T U V W X Y Z a1 b1 c1 d1 e1 f1 g1 h1 i1 j1 k1; trim ((197,w1)::(196,v1)::(195,u1)::(194,t1)::(193,s1)::(192,r1)::(191,q1)::(190,p1)::(189,o1)::(188,n1)::(187,m1)::l) l = [(0,a),(1,b),(2,c),(4,d),(5,e),(6,f),(7,g),(8,h),(9,i),(10,j),(11,k),(12,m),(13,n),(14,o),(15,p),(16,q),(17,r),(18,s),(19,t),(20,u),(21,v),(22,w),(23,x),(24,y),(25,z),(26,A),(27,B),(28,C),(30,D),(31,E),(32,F),(33,G),(35,H),(63,I),(81,J),(82,K),(83,L),(96,M),(97,N),(98,O),(99,P),(135,Q),(154,R),(158,S),(159,T),(160,U),(161,V),(186,W),(200,X),(201,Y),(202,Z),(212,a1),(219,b1),(220,c1),(221,d1),(222,e1),(236,f1),(240,g1),(241,h1),(242,i1),(243,j1),(259,k1)] := by intros; rfl
           refine R_nil (tr ..) ?_; clear tr
           refine blk_n ?_
           refine then_n ?_
           refine rg rfl ?_
           refine Rq ?_
           refine Rq ?_
           have tr : ∀ a b c d e f g h i j k m n o p q r s t u v w x y z A B C D E F G H I J K L M N O P Q R S T U V W X Y Z a1 b1 c1 d1 e1 f1 g1 h1 i1 j1 k1 m1 n1 : AV, let l := lc_reserve_law a b c d e f g h i j k m n o p q r s t u v w x y z A B C D E F G H I J K L M N O P Q R S T U V W X Y Z a1 b1 c1 d1 e1 f1 g1 h1 i1 j1 k1; trim ((160,n1)::(198,m1)::l) l = [(0,a),(1,b),(2,c),(4,d),(5,e),(6,f),(7,g),(8,h),(9,i),(10,j),(11,k),(12,m),(13,n),(14,o),(15,p),(16,q),(17,r),(18,s),(19,t),(20,u),(21,v),(22,w),(23,x),(24,y),(25,z),(26,A),(27,B),(28,C),(30,D),(31,E),(32,F),(33,G),(35,H),(63,I),(81,J),(82,K),(83,L),(96,M),(97,N),(98,O),(99,P),(135,Q),(154,R),(158,S),(159,T),(160,n1),(161,V),(186,W),(200,X),(201,Y),(202,Z),(212,a1),(219,b1),(220,c1),(221,d1),(222,e1),(236,f1),(240,g1),(241,h1),(242,i1),(243,j1),(259,k1)] := by intros; rfl
           refine R_nil (tr ..) ?_; clear tr
           refine then_n ?_
           exact ⟨_, _, ⟨v + 1, U.set kc (gt U kc + 1), _, _, _, _, _, rfl, rfl, by omega, by (rw [List.length_set]; exact hUl), by exact usd_step hUl hU (by omega) (by omega), by exact qc, by exact qu, by exact .inr ⟨by omega, bo, rfl, hbo, qo⟩⟩, by rfl, by omega⟩
       ·
        try simp only [decide_eq_true_eq, decide_eq_false_iff_not, Bool.not_eq_true', Bool.not_eq_false', beq_iff_eq, beq_eq_false_iff_ne, ne_eq] at h9
        refine at_exit rfl ?_
        refine then_x ?_
        refine then_x ?_
        refine blk_x ?_
        refine then_n ?_
        refine at_seq rfl ?_
        refine at_seq rfl ?_
        refine rg rfl ?_
        refine Rq ?_
        refine Rq ?_
        refine Rq ?_
        have tr : ∀ a b c d e f g h i j k m n o p q r s t u v w x y z A B C D E F G H I J K L M N O P Q R S T U V W X Y Z a1 b1 c1 d1 e1 f1 g1 h1 i1 j1 k1 m1 n1 o1 : AV, let l := lc_reserve_law a b c d e f g h i j k m n o p q r s t u v w x y z A B C D E F G H I J K L M N O P Q R S T U V W X Y Z a1 b1 c1 d1 e1 f1 g1 h1 i1 j1 k1; trim ((201,o1)::(200,n1)::(199,m1)::l) l = [(0,a),(1,b),(2,c),(4,d),(5,e),(6,f),(7,g),(8,h),(9,i),(10,j),(11,k),(12,m),(13,n),(14,o),(15,p),(16,q),(17,r),(18,s),(19,t),(20,u),(21,v),(22,w),(23,x),(24,y),(25,z),(26,A),(27,B),(28,C),(30,D),(31,E),(32,F),(33,G),(35,H),(63,I),(81,J),(82,K),(83,L),(96,M),(97,N),(98,O),(99,P),(135,Q),(154,R),(158,S),(159,T),(160,U),(161,V),(186,W),(200,n1),(201,o1),(202,Z),(212,a1),(219,b1),(220,c1),(221,d1),(222,e1),(236,f1),(240,g1),(241,h1),(242,i1),(243,j1),(259,k1)] := by intros; rfl
        refine R_nil (tr ..) ?_; clear tr
        refine then_n ?_
        refine at_block rfl ?_
        refine loop_n rfl (fun mm kv H' => ∃ c : Nat, ∃ x6 x26 x202 x212 : AV, (kv = [(6, x6), (26, x26), (201, AV.i c), (202, x202), (212, x212)]) ∧ (mm = D.length - c) ∧ (c ≤ D.length) ∧ (hget H' HX.length = some (D.map AV.i)) ∧ (hget H' HUw.length = some (U.map AV.i))) ⟨0, _, _, _, _, rfl, rfl, by omega, by exact qc, by exact qu⟩ (by rfl) ?_
        rintro mm kv HJ ⟨c, x6, x26, x202, x212, rfl, rfl, hc, qc, qu⟩
        have tr : ∀ a b c d e f g h i j k m n o p q r s t u v w x y z A B C D E F G H I J K L M N O P Q R S T U V W X Y Z a1 b1 c1 d1 e1 f1 g1 h1 i1 j1 k1 m1 n1 o1 p1 q1 : AV, upd [(0,a),(1,b),(2,c),(4,d),(5,e),(6,f),(7,g),(8,h),(9,i),(10,j),(11,k),(12,m),(13,n),(14,o),(15,p),(16,q),(17,r),(18,s),(19,t),(20,u),(21,v),(22,w),(23,x),(24,y),(25,z),(26,A),(27,B),(28,C),(30,D),(31,E),(32,F),(33,G),(35,H),(63,I),(81,J),(82,K),(83,L),(96,M),(97,N),(98,O),(99,P),(135,Q),(154,R),(158,S),(159,T),(160,U),(161,V),(186,W),(200,X),(201,Y),(202,Z),(212,a1),(219,b1),(220,c1),(221,d1),(222,e1),(236,f1),(240,g1),(241,h1),(242,i1),(243,j1),(259,k1)] [(6,m1),(26,n1),(201,o1),(202,p1),(212,q1)] = [(0,a),(1,b),(2,c),(4,d),(5,e),(6,m1),(7,g),(8,h),(9,i),(10,j),(11,k),(12,m),(13,n),(14,o),(15,p),(16,q),(17,r),(18,s),(19,t),(20,u),(21,v),(22,w),(23,x),(24,y),(25,z),(26,n1),(27,B),(28,C),(30,D),(31,E),(32,F),(33,G),(35,H),(63,I),(81,J),(82,K),(83,L),(96,M),(97,N),(98,O),(99,P),(135,Q),(154,R),(158,S),(159,T),(160,U),(161,V),(186,W),(200,X),(201,o1),(202,p1),(212,q1),(219,b1),(220,c1),(221,d1),(222,e1),(236,f1),(240,g1),(241,h1),(242,i1),(243,j1),(259,k1)] := by intros; rfl
        refine W_to (tr ..) ?_; clear tr
        refine at_seq rfl ?_
        refine rg rfl ?_
        refine Rq ?_
        have tr : ∀ a b c d e f g h i j k m n o p q r s t u v w x y z A B C D E F G H I J K L M N O P Q R S T U V W X Y Z a1 b1 c1 d1 e1 f1 g1 h1 i1 j1 k1 m1 : AV, let l := lc_reserve_law a b c d e f g h i j k m n o p q r s t u v w x y z A B C D E F G H I J K L M N O P Q R S T U V W X Y Z a1 b1 c1 d1 e1 f1 g1 h1 i1 j1 k1; trim ((202,m1)::l) l = [(0,a),(1,b),(2,c),(4,d),(5,e),(6,f),(7,g),(8,h),(9,i),(10,j),(11,k),(12,m),(13,n),(14,o),(15,p),(16,q),(17,r),(18,s),(19,t),(20,u),(21,v),(22,w),(23,x),(24,y),(25,z),(26,A),(27,B),(28,C),(30,D),(31,E),(32,F),(33,G),(35,H),(63,I),(81,J),(82,K),(83,L),(96,M),(97,N),(98,O),(99,P),(135,Q),(154,R),(158,S),(159,T),(160,U),(161,V),(186,W),(200,X),(201,Y),(202,m1),(212,a1),(219,b1),(220,c1),(221,d1),(222,e1),(236,f1),(240,g1),(241,h1),(242,i1),(243,j1),(259,k1)] := by intros; rfl
        refine R_nil (tr ..) ?_; clear tr
        refine then_n ?_
        refine at_seq rfl ?_
        refine cdd (fun h13 => ?_) (fun h13 => ?_)
        ·
         try simp only [decide_eq_true_eq, decide_eq_false_iff_not, Bool.not_eq_true', Bool.not_eq_false', beq_iff_eq, beq_eq_false_iff_ne, ne_eq] at h13
         refine at_skip rfl ?_
         refine then_n ?_
         refine at_seq rfl ?_
         refine at_block rfl ?_
         refine at_seq rfl ?_
         refine rg rfl ?_
         refine Rq ?_
         refine Rq ?_
         have tr : ∀ a b c d e f g h i j k m n o p q r s t u v w x y z A B C D E F G H I J K L M N O P Q R S T U V W X Y Z a1 b1 c1 d1 e1 f1 g1 h1 i1 j1 k1 m1 n1 : AV, let l := lc_reserve_law a b c d e f g h i j k m n o p q r s t u v w x y z A B C D E F G H I J K L M N O P Q R S T U V W X Y Z a1 b1 c1 d1 e1 f1 g1 h1 i1 j1 k1; trim ((26,n1)::(203,m1)::l) l = [(0,a),(1,b),(2,c),(4,d),(5,e),(6,f),(7,g),(8,h),(9,i),(10,j),(11,k),(12,m),(13,n),(14,o),(15,p),(16,q),(17,r),(18,s),(19,t),(20,u),(21,v),(22,w),(23,x),(24,y),(25,z),(26,n1),(27,B),(28,C),(30,D),(31,E),(32,F),(33,G),(35,H),(63,I),(81,J),(82,K),(83,L),(96,M),(97,N),(98,O),(99,P),(135,Q),(154,R),(158,S),(159,T),(160,U),(161,V),(186,W),(200,X),(201,Y),(202,Z),(212,a1),(219,b1),(220,c1),(221,d1),(222,e1),(236,f1),(240,g1),(241,h1),(242,i1),(243,j1),(259,k1)] := by intros; rfl
         refine R_nil (tr ..) ?_; clear tr
         refine then_n ?_
         refine at_seq rfl ?_
         refine rd rfl rfl ?_
         have hcap := inv.cap c (by omega)
         have hUc := hU c (by omega)
         rewrite [show v = J.length by omega] at hUc
         unfold usd at hUc
         refine Qq ?_
         refine Qq ?_
         refine Qq ?_
         refine Q_q (r := AV.i (gt U c)) rfl (by simp (disch := first | omega | (simp only [List.length_map, List.length_append, List.length_set, List.length_cons, List.length_nil]; omega)) only [go_sem, ↓reduceIte, Nat.reduceEqDiff, reduceCtorEq, q4, q5, qc, qu] <;> exact ints_at U c (by omega)) ?_
         refine Qq ?_
         refine Qq ?_
         refine Qq ?_
         refine Q_q (r := AV.i (gt D c)) rfl (by simp (disch := first | omega | (simp only [List.length_map, List.length_append, List.length_set, List.length_cons, List.length_nil]; omega)) only [go_sem, ↓reduceIte, Nat.reduceEqDiff, reduceCtorEq, q4, q5, qc, qu] <;> exact ints_at D c (by omega)) ?_
         refine Qq ?_
         refine Q_nil ?_
         have tr : ∀ a b c d e f g h i j k m n o p q r s t u v w x y z A B C D E F G H I J K L M N O P Q R S T U V W X Y Z a1 b1 c1 d1 e1 f1 g1 h1 i1 j1 k1 m1 n1 o1 p1 q1 r1 s1 t1 u1 : AV, let l := lc_reserve_law a b c d e f g h i j k m n o p q r s t u v w x y z A B C D E F G H I J K L M N O P Q R S T U V W X Y Z a1 b1 c1 d1 e1 f1 g1 h1 i1 j1 k1; trim ((212,u1)::(211,t1)::(210,s1)::(209,r1)::(208,q1)::(207,p1)::(206,o1)::(205,n1)::(204,m1)::l) l = [(0,a),(1,b),(2,c),(4,d),(5,e),(6,f),(7,g),(8,h),(9,i),(10,j),(11,k),(12,m),(13,n),(14,o),(15,p),(16,q),(17,r),(18,s),(19,t),(20,u),(21,v),(22,w),(23,x),(24,y),(25,z),(26,A),(27,B),(28,C),(30,D),(31,E),(32,F),(33,G),(35,H),(63,I),(81,J),(82,K),(83,L),(96,M),(97,N),(98,O),(99,P),(135,Q),(154,R),(158,S),(159,T),(160,U),(161,V),(186,W),(200,X),(201,Y),(202,Z),(212,u1),(219,b1),(220,c1),(221,d1),(222,e1),(236,f1),(240,g1),(241,h1),(242,i1),(243,j1),(259,k1)] := by intros; rfl
         refine R_nil (tr ..) ?_; clear tr
         refine then_n ?_
         refine cdd (fun h14 => ?_) (fun h14 => ?_)
         ·
          try simp only [decide_eq_true_eq, decide_eq_false_iff_not, Bool.not_eq_true', Bool.not_eq_false', beq_iff_eq, beq_eq_false_iff_ne, ne_eq] at h14
          first | omega | contradiction | (exfalso; simp_all; done)
         ·
          try simp only [decide_eq_true_eq, decide_eq_false_iff_not, Bool.not_eq_true', Bool.not_eq_false', beq_iff_eq, beq_eq_false_iff_ne, ne_eq] at h14
          refine at_skip rfl ?_
          refine blk_n ?_
          refine then_n ?_
          refine rg rfl ?_
          refine Rq ?_
          refine Rq ?_
          have tr : ∀ a b c d e f g h i j k m n o p q r s t u v w x y z A B C D E F G H I J K L M N O P Q R S T U V W X Y Z a1 b1 c1 d1 e1 f1 g1 h1 i1 j1 k1 m1 n1 : AV, let l := lc_reserve_law a b c d e f g h i j k m n o p q r s t u v w x y z A B C D E F G H I J K L M N O P Q R S T U V W X Y Z a1 b1 c1 d1 e1 f1 g1 h1 i1 j1 k1; trim ((201,n1)::(213,m1)::l) l = [(0,a),(1,b),(2,c),(4,d),(5,e),(6,f),(7,g),(8,h),(9,i),(10,j),(11,k),(12,m),(13,n),(14,o),(15,p),(16,q),(17,r),(18,s),(19,t),(20,u),(21,v),(22,w),(23,x),(24,y),(25,z),(26,A),(27,B),(28,C),(30,D),(31,E),(32,F),(33,G),(35,H),(63,I),(81,J),(82,K),(83,L),(96,M),(97,N),(98,O),(99,P),(135,Q),(154,R),(158,S),(159,T),(160,U),(161,V),(186,W),(200,X),(201,n1),(202,Z),(212,a1),(219,b1),(220,c1),(221,d1),(222,e1),(236,f1),(240,g1),(241,h1),(242,i1),(243,j1),(259,k1)] := by intros; rfl
          refine R_nil (tr ..) ?_; clear tr
          refine then_n ?_
          exact ⟨_, _, ⟨c + 1, _, _, _, _, rfl, rfl, by omega, by exact qc, by exact qu⟩, by rfl, by omega⟩
        ·
         try simp only [decide_eq_true_eq, decide_eq_false_iff_not, Bool.not_eq_true', Bool.not_eq_false', beq_iff_eq, beq_eq_false_iff_ne, ne_eq] at h13
         refine at_exit rfl ?_
         refine then_x ?_
         refine then_x ?_
         refine blk_x ?_
         refine then_n ?_
         refine at_seq rfl ?_
         refine rg rfl ?_
         refine Rq ?_
         refine Rq ?_
         refine Rq ?_
         refine R_q (r := AV.i (J.length : Nat)) rfl (by simp (disch := first | omega | (simp only [List.length_map, List.length_append, List.length_set, List.length_cons, List.length_nil]; omega)) only [go_sem, ↓reduceIte, Nat.reduceEqDiff, reduceCtorEq]; exact hO.len40) ?_
         refine Rq ?_
         refine Rq ?_
         have tr : ∀ a b c d e f g h i j k m n o p q r s t u v w x y z A B C D E F G H I J K L M N O P Q R S T U V W X Y Z a1 b1 c1 d1 e1 f1 g1 h1 i1 j1 k1 m1 n1 o1 p1 q1 r1 : AV, let l := lc_reserve_law a b c d e f g h i j k m n o p q r s t u v w x y z A B C D E F G H I J K L M N O P Q R S T U V W X Y Z a1 b1 c1 d1 e1 f1 g1 h1 i1 j1 k1; trim ((6,r1)::(218,q1)::(217,p1)::(216,o1)::(215,n1)::(214,m1)::l) l = [(0,a),(1,b),(2,c),(4,d),(5,e),(6,r1),(7,g),(8,h),(9,i),(10,j),(11,k),(12,m),(13,n),(14,o),(15,p),(16,q),(17,r),(18,s),(19,t),(20,u),(21,v),(22,w),(23,x),(24,y),(25,z),(26,A),(27,B),(28,C),(30,D),(31,E),(32,F),(33,G),(35,H),(63,I),(81,J),(82,K),(83,L),(96,M),(97,N),(98,O),(99,P),(135,Q),(154,R),(158,S),(159,T),(160,U),(161,V),(186,W),(200,X),(201,Y),(202,Z),(212,a1),(219,b1),(220,c1),(221,d1),(222,e1),(236,f1),(240,g1),(241,h1),(242,i1),(243,j1),(259,k1)] := by intros; rfl
         refine R_nil (tr ..) ?_; clear tr
         refine then_n ?_
         refine at_ret rfl ?_
         refine then_r ?_
         refine fpure ?_
         first | rfl | (simp [dys_len]; done) | (refine congrArg (fun z => AV.v (.bool z)) (decide_eq_true ?_); have hvv := hvw.2; rw [hs0, hn2, show c = D.length by omega, show v = J.length by omega]; exact hvv)
      ·
       try simp only [decide_eq_true_eq, decide_eq_false_iff_not, Bool.not_eq_true', Bool.not_eq_false', beq_iff_eq, beq_eq_false_iff_ne, ne_eq] at h8
       obtain ⟨he13, hvw⟩ := hcase.resolve_left (fun hh => by omega)
       refine at_skip rfl ?_
       refine then_n ?_
       refine at_seq rfl ?_
       refine rg rfl ?_
       refine Rq ?_
       refine Rq ?_
       have tr : ∀ a b c d e f g h i j k m n o p q r s t u v w x y z A B C D E F G H I J K L M N O P Q R S T U V W X Y Z a1 b1 c1 d1 e1 f1 g1 h1 i1 j1 k1 m1 n1 : AV, let l := lc_reserve_law a b c d e f g h i j k m n o p q r s t u v w x y z A B C D E F G H I J K L M N O P Q R S T U V W X Y Z a1 b1 c1 d1 e1 f1 g1 h1 i1 j1 k1; trim ((28,n1)::(27,m1)::l) l = [(0,a),(1,b),(2,c),(4,d),(5,e),(6,f),(7,g),(8,h),(9,i),(10,j),(11,k),(12,m),(13,n),(14,o),(15,p),(16,q),(17,r),(18,s),(19,t),(20,u),(21,v),(22,w),(23,x),(24,y),(25,z),(26,A),(27,m1),(28,n1),(30,D),(31,E),(32,F),(33,G),(35,H),(63,I),(81,J),(82,K),(83,L),(96,M),(97,N),(98,O),(99,P),(135,Q),(154,R),(158,S),(159,T),(160,U),(161,V),(186,W),(200,X),(201,Y),(202,Z),(212,a1),(219,b1),(220,c1),(221,d1),(222,e1),(236,f1),(240,g1),(241,h1),(242,i1),(243,j1),(259,k1)] := by intros; rfl
       refine R_nil (tr ..) ?_; clear tr
       refine then_n ?_
       refine at_seq rfl ?_
       refine at_seq rfl ?_
       refine rg rfl ?_
       refine Rq ?_
       refine R_q (r := AV.i (J.length : Nat)) rfl (by simp (disch := first | omega | (simp only [List.length_map, List.length_append, List.length_set, List.length_cons, List.length_nil]; omega)) only [go_sem, ↓reduceIte, Nat.reduceEqDiff, reduceCtorEq]; exact hO.len40) ?_
       refine Rq ?_
       have tr : ∀ a b c d e f g h i j k m n o p q r s t u v w x y z A B C D E F G H I J K L M N O P Q R S T U V W X Y Z a1 b1 c1 d1 e1 f1 g1 h1 i1 j1 k1 m1 n1 o1 : AV, let l := lc_reserve_law a b c d e f g h i j k m n o p q r s t u v w x y z A B C D E F G H I J K L M N O P Q R S T U V W X Y Z a1 b1 c1 d1 e1 f1 g1 h1 i1 j1 k1; trim ((221,o1)::(220,n1)::(219,m1)::l) l = [(0,a),(1,b),(2,c),(4,d),(5,e),(6,f),(7,g),(8,h),(9,i),(10,j),(11,k),(12,m),(13,n),(14,o),(15,p),(16,q),(17,r),(18,s),(19,t),(20,u),(21,v),(22,w),(23,x),(24,y),(25,z),(26,A),(27,B),(28,C),(30,D),(31,E),(32,F),(33,G),(35,H),(63,I),(81,J),(82,K),(83,L),(96,M),(97,N),(98,O),(99,P),(135,Q),(154,R),(158,S),(159,T),(160,U),(161,V),(186,W),(200,X),(201,Y),(202,Z),(212,a1),(219,m1),(220,n1),(221,o1),(222,e1),(236,f1),(240,g1),(241,h1),(242,i1),(243,j1),(259,k1)] := by intros; rfl
       refine R_nil (tr ..) ?_; clear tr
       refine then_n ?_
       refine at_block rfl ?_
       refine loop_n rfl (fun mm kv H' => ∃ v : Nat, ∃ n2 : Int, ∃ x30 x222 x236 : AV, (kv = [(27, AV.i n2), (30, x30), (221, AV.i v), (222, x222), (236, x236)]) ∧ (mm = 1 * (J.length - v)) ∧ (v ≤ J.length) ∧ (n2 = ct (inp J wa wb) v) ∧ (hget H' HX.length = some (D.map AV.i)) ∧ (hget H' HQ.length = some [AV.i wa, AV.i wb]) ∧ (OutG 2 (HX.length + 1) H' o J.length (flatJ J))) ⟨0, 0, _, _, _, rfl, rfl, by omega, by rfl, by exact qc, by exact q21, by exact hO⟩ (by rfl) ?_
       rintro mm kv HM ⟨v, n2, x30, x222, x236, rfl, rfl, hv, hn2, qc, q21, hO⟩
       have tr : ∀ a b c d e f g h i j k m n o p q r s t u v w x y z A B C D E F G H I J K L M N O P Q R S T U V W X Y Z a1 b1 c1 d1 e1 f1 g1 h1 i1 j1 k1 m1 n1 o1 p1 q1 : AV, upd [(0,a),(1,b),(2,c),(4,d),(5,e),(6,f),(7,g),(8,h),(9,i),(10,j),(11,k),(12,m),(13,n),(14,o),(15,p),(16,q),(17,r),(18,s),(19,t),(20,u),(21,v),(22,w),(23,x),(24,y),(25,z),(26,A),(27,B),(28,C),(30,D),(31,E),(32,F),(33,G),(35,H),(63,I),(81,J),(82,K),(83,L),(96,M),(97,N),(98,O),(99,P),(135,Q),(154,R),(158,S),(159,T),(160,U),(161,V),(186,W),(200,X),(201,Y),(202,Z),(212,a1),(219,b1),(220,c1),(221,d1),(222,e1),(236,f1),(240,g1),(241,h1),(242,i1),(243,j1),(259,k1)] [(27,m1),(30,n1),(221,o1),(222,p1),(236,q1)] = [(0,a),(1,b),(2,c),(4,d),(5,e),(6,f),(7,g),(8,h),(9,i),(10,j),(11,k),(12,m),(13,n),(14,o),(15,p),(16,q),(17,r),(18,s),(19,t),(20,u),(21,v),(22,w),(23,x),(24,y),(25,z),(26,A),(27,m1),(28,C),(30,n1),(31,E),(32,F),(33,G),(35,H),(63,I),(81,J),(82,K),(83,L),(96,M),(97,N),(98,O),(99,P),(135,Q),(154,R),(158,S),(159,T),(160,U),(161,V),(186,W),(200,X),(201,Y),(202,Z),(212,a1),(219,b1),(220,c1),(221,o1),(222,p1),(236,q1),(240,g1),(241,h1),(242,i1),(243,j1),(259,k1)] := by intros; rfl
       refine W_to (tr ..) ?_; clear tr
       have hnb := ct_nn (inp J wa wb) v
       rewrite [← hn2] at hnb
       refine at_seq rfl ?_
       refine rg rfl ?_
       refine Rq ?_
       have tr : ∀ a b c d e f g h i j k m n o p q r s t u v w x y z A B C D E F G H I J K L M N O P Q R S T U V W X Y Z a1 b1 c1 d1 e1 f1 g1 h1 i1 j1 k1 m1 : AV, let l := lc_reserve_law a b c d e f g h i j k m n o p q r s t u v w x y z A B C D E F G H I J K L M N O P Q R S T U V W X Y Z a1 b1 c1 d1 e1 f1 g1 h1 i1 j1 k1; trim ((222,m1)::l) l = [(0,a),(1,b),(2,c),(4,d),(5,e),(6,f),(7,g),(8,h),(9,i),(10,j),(11,k),(12,m),(13,n),(14,o),(15,p),(16,q),(17,r),(18,s),(19,t),(20,u),(21,v),(22,w),(23,x),(24,y),(25,z),(26,A),(27,B),(28,C),(30,D),(31,E),(32,F),(33,G),(35,H),(63,I),(81,J),(82,K),(83,L),(96,M),(97,N),(98,O),(99,P),(135,Q),(154,R),(158,S),(159,T),(160,U),(161,V),(186,W),(200,X),(201,Y),(202,Z),(212,a1),(219,b1),(220,c1),(221,d1),(222,m1),(236,f1),(240,g1),(241,h1),(242,i1),(243,j1),(259,k1)] := by intros; rfl
       refine R_nil (tr ..) ?_; clear tr
       refine then_n ?_
       refine at_seq rfl ?_
       refine cdd (fun h15 => ?_) (fun h15 => ?_)
       ·
        try simp only [decide_eq_true_eq, decide_eq_false_iff_not, Bool.not_eq_true', Bool.not_eq_false', beq_iff_eq, beq_eq_false_iff_ne, ne_eq] at h15
        refine at_skip rfl ?_
        refine then_n ?_
        refine at_seq rfl ?_
        refine at_block rfl ?_
        refine at_seq rfl ?_
        refine rg rfl ?_
        obtain ⟨bo, rfl, hbo, qo⟩ := hO.own (by omega)
        refine Rq ?_
        refine R_q rfl (by simp (disch := first | omega | (simp only [List.length_map, List.length_append, List.length_set, List.length_cons, List.length_nil]; omega)) only [go_sem, ↓reduceIte, Nat.reduceEqDiff, reduceCtorEq, q4, q5, qc, qu, q18, q21, q25, q30, qj, qo, hsz]; rfl) ?_
        have mqc := hget_lt qc
        have mq21 := hget_lt q21
        have mqo := hget_lt qo
        refine A_alloc rfl ?_
        intro HF nF
        have enF := nF.len
        have qc := (nF.old _ (hget_lt qc)).trans qc
        have q21 := (nF.old _ (hget_lt q21)).trans q21
        have qo := (nF.old _ (hget_lt qo)).trans qo
        have q30 := nF.new
        have lqc := hget_lt qc
        have lq21 := hget_lt q21
        have lqo := hget_lt qo
        have lq30 := hget_lt q30
        refine A_store ty43 (by simp (disch := first | omega | (simp only [List.length_map, List.length_append, List.length_set, List.length_cons, List.length_nil]; omega)) only [go_sem, ↓reduceIte, Nat.reduceEqDiff, reduceCtorEq, q30] <;> rfl) (by simp (disch := first | omega | (simp only [List.length_map, List.length_append, List.length_set, List.length_cons, List.length_nil]; omega)) only [go_sem, ↓reduceIte, Nat.reduceEqDiff, reduceCtorEq, q30] <;> rfl) q30 ⟨by first | omega | exact Nat.zero_le _, rfl, by first | exact Nat.le_refl _ | simp⟩ (k' := jbC (gt J v)) rfl ?_
        intro HFw wF
        have ewF := wF.len
        have qc := (wF.old _ (by omega)).trans qc
        have q21 := (wF.old _ (by omega)).trans q21
        have qo := (wF.old _ (by omega)).trans qo
        have q30 := wF.new
        have tr : ∀ a b c d e f g h i j k m n o p q r s t u v w x y z A B C D E F G H I J K L M N O P Q R S T U V W X Y Z a1 b1 c1 d1 e1 f1 g1 h1 i1 j1 k1 m1 n1 o1 : AV, let l := lc_reserve_law a b c d e f g h i j k m n o p q r s t u v w x y z A B C D E F G H I J K L M N O P Q R S T U V W X Y Z a1 b1 c1 d1 e1 f1 g1 h1 i1 j1 k1; trim ((30,o1)::(224,n1)::(223,m1)::l) l = [(0,a),(1,b),(2,c),(4,d),(5,e),(6,f),(7,g),(8,h),(9,i),(10,j),(11,k),(12,m),(13,n),(14,o),(15,p),(16,q),(17,r),(18,s),(19,t),(20,u),(21,v),(22,w),(23,x),(24,y),(25,z),(26,A),(27,B),(28,C),(30,o1),(31,E),(32,F),(33,G),(35,H),(63,I),(81,J),(82,K),(83,L),(96,M),(97,N),(98,O),(99,P),(135,Q),(154,R),(158,S),(159,T),(160,U),(161,V),(186,W),(200,X),(201,Y),(202,Z),(212,a1),(219,b1),(220,c1),(221,d1),(222,e1),(236,f1),(240,g1),(241,h1),(242,i1),(243,j1),(259,k1)] := by intros; rfl
        refine R_nil (tr ..) ?_; clear tr
        refine then_n ?_
        refine at_seq rfl ?_
        refine rg rfl ?_
        refine Rq ?_
        refine R_q rfl (by simp (disch := first | omega | (simp only [List.length_map, List.length_append, List.length_set, List.length_cons, List.length_nil]; omega)) only [go_sem, ↓reduceIte, Nat.reduceEqDiff, reduceCtorEq, q4, q5, qc, qu, q18, q21, q25, q30, qj, qo, hsz]; rfl) ?_
        refine Rq ?_
        refine R_q rfl (by simp (disch := first | omega | (simp only [List.length_map, List.length_append, List.length_set, List.length_cons, List.length_nil]; omega)) only [go_sem, ↓reduceIte, Nat.reduceEqDiff, reduceCtorEq, q4, q5, qc, qu, q18, q21, q25, q30, qj, qo, hsz]; rfl) ?_
        refine Rq ?_
        refine Rq ?_
        refine Rp_split (fun h16 => ?_) (fun h16 => ?_)
        ·
         try simp only [decide_eq_true_eq, decide_eq_false_iff_not, Bool.not_eq_true', Bool.not_eq_false', beq_iff_eq, beq_eq_false_iff_ne, ne_eq] at h16
         refine Ry ?_
         refine Rq ?_
         refine Ry ?_
         refine R_q rfl (by simp (disch := first | omega | (simp only [List.length_map, List.length_append, List.length_set, List.length_cons, List.length_nil]; omega)) only [go_sem, ↓reduceIte, Nat.reduceEqDiff, reduceCtorEq, q4, q5, qc, qu, q18, q21, q25, q30, qj, qo, hsz]; rfl) ?_
         refine Ry ?_
         refine Rq ?_
         refine Ry ?_
         refine R_q rfl (by simp (disch := first | omega | (simp only [List.length_map, List.length_append, List.length_set, List.length_cons, List.length_nil]; omega)) only [go_sem, ↓reduceIte, Nat.reduceEqDiff, reduceCtorEq, q4, q5, qc, qu, q18, q21, q25, q30, qj, qo, hsz]; rfl) ?_
         refine Ry ?_
         refine Rq ?_
         refine Rq ?_
         have tr : ∀ a b c d e f g h i j k m n o p q r s t u v w x y z A B C D E F G H I J K L M N O P Q R S T U V W X Y Z a1 b1 c1 d1 e1 f1 g1 h1 i1 j1 k1 m1 n1 o1 p1 q1 r1 s1 t1 u1 v1 w1 x1 : AV, let l := lc_reserve_law a b c d e f g h i j k m n o p q r s t u v w x y z A B C D E F G H I J K L M N O P Q R S T U V W X Y Z a1 b1 c1 d1 e1 f1 g1 h1 i1 j1 k1; trim ((236,x1)::(235,w1)::(234,v1)::(233,u1)::(232,t1)::(231,s1)::(230,r1)::(229,q1)::(228,p1)::(227,o1)::(226,n1)::(225,m1)::l) l = [(0,a),(1,b),(2,c),(4,d),(5,e),(6,f),(7,g),(8,h),(9,i),(10,j),(11,k),(12,m),(13,n),(14,o),(15,p),(16,q),(17,r),(18,s),(19,t),(20,u),(21,v),(22,w),(23,x),(24,y),(25,z),(26,A),(27,B),(28,C),(30,D),(31,E),(32,F),(33,G),(35,H),(63,I),(81,J),(82,K),(83,L),(96,M),(97,N),(98,O),(99,P),(135,Q),(154,R),(158,S),(159,T),(160,U),(161,V),(186,W),(200,X),(201,Y),(202,Z),(212,a1),(219,b1),(220,c1),(221,d1),(222,e1),(236,x1),(240,g1),(241,h1),(242,i1),(243,j1),(259,k1)] := by intros; rfl
         refine R_nil (tr ..) ?_; clear tr
         refine then_n ?_
         refine cdd (fun h17 => ?_) (fun h17 => ?_)
         ·
          try simp only [decide_eq_true_eq, decide_eq_false_iff_not, Bool.not_eq_true', Bool.not_eq_false', beq_iff_eq, beq_eq_false_iff_ne, ne_eq] at h17
          refine rg rfl ?_
          refine Rq ?_
          refine Rq ?_
          refine Rq ?_
          have tr : ∀ a b c d e f g h i j k m n o p q r s t u v w x y z A B C D E F G H I J K L M N O P Q R S T U V W X Y Z a1 b1 c1 d1 e1 f1 g1 h1 i1 j1 k1 m1 n1 o1 : AV, let l := lc_reserve_law a b c d e f g h i j k m n o p q r s t u v w x y z A B C D E F G H I J K L M N O P Q R S T U V W X Y Z a1 b1 c1 d1 e1 f1 g1 h1 i1 j1 k1; trim ((27,o1)::(238,n1)::(237,m1)::l) l = [(0,a),(1,b),(2,c),(4,d),(5,e),(6,f),(7,g),(8,h),(9,i),(10,j),(11,k),(12,m),(13,n),(14,o),(15,p),(16,q),(17,r),(18,s),(19,t),(20,u),(21,v),(22,w),(23,x),(24,y),(25,z),(26,A),(27,o1),(28,C),(30,D),(31,E),(32,F),(33,G),(35,H),(63,I),(81,J),(82,K),(83,L),(96,M),(97,N),(98,O),(99,P),(135,Q),(154,R),(158,S),(159,T),(160,U),(161,V),(186,W),(200,X),(201,Y),(202,Z),(212,a1),(219,b1),(220,c1),(221,d1),(222,e1),(236,f1),(240,g1),(241,h1),(242,i1),(243,j1),(259,k1)] := by intros; rfl
          refine R_nil (tr ..) ?_; clear tr
          refine blk_n ?_
          refine then_n ?_
          refine rg rfl ?_
          refine Rq ?_
          refine Rq ?_
          have tr : ∀ a b c d e f g h i j k m n o p q r s t u v w x y z A B C D E F G H I J K L M N O P Q R S T U V W X Y Z a1 b1 c1 d1 e1 f1 g1 h1 i1 j1 k1 m1 n1 : AV, let l := lc_reserve_law a b c d e f g h i j k m n o p q r s t u v w x y z A B C D E F G H I J K L M N O P Q R S T U V W X Y Z a1 b1 c1 d1 e1 f1 g1 h1 i1 j1 k1; trim ((221,n1)::(239,m1)::l) l = [(0,a),(1,b),(2,c),(4,d),(5,e),(6,f),(7,g),(8,h),(9,i),(10,j),(11,k),(12,m),(13,n),(14,o),(15,p),(16,q),(17,r),(18,s),(19,t),(20,u),(21,v),(22,w),(23,x),(24,y),(25,z),(26,A),(27,B),(28,C),(30,D),(31,E),(32,F),(33,G),(35,H),(63,I),(81,J),(82,K),(83,L),(96,M),(97,N),(98,O),(99,P),(135,Q),(154,R),(158,S),(159,T),(160,U),(161,V),(186,W),(200,X),(201,Y),(202,Z),(212,a1),(219,b1),(220,c1),(221,n1),(222,e1),(236,f1),(240,g1),(241,h1),(242,i1),(243,j1),(259,k1)] := by intros; rfl
          refine R_nil (tr ..) ?_; clear tr
          refine then_n ?_
          exact ⟨_, _, ⟨v + 1, n2 + 1, _, _, _, rfl, rfl, by omega, by first | exact ct_T hn2 ⟨by omega, by omega⟩ | exact ct_F hn2 (fun hh => by have h1 := hh.1; have h2 := hh.2; omega), by exact qc, by exact q21, by exact .inr ⟨by omega, bo, rfl, hbo, qo⟩⟩, by rfl, by omega⟩
         ·
          try simp only [decide_eq_true_eq, decide_eq_false_iff_not, Bool.not_eq_true', Bool.not_eq_false', beq_iff_eq, beq_eq_false_iff_ne, ne_eq] at h17
          refine at_skip rfl ?_
          refine blk_n ?_
          refine then_n ?_
          refine rg rfl ?_
          refine Rq ?_
          refine Rq ?_
          have tr : ∀ a b c d e f g h i j k m n o p q r s t u v w x y z A B C D E F G H I J K L M N O P Q R S T U V W X Y Z a1 b1 c1 d1 e1 f1 g1 h1 i1 j1 k1 m1 n1 : AV, let l := lc_reserve_law a b c d e f g h i j k m n o p q r s t u v w x y z A B C D E F G H I J K L M N O P Q R S T U V W X Y Z a1 b1 c1 d1 e1 f1 g1 h1 i1 j1 k1; trim ((221,n1)::(239,m1)::l) l = [(0,a),(1,b),(2,c),(4,d),(5,e),(6,f),(7,g),(8,h),(9,i),(10,j),(11,k),(12,m),(13,n),(14,o),(15,p),(16,q),(17,r),(18,s),(19,t),(20,u),(21,v),(22,w),(23,x),(24,y),(25,z),(26,A),(27,B),(28,C),(30,D),(31,E),(32,F),(33,G),(35,H),(63,I),(81,J),(82,K),(83,L),(96,M),(97,N),(98,O),(99,P),(135,Q),(154,R),(158,S),(159,T),(160,U),(161,V),(186,W),(200,X),(201,Y),(202,Z),(212,a1),(219,b1),(220,c1),(221,n1),(222,e1),(236,f1),(240,g1),(241,h1),(242,i1),(243,j1),(259,k1)] := by intros; rfl
          refine R_nil (tr ..) ?_; clear tr
          refine then_n ?_
          exact ⟨_, _, ⟨v + 1, n2, _, _, _, rfl, rfl, by omega, by first | exact ct_T hn2 ⟨by omega, by omega⟩ | exact ct_F hn2 (fun hh => by have h1 := hh.1; have h2 := hh.2; omega), by exact qc, by exact q21, by exact .inr ⟨by omega, bo, rfl, hbo, qo⟩⟩, by rfl, by omega⟩
        ·
         try simp only [decide_eq_true_eq, decide_eq_false_iff_not, Bool.not_eq_true', Bool.not_eq_false', beq_iff_eq, beq_eq_false_iff_ne, ne_eq] at h16
         refine Rn ?_
         refine Rn ?_
         refine Rn ?_
         refine Rn ?_
         refine Rn ?_
         refine Rq ?_
         have tr : ∀ a b c d e f g h i j k m n o p q r s t u v w x y z A B C D E F G H I J K L M N O P Q R S T U V W X Y Z a1 b1 c1 d1 e1 f1 g1 h1 i1 j1 k1 m1 n1 o1 p1 q1 r1 s1 t1 u1 v1 w1 x1 : AV, let l := lc_reserve_law a b c d e f g h i j k m n o p q r s t u v w x y z A B C D E F G H I J K L M N O P Q R S T U V W X Y Z a1 b1 c1 d1 e1 f1 g1 h1 i1 j1 k1; trim ((236,x1)::(235,w1)::(234,v1)::(233,u1)::(232,t1)::(231,s1)::(230,r1)::(229,q1)::(228,p1)::(227,o1)::(226,n1)::(225,m1)::l) l = [(0,a),(1,b),(2,c),(4,d),(5,e),(6,f),(7,g),(8,h),(9,i),(10,j),(11,k),(12,m),(13,n),(14,o),(15,p),(16,q),(17,r),(18,s),(19,t),(20,u),(21,v),(22,w),(23,x),(24,y),(25,z),(26,A),(27,B),(28,C),(30,D),(31,E),(32,F),(33,G),(35,H),(63,I),(81,J),(82,K),(83,L),(96,M),(97,N),(98,O),(99,P),(135,Q),(154,R),(158,S),(159,T),(160,U),(161,V),(186,W),(200,X),(201,Y),(202,Z),(212,a1),(219,b1),(220,c1),(221,d1),(222,e1),(236,x1),(240,g1),(241,h1),(242,i1),(243,j1),(259,k1)] := by intros; rfl
         refine R_nil (tr ..) ?_; clear tr
         refine then_n ?_
         refine cdf ?_
         refine at_skip rfl ?_
         refine blk_n ?_
         refine then_n ?_
         refine rg rfl ?_
         refine Rq ?_
         refine Rq ?_
         have tr : ∀ a b c d e f g h i j k m n o p q r s t u v w x y z A B C D E F G H I J K L M N O P Q R S T U V W X Y Z a1 b1 c1 d1 e1 f1 g1 h1 i1 j1 k1 m1 n1 : AV, let l := lc_reserve_law a b c d e f g h i j k m n o p q r s t u v w x y z A B C D E F G H I J K L M N O P Q R S T U V W X Y Z a1 b1 c1 d1 e1 f1 g1 h1 i1 j1 k1; trim ((221,n1)::(239,m1)::l) l = [(0,a),(1,b),(2,c),(4,d),(5,e),(6,f),(7,g),(8,h),(9,i),(10,j),(11,k),(12,m),(13,n),(14,o),(15,p),(16,q),(17,r),(18,s),(19,t),(20,u),(21,v),(22,w),(23,x),(24,y),(25,z),(26,A),(27,B),(28,C),(30,D),(31,E),(32,F),(33,G),(35,H),(63,I),(81,J),(82,K),(83,L),(96,M),(97,N),(98,O),(99,P),(135,Q),(154,R),(158,S),(159,T),(160,U),(161,V),(186,W),(200,X),(201,Y),(202,Z),(212,a1),(219,b1),(220,c1),(221,n1),(222,e1),(236,f1),(240,g1),(241,h1),(242,i1),(243,j1),(259,k1)] := by intros; rfl
         refine R_nil (tr ..) ?_; clear tr
         refine then_n ?_
         exact ⟨_, _, ⟨v + 1, n2, _, _, _, rfl, rfl, by omega, by first | exact ct_T hn2 ⟨by omega, by omega⟩ | exact ct_F hn2 (fun hh => by have h1 := hh.1; have h2 := hh.2; omega), by exact qc, by exact q21, by exact .inr ⟨by omega, bo, rfl, hbo, qo⟩⟩, by rfl, by omega⟩
       ·
        try simp only [decide_eq_true_eq, decide_eq_false_iff_not, Bool.not_eq_true', Bool.not_eq_false', beq_iff_eq, beq_eq_false_iff_ne, ne_eq] at h15
        refine at_exit rfl ?_
        refine then_x ?_
        refine then_x ?_
        refine blk_x ?_
        refine then_n ?_
        refine at_seq rfl ?_
        refine at_seq rfl ?_
        refine rg rfl ?_
        refine Rq ?_
        refine Rq ?_
        refine Rq ?_
        have tr : ∀ a b c d e f g h i j k m n o p q r s t u v w x y z A B C D E F G H I J K L M N O P Q R S T U V W X Y Z a1 b1 c1 d1 e1 f1 g1 h1 i1 j1 k1 m1 n1 o1 : AV, let l := lc_reserve_law a b c d e f g h i j k m n o p q r s t u v w x y z A B C D E F G H I J K L M N O P Q R S T U V W X Y Z a1 b1 c1 d1 e1 f1 g1 h1 i1 j1 k1; trim ((242,o1)::(241,n1)::(240,m1)::l) l = [(0,a),(1,b),(2,c),(4,d),(5,e),(6,f),(7,g),(8,h),(9,i),(10,j),(11,k),(12,m),(13,n),(14,o),(15,p),(16,q),(17,r),(18,s),(19,t),(20,u),(21,v),(22,w),(23,x),(24,y),(25,z),(26,A),(27,B),(28,C),(30,D),(31,E),(32,F),(33,G),(35,H),(63,I),(81,J),(82,K),(83,L),(96,M),(97,N),(98,O),(99,P),(135,Q),(154,R),(158,S),(159,T),(160,U),(161,V),(186,W),(200,X),(201,Y),(202,Z),(212,a1),(219,b1),(220,c1),(221,d1),(222,e1),(236,f1),(240,m1),(241,n1),(242,o1),(243,j1),(259,k1)] := by intros; rfl
        refine R_nil (tr ..) ?_; clear tr
        refine then_n ?_
        refine at_block rfl ?_
        refine loop_n rfl (fun mm kv H' => ∃ c : Nat, ∃ s0 : Int, ∃ x31 x32 x33 x243 x259 : AV, (kv = [(28, AV.i s0), (31, x31), (32, x32), (33, x33), (242, AV.i c), (243, x243), (259, x259)]) ∧ (mm = D.length - c) ∧ (c ≤ D.length) ∧ (s0 = rm D first wa wb c) ∧ (hget H' HX.length = some (D.map AV.i)) ∧ (hget H' HQ.length = some [AV.i wa, AV.i wb])) ⟨0, 0, _, _, _, _, _, rfl, rfl, by omega, by rfl, by exact qc, by exact q21⟩ (by rfl) ?_
        rintro mm kv HO ⟨c, s0, x31, x32, x33, x243, x259, rfl, rfl, hc, hs0, qc, q21⟩
        have tr : ∀ a b c d e f g h i j k m n o p q r s t u v w x y z A B C D E F G H I J K L M N O P Q R S T U V W X Y Z a1 b1 c1 d1 e1 f1 g1 h1 i1 j1 k1 m1 n1 o1 p1 q1 r1 s1 : AV, upd [(0,a),(1,b),(2,c),(4,d),(5,e),(6,f),(7,g),(8,h),(9,i),(10,j),(11,k),(12,m),(13,n),(14,o),(15,p),(16,q),(17,r),(18,s),(19,t),(20,u),(21,v),(22,w),(23,x),(24,y),(25,z),(26,A),(27,B),(28,C),(30,D),(31,E),(32,F),(33,G),(35,H),(63,I),(81,J),(82,K),(83,L),(96,M),(97,N),(98,O),(99,P),(135,Q),(154,R),(158,S),(159,T),(160,U),(161,V),(186,W),(200,X),(201,Y),(202,Z),(212,a1),(219,b1),(220,c1),(221,d1),(222,e1),(236,f1),(240,g1),(241,h1),(242,i1),(243,j1),(259,k1)] [(28,m1),(31,n1),(32,o1),(33,p1),(242,q1),(243,r1),(259,s1)] = [(0,a),(1,b),(2,c),(4,d),(5,e),(6,f),(7,g),(8,h),(9,i),(10,j),(11,k),(12,m),(13,n),(14,o),(15,p),(16,q),(17,r),(18,s),(19,t),(20,u),(21,v),(22,w),(23,x),(24,y),(25,z),(26,A),(27,B),(28,m1),(30,D),(31,n1),(32,o1),(33,p1),(35,H),(63,I),(81,J),(82,K),(83,L),(96,M),(97,N),(98,O),(99,P),(135,Q),(154,R),(158,S),(159,T),(160,U),(161,V),(186,W),(200,X),(201,Y),(202,Z),(212,a1),(219,b1),(220,c1),(221,d1),(222,e1),(236,f1),(240,g1),(241,h1),(242,q1),(243,r1),(259,s1)] := by intros; rfl
        refine W_to (tr ..) ?_; clear tr
        have hsb := rm_box h01 (first := first) (a := wa) (b := wb) c hc
        rewrite [← hs0] at hsb
        refine at_seq rfl ?_
        refine rg rfl ?_
        refine Rq ?_
        have tr : ∀ a b c d e f g h i j k m n o p q r s t u v w x y z A B C D E F G H I J K L M N O P Q R S T U V W X Y Z a1 b1 c1 d1 e1 f1 g1 h1 i1 j1 k1 m1 : AV, let l := lc_reserve_law a b c d e f g h i j k m n o p q r s t u v w x y z A B C D E F G H I J K L M N O P Q R S T U V W X Y Z a1 b1 c1 d1 e1 f1 g1 h1 i1 j1 k1; trim ((243,m1)::l) l = [(0,a),(1,b),(2,c),(4,d),(5,e),(6,f),(7,g),(8,h),(9,i),(10,j),(11,k),(12,m),(13,n),(14,o),(15,p),(16,q),(17,r),(18,s),(19,t),(20,u),(21,v),(22,w),(23,x),(24,y),(25,z),(26,A),(27,B),(28,C),(30,D),(31,E),(32,F),(33,G),(35,H),(63,I),(81,J),(82,K),(83,L),(96,M),(97,N),(98,O),(99,P),(135,Q),(154,R),(158,S),(159,T),(160,U),(161,V),(186,W),(200,X),(201,Y),(202,Z),(212,a1),(219,b1),(220,c1),(221,d1),(222,e1),(236,f1),(240,g1),(241,h1),(242,i1),(243,m1),(259,k1)] := by intros; rfl
        refine R_nil (tr ..) ?_; clear tr
        refine then_n ?_
        refine at_seq rfl ?_
        refine cdd (fun h18 => ?_) (fun h18 => ?_)
        ·
         try simp only [decide_eq_true_eq, decide_eq_false_iff_not, Bool.not_eq_true', Bool.not_eq_false', beq_iff_eq, beq_eq_false_iff_ne, ne_eq] at h18
         refine at_skip rfl ?_
         refine then_n ?_
         refine at_seq rfl ?_
         refine at_block rfl ?_
         refine at_seq rfl ?_
         refine rg rfl ?_
         refine Rq ?_
         refine Rq ?_
         have hcv := h01 c (by omega)
         refine R_q (r := AV.i (gt D c)) rfl (by simp (disch := first | omega | (simp only [List.length_map, List.length_append, List.length_set, List.length_cons, List.length_nil]; omega)) only [go_sem, ↓reduceIte, Nat.reduceEqDiff, reduceCtorEq, q4, q5, qc, qu] <;> exact ints_at D c (by omega)) ?_
         refine Rq ?_
         refine Rq ?_
         have tr : ∀ a b c d e f g h i j k m n o p q r s t u v w x y z A B C D E F G H I J K L M N O P Q R S T U V W X Y Z a1 b1 c1 d1 e1 f1 g1 h1 i1 j1 k1 m1 n1 o1 p1 q1 : AV, let l := lc_reserve_law a b c d e f g h i j k m n o p q r s t u v w x y z A B C D E F G H I J K L M N O P Q R S T U V W X Y Z a1 b1 c1 d1 e1 f1 g1 h1 i1 j1 k1; trim ((32,q1)::(31,p1)::(246,o1)::(245,n1)::(244,m1)::l) l = [(0,a),(1,b),(2,c),(4,d),(5,e),(6,f),(7,g),(8,h),(9,i),(10,j),(11,k),(12,m),(13,n),(14,o),(15,p),(16,q),(17,r),(18,s),(19,t),(20,u),(21,v),(22,w),(23,x),(24,y),(25,z),(26,A),(27,B),(28,C),(30,D),(31,p1),(32,q1),(33,G),(35,H),(63,I),(81,J),(82,K),(83,L),(96,M),(97,N),(98,O),(99,P),(135,Q),(154,R),(158,S),(159,T),(160,U),(161,V),(186,W),(200,X),(201,Y),(202,Z),(212,a1),(219,b1),(220,c1),(221,d1),(222,e1),(236,f1),(240,g1),(241,h1),(242,i1),(243,j1),(259,k1)] := by intros; rfl
         refine R_nil (tr ..) ?_; clear tr
         refine then_n ?_
         refine at_seq rfl ?_
         refine rg rfl ?_
         refine Rq ?_
         refine Rq ?_
         refine Rq ?_
         refine Rq ?_
         have tr : ∀ a b c d e f g h i j k m n o p q r s t u v w x y z A B C D E F G H I J K L M N O P Q R S T U V W X Y Z a1 b1 c1 d1 e1 f1 g1 h1 i1 j1 k1 m1 n1 o1 p1 : AV, let l := lc_reserve_law a b c d e f g h i j k m n o p q r s t u v w x y z A B C D E F G H I J K L M N O P Q R S T U V W X Y Z a1 b1 c1 d1 e1 f1 g1 h1 i1 j1 k1; trim ((33,p1)::(249,o1)::(248,n1)::(247,m1)::l) l = [(0,a),(1,b),(2,c),(4,d),(5,e),(6,f),(7,g),(8,h),(9,i),(10,j),(11,k),(12,m),(13,n),(14,o),(15,p),(16,q),(17,r),(18,s),(19,t),(20,u),(21,v),(22,w),(23,x),(24,y),(25,z),(26,A),(27,B),(28,C),(30,D),(31,E),(32,F),(33,p1),(35,H),(63,I),(81,J),(82,K),(83,L),(96,M),(97,N),(98,O),(99,P),(135,Q),(154,R),(158,S),(159,T),(160,U),(161,V),(186,W),(200,X),(201,Y),(202,Z),(212,a1),(219,b1),(220,c1),(221,d1),(222,e1),(236,f1),(240,g1),(241,h1),(242,i1),(243,j1),(259,k1)] := by intros; rfl
         refine R_nil (tr ..) ?_; clear tr
         refine then_n ?_
         refine at_seq rfl ?_
         refine rg rfl ?_
         refine Rq ?_
         refine Rq ?_
         refine R_q rfl (by simp (disch := first | omega | (simp only [List.length_map, List.length_append, List.length_set, List.length_cons, List.length_nil]; omega)) only [go_sem, ↓reduceIte, Nat.reduceEqDiff, reduceCtorEq, q4, q5, qc, qu, q18, q21, q25, q30, qj, qo, hsz]; rfl) ?_
         refine Rq ?_
         refine Rq ?_
         refine Rp_split (fun h19 => ?_) (fun h19 => ?_)
         ·
          try simp only [decide_eq_true_eq, decide_eq_false_iff_not, Bool.not_eq_true', Bool.not_eq_false', beq_iff_eq, beq_eq_false_iff_ne, ne_eq] at h19
          refine Ry ?_
          refine Rq ?_
          refine Ry ?_
          refine Rq ?_
          refine Ry ?_
          refine R_q rfl (by simp (disch := first | omega | (simp only [List.length_map, List.length_append, List.length_set, List.length_cons, List.length_nil]; omega)) only [go_sem, ↓reduceIte, Nat.reduceEqDiff, reduceCtorEq, q4, q5, qc, qu, q18, q21, q25, q30, qj, qo, hsz]; rfl) ?_
          refine Ry ?_
          refine Rq ?_
          refine Rq ?_
          have tr : ∀ a b c d e f g h i j k m n o p q r s t u v w x y z A B C D E F G H I J K L M N O P Q R S T U V W X Y Z a1 b1 c1 d1 e1 f1 g1 h1 i1 j1 k1 m1 n1 o1 p1 q1 r1 s1 t1 u1 v1 : AV, let l := lc_reserve_law a b c d e f g h i j k m n o p q r s t u v w x y z A B C D E F G H I J K L M N O P Q R S T U V W X Y Z a1 b1 c1 d1 e1 f1 g1 h1 i1 j1 k1; trim ((259,v1)::(258,u1)::(257,t1)::(256,s1)::(255,r1)::(254,q1)::(253,p1)::(252,o1)::(251,n1)::(250,m1)::l) l = [(0,a),(1,b),(2,c),(4,d),(5,e),(6,f),(7,g),(8,h),(9,i),(10,j),(11,k),(12,m),(13,n),(14,o),(15,p),(16,q),(17,r),(18,s),(19,t),(20,u),(21,v),(22,w),(23,x),(24,y),(25,z),(26,A),(27,B),(28,C),(30,D),(31,E),(32,F),(33,G),(35,H),(63,I),(81,J),(82,K),(83,L),(96,M),(97,N),(98,O),(99,P),(135,Q),(154,R),(158,S),(159,T),(160,U),(161,V),(186,W),(200,X),(201,Y),(202,Z),(212,a1),(219,b1),(220,c1),(221,d1),(222,e1),(236,f1),(240,g1),(241,h1),(242,i1),(243,j1),(259,v1)] := by intros; rfl
          refine R_nil (tr ..) ?_; clear tr
          refine then_n ?_
          refine cdd (fun h20 => ?_) (fun h20 => ?_)
          ·
           try simp only [decide_eq_true_eq, decide_eq_false_iff_not, Bool.not_eq_true', Bool.not_eq_false', beq_iff_eq, beq_eq_false_iff_ne, ne_eq] at h20
           refine rg rfl ?_
           refine Rq ?_
           refine Rq ?_
           refine Rq ?_
           refine Rq ?_
           have tr : ∀ a b c d e f g h i j k m n o p q r s t u v w x y z A B C D E F G H I J K L M N O P Q R S T U V W X Y Z a1 b1 c1 d1 e1 f1 g1 h1 i1 j1 k1 m1 n1 o1 p1 : AV, let l := lc_reserve_law a b c d e f g h i j k m n o p q r s t u v w x y z A B C D E F G H I J K L M N O P Q R S T U V W X Y Z a1 b1 c1 d1 e1 f1 g1 h1 i1 j1 k1; trim ((28,p1)::(262,o1)::(261,n1)::(260,m1)::l) l = [(0,a),(1,b),(2,c),(4,d),(5,e),(6,f),(7,g),(8,h),(9,i),(10,j),(11,k),(12,m),(13,n),(14,o),(15,p),(16,q),(17,r),(18,s),(19,t),(20,u),(21,v),(22,w),(23,x),(24,y),(25,z),(26,A),(27,B),(28,p1),(30,D),(31,E),(32,F),(33,G),(35,H),(63,I),(81,J),(82,K),(83,L),(96,M),(97,N),(98,O),(99,P),(135,Q),(154,R),(158,S),(159,T),(160,U),(161,V),(186,W),(200,X),(201,Y),(202,Z),(212,a1),(219,b1),(220,c1),(221,d1),(222,e1),(236,f1),(240,g1),(241,h1),(242,i1),(243,j1),(259,k1)] := by intros; rfl
           refine R_nil (tr ..) ?_; clear tr
           refine blk_n ?_
           refine then_n ?_
           refine rg rfl ?_
           refine Rq ?_
           refine Rq ?_
           have tr : ∀ a b c d e f g h i j k m n o p q r s t u v w x y z A B C D E F G H I J K L M N O P Q R S T U V W X Y Z a1 b1 c1 d1 e1 f1 g1 h1 i1 j1 k1 m1 n1 : AV, let l := lc_reserve_law a b c d e f g h i j k m n o p q r s t u v w x y z A B C D E F G H I J K L M N O P Q R S T U V W X Y Z a1 b1 c1 d1 e1 f1 g1 h1 i1 j1 k1; trim ((242,n1)::(263,m1)::l) l = [(0,a),(1,b),(2,c),(4,d),(5,e),(6,f),(7,g),(8,h),(9,i),(10,j),(11,k),(12,m),(13,n),(14,o),(15,p),(16,q),(17,r),(18,s),(19,t),(20,u),(21,v),(22,w),(23,x),(24,y),(25,z),(26,A),(27,B),(28,C),(30,D),(31,E),(32,F),(33,G),(35,H),(63,I),(81,J),(82,K),(83,L),(96,M),(97,N),(98,O),(99,P),(135,Q),(154,R),(158,S),(159,T),(160,U),(161,V),(186,W),(200,X),(201,Y),(202,Z),(212,a1),(219,b1),(220,c1),(221,d1),(222,e1),(236,f1),(240,g1),(241,h1),(242,n1),(243,j1),(259,k1)] := by intros; rfl
           refine R_nil (tr ..) ?_; clear tr
           refine then_n ?_
           exact ⟨_, _, ⟨c + 1, s0 + gt D c, _, _, _, _, _, rfl, rfl, by omega, by first | exact rm_T hs0 (by omega) (by omega) | exact rm_F hs0 (fun hh => by have h1 := hh.1; have h2 := hh.2; omega), by exact qc, by exact q21⟩, by rfl, by omega⟩
          ·
           try simp only [decide_eq_true_eq, decide_eq_false_iff_not, Bool.not_eq_true', Bool.not_eq_false', beq_iff_eq, beq_eq_false_iff_ne, ne_eq] at h20
           refine at_skip rfl ?_
           refine blk_n ?_
           refine then_n ?_
           refine rg rfl ?_
           refine Rq ?_
           refine Rq ?_
           have tr : ∀ a b c d e f g h i j k m n o p q r s t u v w x y z A B C D E F G H I J K L M N O P Q R S T U V W X Y Z a1 b1 c1 d1 e1 f1 g1 h1 i1 j1 k1 m1 n1 : AV, let l := lc_reserve_law a b c d e f g h i j k m n o p q r s t u v w x y z A B C D E F G H I J K L M N O P Q R S T U V W X Y Z a1 b1 c1 d1 e1 f1 g1 h1 i1 j1 k1; trim ((242,n1)::(263,m1)::l) l = [(0,a),(1,b),(2,c),(4,d),(5,e),(6,f),(7,g),(8,h),(9,i),(10,j),(11,k),(12,m),(13,n),(14,o),(15,p),(16,q),(17,r),(18,s),(19,t),(20,u),(21,v),(22,w),(23,x),(24,y),(25,z),(26,A),(27,B),(28,C),(30,D),(31,E),(32,F),(33,G),(35,H),(63,I),(81,J),(82,K),(83,L),(96,M),(97,N),(98,O),(99,P),(135,Q),(154,R),(158,S),(159,T),(160,U),(161,V),(186,W),(200,X),(201,Y),(202,Z),(212,a1),(219,b1),(220,c1),(221,d1),(222,e1),(236,f1),(240,g1),(241,h1),(242,n1),(243,j1),(259,k1)] := by intros; rfl
           refine R_nil (tr ..) ?_; clear tr
           refine then_n ?_
           exact ⟨_, _, ⟨c + 1, s0, _, _, _, _, _, rfl, rfl, by omega, by first | exact rm_T hs0 (by omega) (by omega) | exact rm_F hs0 (fun hh => by have h1 := hh.1; have h2 := hh.2; omega), by exact qc, by exact q21⟩, by rfl, by omega⟩
         ·
          try simp only [decide_eq_true_eq, decide_eq_false_iff_not, Bool.not_eq_true', Bool.not_eq_false', beq_iff_eq, beq_eq_false_iff_ne, ne_eq] at h19
          refine Rn ?_
          refine Rn ?_
          refine Rn ?_
          refine Rn ?_
          refine Rq ?_
          have tr : ∀ a b c d e f g h i j k m n o p q r s t u v w x y z A B C D E F G H I J K L M N O P Q R S T U V W X Y Z a1 b1 c1 d1 e1 f1 g1 h1 i1 j1 k1 m1 n1 o1 p1 q1 r1 s1 t1 u1 v1 : AV, let l := lc_reserve_law a b c d e f g h i j k m n o p q r s t u v w x y z A B C D E F G H I J K L M N O P Q R S T U V W X Y Z a1 b1 c1 d1 e1 f1 g1 h1 i1 j1 k1; trim ((259,v1)::(258,u1)::(257,t1)::(256,s1)::(255,r1)::(254,q1)::(253,p1)::(252,o1)::(251,n1)::(250,m1)::l) l = [(0,a),(1,b),(2,c),(4,d),(5,e),(6,f),(7,g),(8,h),(9,i),(10,j),(11,k),(12,m),(13,n),(14,o),(15,p),(16,q),(17,r),(18,s),(19,t),(20,u),(21,v),(22,w),(23,x),(24,y),(25,z),(26,A),(27,B),(28,C),(30,D),(31,E),(32,F),(33,G),(35,H),(63,I),(81,J),(82,K),(83,L),(96,M),(97,N),(98,O),(99,P),(135,Q),(154,R),(158,S),(159,T),(160,U),(161,V),(186,W),(200,X),(201,Y),(202,Z),(212,a1),(219,b1),(220,c1),(221,d1),(222,e1),(236,f1),(240,g1),(241,h1),(242,i1),(243,j1),(259,v1)] := by intros; rfl
          refine R_nil (tr ..) ?_; clear tr
          refine then_n ?_
          refine cdf ?_
          refine at_skip rfl ?_
          refine blk_n ?_
          refine then_n ?_
          refine rg rfl ?_
          refine Rq ?_
          refine Rq ?_
          have tr : ∀ a b c d e f g h i j k m n o p q r s t u v w x y z A B C D E F G H I J K L M N O P Q R S T U V W X Y Z a1 b1 c1 d1 e1 f1 g1 h1 i1 j1 k1 m1 n1 : AV, let l := lc_reserve_law a b c d e f g h i j k m n o p q r s t u v w x y z A B C D E F G H I J K L M N O P Q R S T U V W X Y Z a1 b1 c1 d1 e1 f1 g1 h1 i1 j1 k1; trim ((242,n1)::(263,m1)::l) l = [(0,a),(1,b),(2,c),(4,d),(5,e),(6,f),(7,g),(8,h),(9,i),(10,j),(11,k),(12,m),(13,n),(14,o),(15,p),(16,q),(17,r),(18,s),(19,t),(20,u),(21,v),(22,w),(23,x),(24,y),(25,z),(26,A),(27,B),(28,C),(30,D),(31,E),(32,F),(33,G),(35,H),(63,I),(81,J),(82,K),(83,L),(96,M),(97,N),(98,O),(99,P),(135,Q),(154,R),(158,S),(159,T),(160,U),(161,V),(186,W),(200,X),(201,Y),(202,Z),(212,a1),(219,b1),(220,c1),(221,d1),(222,e1),(236,f1),(240,g1),(241,h1),(242,n1),(243,j1),(259,k1)] := by intros; rfl
          refine R_nil (tr ..) ?_; clear tr
          refine then_n ?_
          exact ⟨_, _, ⟨c + 1, s0, _, _, _, _, _, rfl, rfl, by omega, by first | exact rm_T hs0 (by omega) (by omega) | exact rm_F hs0 (fun hh => by have h1 := hh.1; have h2 := hh.2; omega), by exact qc, by exact q21⟩, by rfl, by omega⟩
        ·
         try simp only [decide_eq_true_eq, decide_eq_false_iff_not, Bool.not_eq_true', Bool.not_eq_false', beq_iff_eq, beq_eq_false_iff_ne, ne_eq] at h18
         refine at_exit rfl ?_
         refine then_x ?_
         refine then_x ?_
         refine blk_x ?_
         refine then_n ?_
         refine at_seq rfl ?_
         refine rg rfl ?_
         refine Rq ?_
         refine Rq ?_
         refine Rq ?_
         refine Rp_split (fun h21 => ?_) (fun h21 => ?_)
         ·
          try simp only [decide_eq_true_eq, decide_eq_false_iff_not, Bool.not_eq_true', Bool.not_eq_false', beq_iff_eq, beq_eq_false_iff_ne, ne_eq] at h21
          refine Ry ?_
          refine Rq ?_
          refine Ry ?_
          refine Rq ?_
          refine Ry ?_
          refine Rq ?_
          refine Rq ?_
          refine Rq ?_
          have tr : ∀ a b c d e f g h i j k m n o p q r s t u v w x y z A B C D E F G H I J K L M N O P Q R S T U V W X Y Z a1 b1 c1 d1 e1 f1 g1 h1 i1 j1 k1 m1 n1 o1 p1 q1 r1 s1 t1 : AV, let l := lc_reserve_law a b c d e f g h i j k m n o p q r s t u v w x y z A B C D E F G H I J K L M N O P Q R S T U V W X Y Z a1 b1 c1 d1 e1 f1 g1 h1 i1 j1 k1; trim ((6,t1)::(270,s1)::(269,r1)::(268,q1)::(267,p1)::(266,o1)::(265,n1)::(264,m1)::l) l = [(0,a),(1,b),(2,c),(4,d),(5,e),(6,t1),(7,g),(8,h),(9,i),(10,j),(11,k),(12,m),(13,n),(14,o),(15,p),(16,q),(17,r),(18,s),(19,t),(20,u),(21,v),(22,w),(23,x),(24,y),(25,z),(26,A),(27,B),(28,C),(30,D),(31,E),(32,F),(33,G),(35,H),(63,I),(81,J),(82,K),(83,L),(96,M),(97,N),(98,O),(99,P),(135,Q),(154,R),(158,S),(159,T),(160,U),(161,V),(186,W),(200,X),(201,Y),(202,Z),(212,a1),(219,b1),(220,c1),(221,d1),(222,e1),(236,f1),(240,g1),(241,h1),(242,i1),(243,j1),(259,k1)] := by intros; rfl
          refine R_nil (tr ..) ?_; clear tr
          refine then_n ?_
          refine at_ret rfl ?_
          refine fpure ?_
          first | rfl | (simp [dys_len]; done) | (refine congrArg (fun z => AV.v (.bool z)) (decide_eq_true ?_); have hvv := hvw.2; rw [hs0, hn2, show c = D.length by omega, show v = J.length by omega]; exact hvv)
         ·
          try simp only [decide_eq_true_eq, decide_eq_false_iff_not, Bool.not_eq_true', Bool.not_eq_false', beq_iff_eq, beq_eq_false_iff_ne, ne_eq] at h21
          omega

end Go.Proofs.Ytkjgmpjnhfmecaa
