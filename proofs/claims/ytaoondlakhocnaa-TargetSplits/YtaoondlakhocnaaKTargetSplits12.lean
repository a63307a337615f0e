/-
  Texts of TargetSplits, part 13 of 14. Walks of chapters 37, 39 and 40. The steps are written by program (walk.py).
-/
import Derived.Test.YtaoondlakhocnaaKTargetSplits9
import Derived.Test.YtaoondlakhocnaaKTargetSplits10
import Derived.Test.YtaoondlakhocnaaKTargetSplits11
import Derived.Test.YtaoondlakhocnaaKTargetSplits3
import Derived.ProofKit
import Derived.ChangeArms
import Derived.DataReads
import Derived.OpenShut
import Derived.WideShapes
section
set_option linter.unusedSimpArgs false
set_option linter.unusedVariables false
set_option maxHeartbeats 40000000
set_option maxRecDepth 4000
namespace Go.Proofs.Ytaoondlakhocnaa
open Go Go.Am

abbrev lc_tsplits_t (a b c d e f g h i j k m n o p q r s t u v w x y z A B : AV) : Env := [(0,a),(1,b),(2,c),(3,d),(4,e),(6,f),(7,g),(8,h),(9,i),(10,j),(11,k),(12,m),(13,n),(14,o),(15,p),(16,q),(17,r),(18,s),(19,t),(20,u),(22,v),(25,w),(29,x),(42,y),(43,z),(61,A),(66,B)]
theorem tsplits_t (lim : Nat) (H : Heap) (rows : Tb) (per tot wth balls : Int) (l m : List Stp) (i t n : Int) : ACall sig lim 15 [.agg [rowsAV rows, AV.i per, AV.i tot, AV.i wth, AV.i balls, stopsAV l, stopsAV m], .agg [AV.i i, AV.i t, AV.i n], .v (.bool true)] H fun r _ => r = .v (.bool true) := by
 have q3 : True := trivial
 have q4 : True := trivial
 have q7 : True := trivial
 refine ACall_pure (fa := fa15) rfl rfl rfl rfl ?_
 have tr : ∀ a0 a1 a2 : AV, env0 fa15.keep [a0, a1, a2] = [(0,a0),(1,a1),(2,a2),(3,.any),(4,.any),(6,.any),(7,.any),(8,.any),(9,.any),(10,.any),(11,.any),(12,.any),(13,.any),(14,.any),(15,.any),(16,.any),(17,.any),(18,.any),(19,.any),(20,.any),(22,.any),(25,.any),(29,.any),(42,.any),(43,.any),(61,.any),(66,.any)] := fun a0 a1 a2 => rfl
 refine W_to (tr _ _ _) ?_; clear tr
 refine at_seq rfl ?_
 refine rg rfl ?_
 refine A_box rfl (by simp (disch := first | omega | (simp only [List.length_map, List.length_append, List.length_set, List.length_cons, List.length_nil]; omega)) only [go_sem, ↓reduceIte, Nat.reduceEqDiff, reduceCtorEq] <;> rfl) ?_
 intro H1 n1
 have en1 := n1.len
 have q3 := n1.new
 refine A_box rfl (by simp (disch := first | omega | (simp only [List.length_map, List.length_append, List.length_set, List.length_cons, List.length_nil]; omega)) only [go_sem, ↓reduceIte, Nat.reduceEqDiff, reduceCtorEq, q3] <;> rfl) ?_
 intro H2 n2
 have en2 := n2.len
 have q3 := (n2.old _ (hget_lt q3)).trans q3
 have q4 := n2.new
 refine Rq ?_
 have tr : ∀ a b c d e f g h i j k m n o p q r s t u v w x y z A B C D E : AV, let l := lc_tsplits_t a b c d e f g h i j k m n o p q r s t u v w x y z A B; trim ((6,E)::(4,D)::(3,C)::l) l = [(0,a),(1,b),(2,c),(3,C),(4,D),(6,E),(7,g),(8,h),(9,i),(10,j),(11,k),(12,m),(13,n),(14,o),(15,p),(16,q),(17,r),(18,s),(19,t),(20,u),(22,v),(25,w),(29,x),(42,y),(43,z),(61,A),(66,B)] := by intros; rfl
 refine R_nil (tr ..) ?_; clear tr
 refine then_n ?_
 refine at_seq rfl ?_
 refine at_seq rfl ?_
 refine rg rfl ?_
 refine Rcall ?_
 refine ACall_eval 300 (awake40 _ _) ?_
 refine Rq ?_
 have tr : ∀ a b c d e f g h i j k m n o p q r s t u v w x y z A B C D : AV, let l := lc_tsplits_t a b c d e f g h i j k m n o p q r s t u v w x y z A B; trim ((22,D)::(21,C)::l) l = [(0,a),(1,b),(2,c),(3,d),(4,e),(6,f),(7,g),(8,h),(9,i),(10,j),(11,k),(12,m),(13,n),(14,o),(15,p),(16,q),(17,r),(18,s),(19,t),(20,u),(22,D),(25,w),(29,x),(42,y),(43,z),(61,A),(66,B)] := by intros; rfl
 refine R_nil (tr ..) ?_; clear tr
 refine then_n ?_
 refine cdf ?_
 refine at_skip rfl ?_
 refine then_n ?_
 refine at_seq rfl ?_
 refine at_seq rfl ?_
 refine rg rfl ?_
 refine R_q rfl (by simp (disch := first | omega | (simp only [List.length_map, List.length_append, List.length_set, List.length_cons, List.length_nil]; omega)) only [go_sem, ↓reduceIte, Nat.reduceEqDiff, reduceCtorEq, q3, q4, q7] <;> rfl) ?_
 refine Rcall ?_
 refine ACall_mono (small40_len _ _ rows per tot wth balls l m) ?_
 rintro r H6 ⟨⟨b, rfl, hbl⟩, rfl⟩
 refine Rq ?_
 have tr : ∀ a b c d e f g h i j k m n o p q r s t u v w x y z A B C D E : AV, let l := lc_tsplits_t a b c d e f g h i j k m n o p q r s t u v w x y z A B; trim ((25,E)::(24,D)::(23,C)::l) l = [(0,a),(1,b),(2,c),(3,d),(4,e),(6,f),(7,g),(8,h),(9,i),(10,j),(11,k),(12,m),(13,n),(14,o),(15,p),(16,q),(17,r),(18,s),(19,t),(20,u),(22,v),(25,E),(29,x),(42,y),(43,z),(61,A),(66,B)] := by intros; rfl
 refine R_nil (tr ..) ?_; clear tr
 refine then_n ?_
 refine cdd (fun h1 => ?_) (fun h1 => ?_)
 ·
  try simp only [decide_eq_true_eq, decide_eq_false_iff_not, Bool.not_eq_true', Bool.not_eq_false', beq_iff_eq, beq_eq_false_iff_ne, ne_eq] at h1
  refine at_seq rfl ?_
  refine rg rfl ?_
  refine Rq ?_
  have tr : ∀ a b c d e f g h i j k m n o p q r s t u v w x y z A B C : AV, let l := lc_tsplits_t a b c d e f g h i j k m n o p q r s t u v w x y z A B; trim ((6,C)::l) l = [(0,a),(1,b),(2,c),(3,d),(4,e),(6,C),(7,g),(8,h),(9,i),(10,j),(11,k),(12,m),(13,n),(14,o),(15,p),(16,q),(17,r),(18,s),(19,t),(20,u),(22,v),(25,w),(29,x),(42,y),(43,z),(61,A),(66,B)] := by intros; rfl
  refine R_nil (tr ..) ?_; clear tr
  refine then_n ?_
  refine at_ret rfl ?_
  refine then_r ?_
  refine fpure ?_
  first | rfl | (simp; done)
 ·
  try simp only [decide_eq_true_eq, decide_eq_false_iff_not, Bool.not_eq_true', Bool.not_eq_false', beq_iff_eq, beq_eq_false_iff_ne, ne_eq] at h1
  refine at_skip rfl ?_
  refine then_n ?_
  refine at_seq rfl ?_
  refine rl rfl rfl ?_
  obtain ⟨hl20, hm20⟩ := hbl (by assumption)
  refine L_q rfl (by simp (disch := first | omega | (simp only [List.length_map, List.length_append, List.length_set, List.length_cons, List.length_nil]; omega)) only [go_sem, ↓reduceIte, Nat.reduceEqDiff, reduceCtorEq, q3, q4, q7] <;> rfl) rfl ?_
  refine Lq ?_
  refine L_q rfl (by simp (disch := first | omega | (simp only [List.length_map, List.length_append, List.length_set, List.length_cons, List.length_nil]; omega)) only [go_sem, ↓reduceIte, Nat.reduceEqDiff, reduceCtorEq, q3, q4, q7] <;> rfl) rfl ?_
  refine L_nil ?_
  refine Ms ?_
  refine A_alloc rfl ?_
  intro H3 n3
  have en3 := n3.len
  have q3 := (n3.old _ (hget_lt q3)).trans q3
  have q4 := (n3.old _ (hget_lt q4)).trans q4
  have q7 := n3.new
  refine R_end ?_
  refine Ms ?_ (wrC_store (by simp (disch := first | omega | (simp only [List.length_map, List.length_append, List.length_set, List.length_cons, List.length_nil]; omega)) only [go_sem, ↓reduceIte, Nat.reduceEqDiff, reduceCtorEq, q3, q4, q7] <;> rfl) (by simp only [rdV, isLoad, go_sem, ↓reduceIte, Nat.reduceEqDiff, List.mem_cons, List.not_mem_nil, or_false, List.append_nil, List.nil_append, List.cons_append, not_or]; omega))
  have lq3 := hget_lt q3
  have lq4 := hget_lt q4
  have lq7 := hget_lt q7
  refine A_store ty27 (by simp (disch := first | omega | (simp only [List.length_map, List.length_append, List.length_set, List.length_cons, List.length_nil]; omega)) only [go_sem, ↓reduceIte, Nat.reduceEqDiff, reduceCtorEq, q3, q4, q7] <;> rfl) (by simp (disch := first | omega | (simp only [List.length_map, List.length_append, List.length_set, List.length_cons, List.length_nil]; omega)) only [go_sem, ↓reduceIte, Nat.reduceEqDiff, reduceCtorEq, q3, q4, q7] <;> rfl) q7 ⟨by omega, rfl, by first | exact Nat.le_refl _ | (show _ ≤ 7; decide)⟩ (k' := [rowsAV rows, AV.i per, AV.i tot, AV.i wth, AV.i balls, stopsAV l, stopsAV m]) rfl ?_
  intro H4 w4
  have ew4 := w4.len
  have q3 := (w4.old _ (by omega)).trans q3
  have q4 := (w4.old _ (by omega)).trans q4
  have q7 := w4.new
  refine R_end ?_
  refine M_nil ?_
  refine Rq ?_
  have tr : ∀ a b c d e f g h i j k m n o p q r s t u v w x y z A B C D E F G : AV, let l := lc_tsplits_t a b c d e f g h i j k m n o p q r s t u v w x y z A B; trim ((8,G)::(7,F)::(28,E)::(27,D)::(26,C)::l) l = [(0,a),(1,b),(2,c),(3,d),(4,e),(6,f),(7,F),(8,G),(9,i),(10,j),(11,k),(12,m),(13,n),(14,o),(15,p),(16,q),(17,r),(18,s),(19,t),(20,u),(22,v),(25,w),(29,x),(42,y),(43,z),(61,A),(66,B)] := by intros; rfl
  refine R_nil (tr ..) ?_; clear tr
  refine then_n ?_
  refine at_seq rfl ?_
  refine at_seq rfl ?_
  refine rg rfl ?_
  refine Rq ?_
  have tr : ∀ a b c d e f g h i j k m n o p q r s t u v w x y z A B C : AV, let l := lc_tsplits_t a b c d e f g h i j k m n o p q r s t u v w x y z A B; trim ((29,C)::l) l = [(0,a),(1,b),(2,c),(3,d),(4,e),(6,f),(7,g),(8,h),(9,i),(10,j),(11,k),(12,m),(13,n),(14,o),(15,p),(16,q),(17,r),(18,s),(19,t),(20,u),(22,v),(25,w),(29,C),(42,y),(43,z),(61,A),(66,B)] := by intros; rfl
  refine R_nil (tr ..) ?_; clear tr
  refine then_n ?_
  refine cdd (fun h2 => ?_) (fun h2 => ?_)
  ·
   try simp only [decide_eq_true_eq, decide_eq_false_iff_not, Bool.not_eq_true', Bool.not_eq_false', beq_iff_eq, beq_eq_false_iff_ne, ne_eq] at h2
   refine rg rfl ?_
   refine Rq ?_
   refine R_q rfl (by simp (disch := first | omega | (simp only [List.length_map, List.length_append, List.length_set, List.length_cons, List.length_nil]; omega)) only [go_sem, ↓reduceIte, Nat.reduceEqDiff, reduceCtorEq, q3, q4, q7] <;> rfl) ?_
   refine Rq ?_
   have tr : ∀ a b c d e f g h i j k m n o p q r s t u v w x y z A B C D E : AV, let l := lc_tsplits_t a b c d e f g h i j k m n o p q r s t u v w x y z A B; trim ((8,E)::(31,D)::(30,C)::l) l = [(0,a),(1,b),(2,c),(3,d),(4,e),(6,f),(7,g),(8,E),(9,i),(10,j),(11,k),(12,m),(13,n),(14,o),(15,p),(16,q),(17,r),(18,s),(19,t),(20,u),(22,v),(25,w),(29,x),(42,y),(43,z),(61,A),(66,B)] := by intros; rfl
   refine R_nil (tr ..) ?_; clear tr
   refine then_n ?_
   refine at_seq rfl ?_
   refine rg rfl ?_
   refine Rq ?_
   refine Rq ?_
   refine R_q rfl (by simp (disch := first | omega | (simp only [List.length_map, List.length_append, List.length_set, List.length_cons, List.length_nil]; omega)) only [go_sem, ↓reduceIte, Nat.reduceEqDiff, reduceCtorEq, q3, q4, q7] <;> rfl) ?_
   refine Rq ?_
   refine R_q rfl (by simp (disch := first | omega | (simp only [List.length_map, List.length_append, List.length_set, List.length_cons, List.length_nil]; omega)) only [go_sem, ↓reduceIte, Nat.reduceEqDiff, reduceCtorEq, q3, q4, q7] <;> rfl) ?_
   refine Rcall ?_
   refine ACall_eq (split_ok _ _ m i t) ?_
   refine Rq ?_
   refine Rq ?_
   refine Rq ?_
   refine Rq ?_
   refine Rq ?_
   have tr : ∀ a b c d e f g h i j k m n o p q r s t u v w x y z A B C D E F G H I J K L M : AV, let l := lc_tsplits_t a b c d e f g h i j k m n o p q r s t u v w x y z A B; trim ((10,M)::(9,L)::(40,K)::(39,J)::(32,I)::(38,H)::(37,G)::(36,F)::(35,E)::(34,D)::(33,C)::l) l = [(0,a),(1,b),(2,c),(3,d),(4,e),(6,f),(7,g),(8,h),(9,L),(10,M),(11,k),(12,m),(13,n),(14,o),(15,p),(16,q),(17,r),(18,s),(19,t),(20,u),(22,v),(25,w),(29,x),(42,y),(43,z),(61,A),(66,B)] := by intros; rfl
   refine R_nil (tr ..) ?_; clear tr
   refine then_n ?_
   refine at_seq rfl ?_
   refine at_seq rfl ?_
   refine rg rfl ?_
   refine Rq ?_
   refine Rq ?_
   have tr : ∀ a b c d e f g h i j k m n o p q r s t u v w x y z A B C D : AV, let l := lc_tsplits_t a b c d e f g h i j k m n o p q r s t u v w x y z A B; trim ((42,D)::(41,C)::l) l = [(0,a),(1,b),(2,c),(3,d),(4,e),(6,f),(7,g),(8,h),(9,i),(10,j),(11,k),(12,m),(13,n),(14,o),(15,p),(16,q),(17,r),(18,s),(19,t),(20,u),(22,v),(25,w),(29,x),(42,D),(43,z),(61,A),(66,B)] := by intros; rfl
   refine R_nil (tr ..) ?_; clear tr
   refine then_n ?_
   refine cdd (fun h3 => ?_) (fun h3 => ?_)
   ·
    try simp only [decide_eq_true_eq, decide_eq_false_iff_not, Bool.not_eq_true', Bool.not_eq_false', beq_iff_eq, beq_eq_false_iff_ne, ne_eq] at h3
    refine at_seq rfl ?_
    refine rg rfl ?_
    refine Rq ?_
    have tr : ∀ a b c d e f g h i j k m n o p q r s t u v w x y z A B C : AV, let l := lc_tsplits_t a b c d e f g h i j k m n o p q r s t u v w x y z A B; trim ((6,C)::l) l = [(0,a),(1,b),(2,c),(3,d),(4,e),(6,C),(7,g),(8,h),(9,i),(10,j),(11,k),(12,m),(13,n),(14,o),(15,p),(16,q),(17,r),(18,s),(19,t),(20,u),(22,v),(25,w),(29,x),(42,y),(43,z),(61,A),(66,B)] := by intros; rfl
    refine R_nil (tr ..) ?_; clear tr
    refine then_n ?_
    refine at_ret rfl ?_
    refine then_r ?_
    refine fpure ?_
    first | rfl | (simp; done)
   ·
    try simp only [decide_eq_true_eq, decide_eq_false_iff_not, Bool.not_eq_true', Bool.not_eq_false', beq_iff_eq, beq_eq_false_iff_ne, ne_eq] at h3
    refine at_skip rfl ?_
    refine then_n ?_
    refine at_seq rfl ?_
    refine at_seq rfl ?_
    refine rg rfl ?_
    have hz : splE m i t = 0 := by assumption
    rewrite [splA_0 hz]
    refine Rq ?_
    have tr : ∀ a b c d e f g h i j k m n o p q r s t u v w x y z A B C : AV, let l := lc_tsplits_t a b c d e f g h i j k m n o p q r s t u v w x y z A B; trim ((43,C)::l) l = [(0,a),(1,b),(2,c),(3,d),(4,e),(6,f),(7,g),(8,h),(9,i),(10,j),(11,k),(12,m),(13,n),(14,o),(15,p),(16,q),(17,r),(18,s),(19,t),(20,u),(22,v),(25,w),(29,x),(42,y),(43,C),(61,A),(66,B)] := by intros; rfl
    refine R_nil (tr ..) ?_; clear tr
    refine then_n ?_
    refine cdd (fun h4 => ?_) (fun h4 => ?_)
    ·
     try simp only [decide_eq_true_eq, decide_eq_false_iff_not, Bool.not_eq_true', Bool.not_eq_false', beq_iff_eq, beq_eq_false_iff_ne, ne_eq] at h4
     refine rg rfl ?_
     refine Rq ?_
     refine Rq ?_
     have lq3 := hget_lt q3
     have lq4 := hget_lt q4
     have lq7 := hget_lt q7
     refine A_store ty25 (by simp (disch := first | omega | (simp only [List.length_map, List.length_append, List.length_set, List.length_cons, List.length_nil]; omega)) only [go_sem, ↓reduceIte, Nat.reduceEqDiff, reduceCtorEq, q3, q4, q7] <;> rfl) (by simp (disch := first | omega | (simp only [List.length_map, List.length_append, List.length_set, List.length_cons, List.length_nil]; omega)) only [go_sem, ↓reduceIte, Nat.reduceEqDiff, reduceCtorEq, q3, q4, q7] <;> rfl) q7 ⟨by omega, rfl, by first | exact Nat.le_refl _ | (show _ ≤ 7; decide)⟩ (k' := [rowsAV rows, AV.i per, AV.i tot, AV.i wth, AV.i balls, stopsAV l, stopsAV (spl m i.toNat t)]) rfl ?_
     intro H5 w5
     have ew5 := w5.len
     have q3 := (w5.old _ (by omega)).trans q3
     have q4 := (w5.old _ (by omega)).trans q4
     have q7 := w5.new
     have tr : ∀ a b c d e f g h i j k m n o p q r s t u v w x y z A B C D : AV, let l := lc_tsplits_t a b c d e f g h i j k m n o p q r s t u v w x y z A B; trim ((45,D)::(44,C)::l) l = [(0,a),(1,b),(2,c),(3,d),(4,e),(6,f),(7,g),(8,h),(9,i),(10,j),(11,k),(12,m),(13,n),(14,o),(15,p),(16,q),(17,r),(18,s),(19,t),(20,u),(22,v),(25,w),(29,x),(42,y),(43,z),(61,A),(66,B)] := by intros; rfl
     refine R_nil (tr ..) ?_; clear tr
     refine then_n ?_
     refine at_seq rfl ?_
     refine rg rfl ?_
     refine R_q rfl (by simp (disch := first | omega | (simp only [List.length_map, List.length_append, List.length_set, List.length_cons, List.length_nil]; omega)) only [go_sem, ↓reduceIte, Nat.reduceEqDiff, reduceCtorEq, q3, q4, q7] <;> rfl) ?_
     refine Rcall ?_
     refine ACall_eq (of_gen _ _ rows per tot wth balls (stopsAV l) (stopsAV m) rfl rfl rfl rfl (fun _ => frz_stops _ _ _ _) (fun _ => frz_stops _ _ _ _)) ?_
     refine Rcall ?_
     refine ACall_eq (tgt_ok _ _ rows per tot wth balls l m) ?_
     refine Rq ?_
     refine Rq ?_
     refine Rq ?_
     refine Rq ?_
     refine Rq ?_
     have tr : ∀ a b c d e f g h i j k m n o p q r s t u v w x y z A B C D E F G H I J : AV, let l := lc_tsplits_t a b c d e f g h i j k m n o p q r s t u v w x y z A B; trim ((12,J)::(11,I)::(53,H)::(52,G)::(48,F)::(51,E)::(50,D)::(49,C)::l) l = [(0,a),(1,b),(2,c),(3,d),(4,e),(6,f),(7,g),(8,h),(9,i),(10,j),(11,I),(12,J),(13,n),(14,o),(15,p),(16,q),(17,r),(18,s),(19,t),(20,u),(22,v),(25,w),(29,x),(42,y),(43,z),(61,A),(66,B)] := by intros; rfl
     refine R_nil (tr ..) ?_; clear tr
     refine then_n ?_
     refine at_seq rfl ?_
     refine rg rfl ?_
     refine R_q rfl (by simp (disch := first | omega | (simp only [List.length_map, List.length_append, List.length_set, List.length_cons, List.length_nil]; omega)) only [go_sem, ↓reduceIte, Nat.reduceEqDiff, reduceCtorEq, q3, q4, q7] <;> rfl) ?_
     refine Rcall ?_
     refine ACall_eq (of_gen _ _ rows per tot wth balls (stopsAV l) (stopsAV (spl m i.toNat t)) rfl rfl rfl rfl (fun _ => frz_stops _ _ _ _) (fun _ => frz_stops _ _ _ _)) ?_
     refine Rcall ?_
     refine ACall_eq (tgt_ok _ _ rows per tot wth balls l (spl m i.toNat t)) ?_
     refine Rq ?_
     refine Rq ?_
     refine Rq ?_
     refine Rq ?_
     refine Rq ?_
     have tr : ∀ a b c d e f g h i j k m n o p q r s t u v w x y z A B C D E F G H I J : AV, let l := lc_tsplits_t a b c d e f g h i j k m n o p q r s t u v w x y z A B; trim ((14,J)::(13,I)::(59,H)::(58,G)::(54,F)::(57,E)::(56,D)::(55,C)::l) l = [(0,a),(1,b),(2,c),(3,d),(4,e),(6,f),(7,g),(8,h),(9,i),(10,j),(11,k),(12,m),(13,I),(14,J),(15,p),(16,q),(17,r),(18,s),(19,t),(20,u),(22,v),(25,w),(29,x),(42,y),(43,z),(61,A),(66,B)] := by intros; rfl
     refine R_nil (tr ..) ?_; clear tr
     refine then_n ?_
     refine at_seq rfl ?_
     refine at_seq rfl ?_
     refine rg rfl ?_
     refine Rq ?_
     refine Rq ?_
     have tr : ∀ a b c d e f g h i j k m n o p q r s t u v w x y z A B C D : AV, let l := lc_tsplits_t a b c d e f g h i j k m n o p q r s t u v w x y z A B; trim ((61,D)::(60,C)::l) l = [(0,a),(1,b),(2,c),(3,d),(4,e),(6,f),(7,g),(8,h),(9,i),(10,j),(11,k),(12,m),(13,n),(14,o),(15,p),(16,q),(17,r),(18,s),(19,t),(20,u),(22,v),(25,w),(29,x),(42,y),(43,z),(61,D),(66,B)] := by intros; rfl
     refine R_nil (tr ..) ?_; clear tr
     refine then_n ?_
     refine cdd (fun h5 => ?_) (fun h5 => ?_)
     ·
      try simp only [decide_eq_true_eq, decide_eq_false_iff_not, Bool.not_eq_true', Bool.not_eq_false', beq_iff_eq, beq_eq_false_iff_ne, ne_eq] at h5
      refine at_seq rfl ?_
      refine rg rfl ?_
      refine Rq ?_
      have tr : ∀ a b c d e f g h i j k m n o p q r s t u v w x y z A B C : AV, let l := lc_tsplits_t a b c d e f g h i j k m n o p q r s t u v w x y z A B; trim ((6,C)::l) l = [(0,a),(1,b),(2,c),(3,d),(4,e),(6,C),(7,g),(8,h),(9,i),(10,j),(11,k),(12,m),(13,n),(14,o),(15,p),(16,q),(17,r),(18,s),(19,t),(20,u),(22,v),(25,w),(29,x),(42,y),(43,z),(61,A),(66,B)] := by intros; rfl
      refine R_nil (tr ..) ?_; clear tr
      refine then_n ?_
      refine at_ret rfl ?_
      refine then_r ?_
      refine fpure ?_
      first | rfl | (simp; done)
     ·
      try simp only [decide_eq_true_eq, decide_eq_false_iff_not, Bool.not_eq_true', Bool.not_eq_false', beq_iff_eq, beq_eq_false_iff_ne, ne_eq] at h5
      refine at_skip rfl ?_
      refine then_n ?_
      refine at_seq rfl ?_
      refine rg rfl ?_
      have hf : (tgtS rows per tot wth balls l m).2 = 0 := by assumption
      rewrite [tgt_spl2 hf hz]
      refine Rq ?_
      have tr : ∀ a b c d e f g h i j k m n o p q r s t u v w x y z A B C : AV, let l := lc_tsplits_t a b c d e f g h i j k m n o p q r s t u v w x y z A B; trim ((15,C)::l) l = [(0,a),(1,b),(2,c),(3,d),(4,e),(6,f),(7,g),(8,h),(9,i),(10,j),(11,k),(12,m),(13,n),(14,o),(15,C),(16,q),(17,r),(18,s),(19,t),(20,u),(22,v),(25,w),(29,x),(42,y),(43,z),(61,A),(66,B)] := by intros; rfl
      refine R_nil (tr ..) ?_; clear tr
      refine then_n ?_
      refine at_seq rfl ?_
      refine at_seq rfl ?_
      refine rg rfl ?_
      refine Rq ?_
      refine R_q rfl (by simp (disch := first | omega | (simp only [List.length_map, List.length_append, List.length_set, List.length_cons, List.length_nil]; omega)) only [go_sem, ↓reduceIte, Nat.reduceEqDiff, reduceCtorEq, q3, q4, q7] <;> rfl) ?_
      refine Rq ?_
      refine Rq ?_
      have tr : ∀ a b c d e f g h i j k m n o p q r s t u v w x y z A B C D E F : AV, let l := lc_tsplits_t a b c d e f g h i j k m n o p q r s t u v w x y z A B; trim ((16,F)::(64,E)::(63,D)::(62,C)::l) l = [(0,a),(1,b),(2,c),(3,d),(4,e),(6,f),(7,g),(8,h),(9,i),(10,j),(11,k),(12,m),(13,n),(14,o),(15,p),(16,F),(17,r),(18,s),(19,t),(20,u),(22,v),(25,w),(29,x),(42,y),(43,z),(61,A),(66,B)] := by intros; rfl
      refine R_nil (tr ..) ?_; clear tr
      refine then_n ?_
      refine at_seq rfl ?_
      refine rg rfl ?_
      refine Rq ?_
      refine Rq ?_
      have tr : ∀ a b c d e f g h i j k m n o p q r s t u v w x y z A B C D : AV, let l := lc_tsplits_t a b c d e f g h i j k m n o p q r s t u v w x y z A B; trim ((66,D)::(65,C)::l) l = [(0,a),(1,b),(2,c),(3,d),(4,e),(6,f),(7,g),(8,h),(9,i),(10,j),(11,k),(12,m),(13,n),(14,o),(15,p),(16,q),(17,r),(18,s),(19,t),(20,u),(22,v),(25,w),(29,x),(42,y),(43,z),(61,A),(66,D)] := by intros; rfl
      refine R_nil (tr ..) ?_; clear tr
      refine then_n ?_
      refine cdd (fun h6 => ?_) (fun h6 => ?_)
      ·
       try simp only [decide_eq_true_eq, decide_eq_false_iff_not, Bool.not_eq_true', Bool.not_eq_false', beq_iff_eq, beq_eq_false_iff_ne, ne_eq] at h6
       refine rg rfl ?_
       refine Rq ?_
       refine R_q rfl (by simp (disch := first | omega | (simp only [List.length_map, List.length_append, List.length_set, List.length_cons, List.length_nil]; omega)) only [go_sem, ↓reduceIte, Nat.reduceEqDiff, reduceCtorEq, q3, q4, q7] <;> rfl) ?_
       refine Rq ?_
       refine R_q (r := AV.i ((m.length - 1 : Nat) : Int)) rfl (by simp (disch := first | omega | (simp only [List.length_map, List.length_append, List.length_set, List.length_cons, List.length_nil]; omega)) only [go_sem, ↓reduceIte, Nat.reduceEqDiff, reduceCtorEq] <;> exact congrArg (fun z => some (AV.i z)) (by omega)) ?_
       refine Rq ?_
       refine Rq ?_
       refine R_q rfl (by simp (disch := first | omega | (simp only [List.length_map, List.length_append, List.length_set, List.length_cons, List.length_nil]; omega)) only [go_sem, ↓reduceIte, Nat.reduceEqDiff, reduceCtorEq, q3, q4, q7] <;> rfl) ?_
       refine Rq ?_
       have tr : ∀ a b c d e f g h i j k m n o p q r s t u v w x y z A B C D E F G H I J : AV, let l := lc_tsplits_t a b c d e f g h i j k m n o p q r s t u v w x y z A B; trim ((15,J)::(73,I)::(72,H)::(71,G)::(70,F)::(69,E)::(68,D)::(67,C)::l) l = [(0,a),(1,b),(2,c),(3,d),(4,e),(6,f),(7,g),(8,h),(9,i),(10,j),(11,k),(12,m),(13,n),(14,o),(15,J),(16,q),(17,r),(18,s),(19,t),(20,u),(22,v),(25,w),(29,x),(42,y),(43,z),(61,A),(66,B)] := by intros; rfl
       refine R_nil (tr ..) ?_; clear tr
       refine then_n ?_
       refine at_seq rfl ?_
       refine rls2 rfl rfl ?_
       refine L_q rfl (by simp (disch := first | omega | (simp only [List.length_map, List.length_append, List.length_set, List.length_cons, List.length_nil]; omega)) only [go_sem, ↓reduceIte, Nat.reduceEqDiff, reduceCtorEq, q3, q4, q7] <;> rfl) rfl ?_
       refine Lq ?_
       refine L_q rfl (by simp (disch := first | omega | (simp only [List.length_map, List.length_append, List.length_set, List.length_cons, List.length_nil]; omega)) only [go_sem, ↓reduceIte, Nat.reduceEqDiff, reduceCtorEq, q3, q4, q7] <;> rfl) rfl ?_
       refine Lq ?_
       refine L_nil ?_
       refine Rcall ?_
       refine ACall_eq (of_gen _ _ rows per tot wth balls (stopsAV l) (stopsAV m) rfl rfl rfl rfl (fun _ => frz_stops _ _ _ _) (fun _ => frz_stops _ _ _ _)) ?_
       refine Rcall ?_
       refine ACall_eq (pat_ok _ _ rows per tot wth balls l m n _) ?_
       refine Rq ?_
       refine Rq ?_
       refine Rq ?_
       refine Rq ?_
       refine R_end ⟨?_, ?_⟩
       ·
        refine ⟨?_, ?_⟩
        ·
         refine Rcall ?_
         refine ACall_eq (of_gen _ _ rows per tot wth balls (stopsAV l) (stopsAV m) rfl rfl rfl rfl (fun _ => frz_stops _ _ _ _) (fun _ => frz_stops _ _ _ _)) ?_
         refine Rcall ?_
         refine ACall_eq (pat_ok _ _ rows per tot wth balls l m n _) ?_
         refine Rq ?_
         refine Rq ?_
         refine Rq ?_
         refine Rq ?_
         refine R_end ?_
         refine same_H ?_
         intro t2 ht
         simp only [List.mem_cons, List.not_mem_nil, or_false] at ht
         rcases ht with rfl | rfl <;> (simp only [get_cons, put_some, ↓reduceIte, Nat.reduceEqDiff]; rfl)
        refine ⟨?_, ?_⟩
        ·
         refine Rcall ?_
         refine ACall_eq (of_gen _ _ rows per tot wth balls (stopsAV l) (stopsAV m) rfl rfl rfl rfl (fun _ => frz_stops _ _ _ _) (fun _ => frz_stops _ _ _ _)) ?_
         refine Rcall ?_
         refine ACall_eq (pat_ok _ _ rows per tot wth balls l m n _) ?_
         refine Rq ?_
         refine Rq ?_
         refine Rq ?_
         refine Rq ?_
         refine R_end ?_
         refine same_H ?_
         intro t2 ht
         simp only [List.mem_cons, List.not_mem_nil, or_false] at ht
         rcases ht with rfl | rfl <;> (simp only [get_cons, put_some, ↓reduceIte, Nat.reduceEqDiff]; rfl)
        exact trivial
       rewrite [keep_all (fun i hi => .inl hi)]
       refine Rp_env (e' := [(82, _), (17, _), (75, .any), (76, .any), (77, .any), (78, .any), (79, .any), (80, .any), (74, .any), (81, .any), (82, .any), (17, .any), (18, .any), (0, _), (1, _), (2, _), (3, _), (4, _), (6, _), (7, _), (8, _), (9, _), (10, _), (11, _), (12, _), (13, _), (14, _), (15, _), (16, _), (17, _), (18, _), (19, _), (20, _), (22, _), (25, _), (29, _), (42, _), (43, _), (61, _), (66, _)]) rfl ?_
       simp only [put_some, get_cons, ↓reduceIte, Nat.reduceEqDiff]
       refine Rq ?_
       have tr : ∀ a b c d e f g h i j k m n o p q r s t u v w x y z A B C D E F G H I J K L M N O P : AV, let l := lc_tsplits_t a b c d e f g h i j k m n o p q r s t u v w x y z A B; trim ((18,P)::(82,O)::(17,N)::(75,M)::(76,L)::(77,K)::(78,J)::(79,I)::(80,H)::(74,G)::(81,F)::(82,E)::(17,D)::(18,C)::l) l = [(0,a),(1,b),(2,c),(3,d),(4,e),(6,f),(7,g),(8,h),(9,i),(10,j),(11,k),(12,m),(13,n),(14,o),(15,p),(16,q),(17,N),(18,P),(19,t),(20,u),(22,v),(25,w),(29,x),(42,y),(43,z),(61,A),(66,B)] := by intros; rfl
       refine R_nil (tr ..) ?_; clear tr
       refine then_n ?_
       refine at_seq rfl ?_
       refine rls2 rfl rfl ?_
       refine L_q rfl (by simp (disch := first | omega | (simp only [List.length_map, List.length_append, List.length_set, List.length_cons, List.length_nil]; omega)) only [go_sem, ↓reduceIte, Nat.reduceEqDiff, reduceCtorEq, q3, q4, q7] <;> rfl) rfl ?_
       refine Lq ?_
       refine L_q rfl (by simp (disch := first | omega | (simp only [List.length_map, List.length_append, List.length_set, List.length_cons, List.length_nil]; omega)) only [go_sem, ↓reduceIte, Nat.reduceEqDiff, reduceCtorEq, q3, q4, q7] <;> rfl) rfl ?_
       refine Lq ?_
       refine L_nil ?_
       refine Rcall ?_
       refine ACall_eq (of_gen _ _ rows per tot wth balls (stopsAV l) (stopsAV (spl m i.toNat t)) rfl rfl rfl rfl (fun _ => frz_stops _ _ _ _) (fun _ => frz_stops _ _ _ _)) ?_
       refine Rcall ?_
       refine ACall_eq (pat_ok _ _ rows per tot wth balls l (spl m i.toNat t) n _) ?_
       rewrite [pat_spl2 hf hz]
       refine Rq ?_
       refine Rq ?_
       refine Rq ?_
       refine Rq ?_
       refine R_end ⟨?_, ?_⟩
       ·
        refine ⟨?_, ?_⟩
        ·
         refine Rcall ?_
         refine ACall_eq (of_gen _ _ rows per tot wth balls (stopsAV l) (stopsAV (spl m i.toNat t)) rfl rfl rfl rfl (fun _ => frz_stops _ _ _ _) (fun _ => frz_stops _ _ _ _)) ?_
         refine Rcall ?_
         refine ACall_eq (pat_ok _ _ rows per tot wth balls l (spl m i.toNat t) n _) ?_
         rewrite [pat_spl2 hf hz]
         refine Rq ?_
         refine Rq ?_
         refine Rq ?_
         refine Rq ?_
         refine R_end ?_
         refine same_H ?_
         intro t2 ht
         simp only [List.mem_cons, List.not_mem_nil, or_false] at ht
         rcases ht with rfl | rfl <;> (simp only [get_cons, put_some, ↓reduceIte, Nat.reduceEqDiff]; rfl)
        refine ⟨?_, ?_⟩
        ·
         refine Rcall ?_
         refine ACall_eq (of_gen _ _ rows per tot wth balls (stopsAV l) (stopsAV (spl m i.toNat t)) rfl rfl rfl rfl (fun _ => frz_stops _ _ _ _) (fun _ => frz_stops _ _ _ _)) ?_
         refine Rcall ?_
         refine ACall_eq (pat_ok _ _ rows per tot wth balls l (spl m i.toNat t) n _) ?_
         rewrite [pat_spl2 hf hz]
         refine Rq ?_
         refine Rq ?_
         refine Rq ?_
         refine Rq ?_
         refine R_end ?_
         refine same_H ?_
         intro t2 ht
         simp only [List.mem_cons, List.not_mem_nil, or_false] at ht
         rcases ht with rfl | rfl <;> (simp only [get_cons, put_some, ↓reduceIte, Nat.reduceEqDiff]; rfl)
        exact trivial
       rewrite [keep_all (fun i hi => .inl hi)]
       refine Rp_env (e' := [(91, _), (19, _), (84, .any), (85, .any), (86, .any), (87, .any), (88, .any), (89, .any), (83, .any), (90, .any), (91, .any), (19, .any), (20, .any), (0, _), (1, _), (2, _), (3, _), (4, _), (6, _), (7, _), (8, _), (9, _), (10, _), (11, _), (12, _), (13, _), (14, _), (15, _), (16, _), (17, _), (18, _), (19, _), (20, _), (22, _), (25, _), (29, _), (42, _), (43, _), (61, _), (66, _)]) rfl ?_
       simp only [put_some, get_cons, ↓reduceIte, Nat.reduceEqDiff]
       refine Rq ?_
       have tr : ∀ a b c d e f g h i j k m n o p q r s t u v w x y z A B C D E F G H I J K L M N O P : AV, let l := lc_tsplits_t a b c d e f g h i j k m n o p q r s t u v w x y z A B; trim ((20,P)::(91,O)::(19,N)::(84,M)::(85,L)::(86,K)::(87,J)::(88,I)::(89,H)::(83,G)::(90,F)::(91,E)::(19,D)::(20,C)::l) l = [(0,a),(1,b),(2,c),(3,d),(4,e),(6,f),(7,g),(8,h),(9,i),(10,j),(11,k),(12,m),(13,n),(14,o),(15,p),(16,q),(17,r),(18,s),(19,N),(20,P),(22,v),(25,w),(29,x),(42,y),(43,z),(61,A),(66,B)] := by intros; rfl
       refine R_nil (tr ..) ?_; clear tr
       refine then_n ?_
       refine at_seq rfl ?_
       refine rg rfl ?_
       refine Rq ?_
       refine Rq ?_
       refine Rq ?_
       refine Rp_split (fun h7 => ?_) (fun h7 => ?_)
       ·
        try simp only [decide_eq_true_eq, decide_eq_false_iff_not, Bool.not_eq_true', Bool.not_eq_false', beq_iff_eq, beq_eq_false_iff_ne, ne_eq] at h7
        refine Ry ?_
        refine Rq ?_
        refine Ry ?_
        refine Rq ?_
        refine Ry ?_
        refine Rq ?_
        refine Rq ?_
        refine Rq ?_
        refine Rp_split (fun h8 => ?_) (fun h8 => ?_)
        ·
         try simp only [decide_eq_true_eq, decide_eq_false_iff_not, Bool.not_eq_true', Bool.not_eq_false', beq_iff_eq, beq_eq_false_iff_ne, ne_eq] at h8
         refine Ry ?_
         refine Rq ?_
         refine Ry ?_
         refine Rq ?_
         refine Ry ?_
         refine Rq ?_
         refine Rq ?_
         refine Rq ?_
         refine Rp_split (fun h9 => ?_) (fun h9 => ?_)
         ·
          try simp only [decide_eq_true_eq, decide_eq_false_iff_not, Bool.not_eq_true', Bool.not_eq_false', beq_iff_eq, beq_eq_false_iff_ne, ne_eq] at h9
          refine Ry ?_
          refine Rq ?_
          refine Ry ?_
          refine Rq ?_
          refine Ry ?_
          refine Rq ?_
          refine Rq ?_
          refine Rq ?_
          have tr : ∀ a b c d e f g h i j k m n o p q r s t u v w x y z A B C D E F G H I J K L M N O P Q R S T : AV, let l := lc_tsplits_t a b c d e f g h i j k m n o p q r s t u v w x y z A B; trim ((6,T)::(108,S)::(107,R)::(106,Q)::(105,P)::(104,O)::(103,N)::(102,M)::(101,L)::(100,K)::(99,J)::(98,I)::(97,H)::(96,G)::(95,F)::(94,E)::(93,D)::(92,C)::l) l = [(0,a),(1,b),(2,c),(3,d),(4,e),(6,T),(7,g),(8,h),(9,i),(10,j),(11,k),(12,m),(13,n),(14,o),(15,p),(16,q),(17,r),(18,s),(19,t),(20,u),(22,v),(25,w),(29,x),(42,y),(43,z),(61,A),(66,B)] := by intros; rfl
          refine R_nil (tr ..) ?_; clear tr
          refine then_n ?_
          refine at_ret rfl ?_
          refine fpure ?_
          first | rfl | (simp; done)
         ·
          try simp only [decide_eq_true_eq, decide_eq_false_iff_not, Bool.not_eq_true', Bool.not_eq_false', beq_iff_eq, beq_eq_false_iff_ne, ne_eq] at h9
          first | omega | contradiction | exact absurd rfl (by assumption) | exact absurd trivial (by assumption)
        ·
         try simp only [decide_eq_true_eq, decide_eq_false_iff_not, Bool.not_eq_true', Bool.not_eq_false', beq_iff_eq, beq_eq_false_iff_ne, ne_eq] at h8
         first | omega | contradiction | exact absurd rfl (by assumption) | exact absurd trivial (by assumption)
       ·
        try simp only [decide_eq_true_eq, decide_eq_false_iff_not, Bool.not_eq_true', Bool.not_eq_false', beq_iff_eq, beq_eq_false_iff_ne, ne_eq] at h7
        exact absurd hf (by assumption)
      ·
       try simp only [decide_eq_true_eq, decide_eq_false_iff_not, Bool.not_eq_true', Bool.not_eq_false', beq_iff_eq, beq_eq_false_iff_ne, ne_eq] at h6
       refine at_skip rfl ?_
       refine then_n ?_
       refine at_seq rfl ?_
       refine rls2 rfl rfl ?_
       refine L_q rfl (by simp (disch := first | omega | (simp only [List.length_map, List.length_append, List.length_set, List.length_cons, List.length_nil]; omega)) only [go_sem, ↓reduceIte, Nat.reduceEqDiff, reduceCtorEq, q3, q4, q7] <;> rfl) rfl ?_
       refine Lq ?_
       refine L_q rfl (by simp (disch := first | omega | (simp only [List.length_map, List.length_append, List.length_set, List.length_cons, List.length_nil]; omega)) only [go_sem, ↓reduceIte, Nat.reduceEqDiff, reduceCtorEq, q3, q4, q7] <;> rfl) rfl ?_
       refine Lq ?_
       refine L_nil ?_
       refine Rcall ?_
       refine ACall_eq (of_gen _ _ rows per tot wth balls (stopsAV l) (stopsAV m) rfl rfl rfl rfl (fun _ => frz_stops _ _ _ _) (fun _ => frz_stops _ _ _ _)) ?_
       refine Rcall ?_
       refine ACall_eq (pat_ok _ _ rows per tot wth balls l m n _) ?_
       refine Rq ?_
       refine Rq ?_
       refine Rq ?_
       refine Rq ?_
       refine R_end ⟨?_, ?_⟩
       ·
        refine ⟨?_, ?_⟩
        ·
         refine Rcall ?_
         refine ACall_eq (of_gen _ _ rows per tot wth balls (stopsAV l) (stopsAV m) rfl rfl rfl rfl (fun _ => frz_stops _ _ _ _) (fun _ => frz_stops _ _ _ _)) ?_
         refine Rcall ?_
         refine ACall_eq (pat_ok _ _ rows per tot wth balls l m n _) ?_
         refine Rq ?_
         refine Rq ?_
         refine Rq ?_
         refine Rq ?_
         refine R_end ?_
         refine same_H ?_
         intro t2 ht
         simp only [List.mem_cons, List.not_mem_nil, or_false] at ht
         rcases ht with rfl | rfl <;> (simp only [get_cons, put_some, ↓reduceIte, Nat.reduceEqDiff]; rfl)
        refine ⟨?_, ?_⟩
        ·
         refine Rcall ?_
         refine ACall_eq (of_gen _ _ rows per tot wth balls (stopsAV l) (stopsAV m) rfl rfl rfl rfl (fun _ => frz_stops _ _ _ _) (fun _ => frz_stops _ _ _ _)) ?_
         refine Rcall ?_
         refine ACall_eq (pat_ok _ _ rows per tot wth balls l m n _) ?_
         refine Rq ?_
         refine Rq ?_
         refine Rq ?_
         refine Rq ?_
         refine R_end ?_
         refine same_H ?_
         intro t2 ht
         simp only [List.mem_cons, List.not_mem_nil, or_false] at ht
         rcases ht with rfl | rfl <;> (simp only [get_cons, put_some, ↓reduceIte, Nat.reduceEqDiff]; rfl)
        exact trivial
       rewrite [keep_all (fun i hi => .inl hi)]
       refine Rp_env (e' := [(82, _), (17, _), (75, .any), (76, .any), (77, .any), (78, .any), (79, .any), (80, .any), (74, .any), (81, .any), (82, .any), (17, .any), (18, .any), (0, _), (1, _), (2, _), (3, _), (4, _), (6, _), (7, _), (8, _), (9, _), (10, _), (11, _), (12, _), (13, _), (14, _), (15, _), (16, _), (17, _), (18, _), (19, _), (20, _), (22, _), (25, _), (29, _), (42, _), (43, _), (61, _), (66, _)]) rfl ?_
       simp only [put_some, get_cons, ↓reduceIte, Nat.reduceEqDiff]
       refine Rq ?_
       have tr : ∀ a b c d e f g h i j k m n o p q r s t u v w x y z A B C D E F G H I J K L M N O P : AV, let l := lc_tsplits_t a b c d e f g h i j k m n o p q r s t u v w x y z A B; trim ((18,P)::(82,O)::(17,N)::(75,M)::(76,L)::(77,K)::(78,J)::(79,I)::(80,H)::(74,G)::(81,F)::(82,E)::(17,D)::(18,C)::l) l = [(0,a),(1,b),(2,c),(3,d),(4,e),(6,f),(7,g),(8,h),(9,i),(10,j),(11,k),(12,m),(13,n),(14,o),(15,p),(16,q),(17,N),(18,P),(19,t),(20,u),(22,v),(25,w),(29,x),(42,y),(43,z),(61,A),(66,B)] := by intros; rfl
       refine R_nil (tr ..) ?_; clear tr
       refine then_n ?_
       refine at_seq rfl ?_
       refine rls2 rfl rfl ?_
       refine L_q rfl (by simp (disch := first | omega | (simp only [List.length_map, List.length_append, List.length_set, List.length_cons, List.length_nil]; omega)) only [go_sem, ↓reduceIte, Nat.reduceEqDiff, reduceCtorEq, q3, q4, q7] <;> rfl) rfl ?_
       refine Lq ?_
       refine L_q rfl (by simp (disch := first | omega | (simp only [List.length_map, List.length_append, List.length_set, List.length_cons, List.length_nil]; omega)) only [go_sem, ↓reduceIte, Nat.reduceEqDiff, reduceCtorEq, q3, q4, q7] <;> rfl) rfl ?_
       refine Lq ?_
       refine L_nil ?_
       refine Rcall ?_
       refine ACall_eq (of_gen _ _ rows per tot wth balls (stopsAV l) (stopsAV (spl m i.toNat t)) rfl rfl rfl rfl (fun _ => frz_stops _ _ _ _) (fun _ => frz_stops _ _ _ _)) ?_
       refine Rcall ?_
       refine ACall_eq (pat_ok _ _ rows per tot wth balls l (spl m i.toNat t) n _) ?_
       rewrite [pat_spl2 hf hz]
       refine Rq ?_
       refine Rq ?_
       refine Rq ?_
       refine Rq ?_
       refine R_end ⟨?_, ?_⟩
       ·
        refine ⟨?_, ?_⟩
        ·
         refine Rcall ?_
         refine ACall_eq (of_gen _ _ rows per tot wth balls (stopsAV l) (stopsAV (spl m i.toNat t)) rfl rfl rfl rfl (fun _ => frz_stops _ _ _ _) (fun _ => frz_stops _ _ _ _)) ?_
         refine Rcall ?_
         refine ACall_eq (pat_ok _ _ rows per tot wth balls l (spl m i.toNat t) n _) ?_
         rewrite [pat_spl2 hf hz]
         refine Rq ?_
         refine Rq ?_
         refine Rq ?_
         refine Rq ?_
         refine R_end ?_
         refine same_H ?_
         intro t2 ht
         simp only [List.mem_cons, List.not_mem_nil, or_false] at ht
         rcases ht with rfl | rfl <;> (simp only [get_cons, put_some, ↓reduceIte, Nat.reduceEqDiff]; rfl)
        refine ⟨?_, ?_⟩
        ·
         refine Rcall ?_
         refine ACall_eq (of_gen _ _ rows per tot wth balls (stopsAV l) (stopsAV (spl m i.toNat t)) rfl rfl rfl rfl (fun _ => frz_stops _ _ _ _) (fun _ => frz_stops _ _ _ _)) ?_
         refine Rcall ?_
         refine ACall_eq (pat_ok _ _ rows per tot wth balls l (spl m i.toNat t) n _) ?_
         rewrite [pat_spl2 hf hz]
         refine Rq ?_
         refine Rq ?_
         refine Rq ?_
         refine Rq ?_
         refine R_end ?_
         refine same_H ?_
         intro t2 ht
         simp only [List.mem_cons, List.not_mem_nil, or_false] at ht
         rcases ht with rfl | rfl <;> (simp only [get_cons, put_some, ↓reduceIte, Nat.reduceEqDiff]; rfl)
        exact trivial
       rewrite [keep_all (fun i hi => .inl hi)]
       refine Rp_env (e' := [(91, _), (19, _), (84, .any), (85, .any), (86, .any), (87, .any), (88, .any), (89, .any), (83, .any), (90, .any), (91, .any), (19, .any), (20, .any), (0, _), (1, _), (2, _), (3, _), (4, _), (6, _), (7, _), (8, _), (9, _), (10, _), (11, _), (12, _), (13, _), (14, _), (15, _), (16, _), (17, _), (18, _), (19, _), (20, _), (22, _), (25, _), (29, _), (42, _), (43, _), (61, _), (66, _)]) rfl ?_
       simp only [put_some, get_cons, ↓reduceIte, Nat.reduceEqDiff]
       refine Rq ?_
       have tr : ∀ a b c d e f g h i j k m n o p q r s t u v w x y z A B C D E F G H I J K L M N O P : AV, let l := lc_tsplits_t a b c d e f g h i j k m n o p q r s t u v w x y z A B; trim ((20,P)::(91,O)::(19,N)::(84,M)::(85,L)::(86,K)::(87,J)::(88,I)::(89,H)::(83,G)::(90,F)::(91,E)::(19,D)::(20,C)::l) l = [(0,a),(1,b),(2,c),(3,d),(4,e),(6,f),(7,g),(8,h),(9,i),(10,j),(11,k),(12,m),(13,n),(14,o),(15,p),(16,q),(17,r),(18,s),(19,N),(20,P),(22,v),(25,w),(29,x),(42,y),(43,z),(61,A),(66,B)] := by intros; rfl
       refine R_nil (tr ..) ?_; clear tr
       refine then_n ?_
       refine at_seq rfl ?_
       refine rg rfl ?_
       refine Rq ?_
       refine Rq ?_
       refine Rq ?_
       refine Rp_split (fun h10 => ?_) (fun h10 => ?_)
       ·
        try simp only [decide_eq_true_eq, decide_eq_false_iff_not, Bool.not_eq_true', Bool.not_eq_false', beq_iff_eq, beq_eq_false_iff_ne, ne_eq] at h10
        refine Ry ?_
        refine Rq ?_
        refine Ry ?_
        refine Rq ?_
        refine Ry ?_
        refine Rq ?_
        refine Rq ?_
        refine Rq ?_
        refine Rp_split (fun h11 => ?_) (fun h11 => ?_)
        ·
         try simp only [decide_eq_true_eq, decide_eq_false_iff_not, Bool.not_eq_true', Bool.not_eq_false', beq_iff_eq, beq_eq_false_iff_ne, ne_eq] at h11
         refine Ry ?_
         refine Rq ?_
         refine Ry ?_
         refine Rq ?_
         refine Ry ?_
         refine Rq ?_
         refine Rq ?_
         refine Rq ?_
         refine Rp_split (fun h12 => ?_) (fun h12 => ?_)
         ·
          try simp only [decide_eq_true_eq, decide_eq_false_iff_not, Bool.not_eq_true', Bool.not_eq_false', beq_iff_eq, beq_eq_false_iff_ne, ne_eq] at h12
          refine Ry ?_
          refine Rq ?_
          refine Ry ?_
          refine Rq ?_
          refine Ry ?_
          refine Rq ?_
          refine Rq ?_
          refine Rq ?_
          have tr : ∀ a b c d e f g h i j k m n o p q r s t u v w x y z A B C D E F G H I J K L M N O P Q R S T : AV, let l := lc_tsplits_t a b c d e f g h i j k m n o p q r s t u v w x y z A B; trim ((6,T)::(108,S)::(107,R)::(106,Q)::(105,P)::(104,O)::(103,N)::(102,M)::(101,L)::(100,K)::(99,J)::(98,I)::(97,H)::(96,G)::(95,F)::(94,E)::(93,D)::(92,C)::l) l = [(0,a),(1,b),(2,c),(3,d),(4,e),(6,T),(7,g),(8,h),(9,i),(10,j),(11,k),(12,m),(13,n),(14,o),(15,p),(16,q),(17,r),(18,s),(19,t),(20,u),(22,v),(25,w),(29,x),(42,y),(43,z),(61,A),(66,B)] := by intros; rfl
          refine R_nil (tr ..) ?_; clear tr
          refine then_n ?_
          refine at_ret rfl ?_
          refine fpure ?_
          first | rfl | (simp; done)
         ·
          try simp only [decide_eq_true_eq, decide_eq_false_iff_not, Bool.not_eq_true', Bool.not_eq_false', beq_iff_eq, beq_eq_false_iff_ne, ne_eq] at h12
          first | omega | contradiction | exact absurd rfl (by assumption) | exact absurd trivial (by assumption)
        ·
         try simp only [decide_eq_true_eq, decide_eq_false_iff_not, Bool.not_eq_true', Bool.not_eq_false', beq_iff_eq, beq_eq_false_iff_ne, ne_eq] at h11
         first | omega | contradiction | exact absurd rfl (by assumption) | exact absurd trivial (by assumption)
       ·
        try simp only [decide_eq_true_eq, decide_eq_false_iff_not, Bool.not_eq_true', Bool.not_eq_false', beq_iff_eq, beq_eq_false_iff_ne, ne_eq] at h10
        exact absurd hf (by assumption)
    ·
     try simp only [decide_eq_true_eq, decide_eq_false_iff_not, Bool.not_eq_true', Bool.not_eq_false', beq_iff_eq, beq_eq_false_iff_ne, ne_eq] at h4
     first | omega | contradiction | exact absurd rfl (by assumption) | exact absurd trivial (by assumption)
  ·
   try simp only [decide_eq_true_eq, decide_eq_false_iff_not, Bool.not_eq_true', Bool.not_eq_false', beq_iff_eq, beq_eq_false_iff_ne, ne_eq] at h2
   first | omega | contradiction | exact absurd rfl (by assumption) | exact absurd trivial (by assumption)

abbrev lc_tsplits_f (a b c d e f g h i j k m n o p q r s t u v w x y z A B : AV) : Env := [(0,a),(1,b),(2,c),(3,d),(4,e),(6,f),(7,g),(8,h),(9,i),(10,j),(11,k),(12,m),(13,n),(14,o),(15,p),(16,q),(17,r),(18,s),(19,t),(20,u),(22,v),(25,w),(29,x),(42,y),(43,z),(61,A),(66,B)]
theorem tsplits_f (lim : Nat) (H : Heap) (rows : Tb) (per tot wth balls : Int) (l m : List Stp) (i t n : Int) : ACall sig lim 15 [.agg [rowsAV rows, AV.i per, AV.i tot, AV.i wth, AV.i balls, stopsAV l, stopsAV m], .agg [AV.i i, AV.i t, AV.i n], .v (.bool false)] H fun r _ => r = .v (.bool true) := by
 have q3 : True := trivial
 have q4 : True := trivial
 have q7 : True := trivial
 refine ACall_pure (fa := fa15) rfl rfl rfl rfl ?_
 have tr : ∀ a0 a1 a2 : AV, env0 fa15.keep [a0, a1, a2] = [(0,a0),(1,a1),(2,a2),(3,.any),(4,.any),(6,.any),(7,.any),(8,.any),(9,.any),(10,.any),(11,.any),(12,.any),(13,.any),(14,.any),(15,.any),(16,.any),(17,.any),(18,.any),(19,.any),(20,.any),(22,.any),(25,.any),(29,.any),(42,.any),(43,.any),(61,.any),(66,.any)] := fun a0 a1 a2 => rfl
 refine W_to (tr _ _ _) ?_; clear tr
 refine at_seq rfl ?_
 refine rg rfl ?_
 refine A_box rfl (by simp (disch := first | omega | (simp only [List.length_map, List.length_append, List.length_set, List.length_cons, List.length_nil]; omega)) only [go_sem, ↓reduceIte, Nat.reduceEqDiff, reduceCtorEq] <;> rfl) ?_
 intro H1 n1
 have en1 := n1.len
 have q3 := n1.new
 refine A_box rfl (by simp (disch := first | omega | (simp only [List.length_map, List.length_append, List.length_set, List.length_cons, List.length_nil]; omega)) only [go_sem, ↓reduceIte, Nat.reduceEqDiff, reduceCtorEq, q3] <;> rfl) ?_
 intro H2 n2
 have en2 := n2.len
 have q3 := (n2.old _ (hget_lt q3)).trans q3
 have q4 := n2.new
 refine Rq ?_
 have tr : ∀ a b c d e f g h i j k m n o p q r s t u v w x y z A B C D E : AV, let l := lc_tsplits_f a b c d e f g h i j k m n o p q r s t u v w x y z A B; trim ((6,E)::(4,D)::(3,C)::l) l = [(0,a),(1,b),(2,c),(3,C),(4,D),(6,E),(7,g),(8,h),(9,i),(10,j),(11,k),(12,m),(13,n),(14,o),(15,p),(16,q),(17,r),(18,s),(19,t),(20,u),(22,v),(25,w),(29,x),(42,y),(43,z),(61,A),(66,B)] := by intros; rfl
 refine R_nil (tr ..) ?_; clear tr
 refine then_n ?_
 refine at_seq rfl ?_
 refine at_seq rfl ?_
 refine rg rfl ?_
 refine Rcall ?_
 refine ACall_eval 300 (awake40 _ _) ?_
 refine Rq ?_
 have tr : ∀ a b c d e f g h i j k m n o p q r s t u v w x y z A B C D : AV, let l := lc_tsplits_f a b c d e f g h i j k m n o p q r s t u v w x y z A B; trim ((22,D)::(21,C)::l) l = [(0,a),(1,b),(2,c),(3,d),(4,e),(6,f),(7,g),(8,h),(9,i),(10,j),(11,k),(12,m),(13,n),(14,o),(15,p),(16,q),(17,r),(18,s),(19,t),(20,u),(22,D),(25,w),(29,x),(42,y),(43,z),(61,A),(66,B)] := by intros; rfl
 refine R_nil (tr ..) ?_; clear tr
 refine then_n ?_
 refine cdf ?_
 refine at_skip rfl ?_
 refine then_n ?_
 refine at_seq rfl ?_
 refine at_seq rfl ?_
 refine rg rfl ?_
 refine R_q rfl (by simp (disch := first | omega | (simp only [List.length_map, List.length_append, List.length_set, List.length_cons, List.length_nil]; omega)) only [go_sem, ↓reduceIte, Nat.reduceEqDiff, reduceCtorEq, q3, q4, q7] <;> rfl) ?_
 refine Rcall ?_
 refine ACall_mono (small40_len _ _ rows per tot wth balls l m) ?_
 rintro r H6 ⟨⟨b, rfl, hbl⟩, rfl⟩
 refine Rq ?_
 have tr : ∀ a b c d e f g h i j k m n o p q r s t u v w x y z A B C D E : AV, let l := lc_tsplits_f a b c d e f g h i j k m n o p q r s t u v w x y z A B; trim ((25,E)::(24,D)::(23,C)::l) l = [(0,a),(1,b),(2,c),(3,d),(4,e),(6,f),(7,g),(8,h),(9,i),(10,j),(11,k),(12,m),(13,n),(14,o),(15,p),(16,q),(17,r),(18,s),(19,t),(20,u),(22,v),(25,E),(29,x),(42,y),(43,z),(61,A),(66,B)] := by intros; rfl
 refine R_nil (tr ..) ?_; clear tr
 refine then_n ?_
 refine cdd (fun h1 => ?_) (fun h1 => ?_)
 ·
  try simp only [decide_eq_true_eq, decide_eq_false_iff_not, Bool.not_eq_true', Bool.not_eq_false', beq_iff_eq, beq_eq_false_iff_ne, ne_eq] at h1
  refine at_seq rfl ?_
  refine rg rfl ?_
  refine Rq ?_
  have tr : ∀ a b c d e f g h i j k m n o p q r s t u v w x y z A B C : AV, let l := lc_tsplits_f a b c d e f g h i j k m n o p q r s t u v w x y z A B; trim ((6,C)::l) l = [(0,a),(1,b),(2,c),(3,d),(4,e),(6,C),(7,g),(8,h),(9,i),(10,j),(11,k),(12,m),(13,n),(14,o),(15,p),(16,q),(17,r),(18,s),(19,t),(20,u),(22,v),(25,w),(29,x),(42,y),(43,z),(61,A),(66,B)] := by intros; rfl
  refine R_nil (tr ..) ?_; clear tr
  refine then_n ?_
  refine at_ret rfl ?_
  refine then_r ?_
  refine fpure ?_
  first | rfl | (simp; done)
 ·
  try simp only [decide_eq_true_eq, decide_eq_false_iff_not, Bool.not_eq_true', Bool.not_eq_false', beq_iff_eq, beq_eq_false_iff_ne, ne_eq] at h1
  refine at_skip rfl ?_
  refine then_n ?_
  refine at_seq rfl ?_
  refine rl rfl rfl ?_
  obtain ⟨hl20, hm20⟩ := hbl (by assumption)
  refine L_q rfl (by simp (disch := first | omega | (simp only [List.length_map, List.length_append, List.length_set, List.length_cons, List.length_nil]; omega)) only [go_sem, ↓reduceIte, Nat.reduceEqDiff, reduceCtorEq, q3, q4, q7] <;> rfl) rfl ?_
  refine Lq ?_
  refine L_q rfl (by simp (disch := first | omega | (simp only [List.length_map, List.length_append, List.length_set, List.length_cons, List.length_nil]; omega)) only [go_sem, ↓reduceIte, Nat.reduceEqDiff, reduceCtorEq, q3, q4, q7] <;> rfl) rfl ?_
  refine L_nil ?_
  refine Ms ?_
  refine A_alloc rfl ?_
  intro H3 n3
  have en3 := n3.len
  have q3 := (n3.old _ (hget_lt q3)).trans q3
  have q4 := (n3.old _ (hget_lt q4)).trans q4
  have q7 := n3.new
  refine R_end ?_
  refine Ms ?_ (wrC_store (by simp (disch := first | omega | (simp only [List.length_map, List.length_append, List.length_set, List.length_cons, List.length_nil]; omega)) only [go_sem, ↓reduceIte, Nat.reduceEqDiff, reduceCtorEq, q3, q4, q7] <;> rfl) (by simp only [rdV, isLoad, go_sem, ↓reduceIte, Nat.reduceEqDiff, List.mem_cons, List.not_mem_nil, or_false, List.append_nil, List.nil_append, List.cons_append, not_or]; omega))
  have lq3 := hget_lt q3
  have lq4 := hget_lt q4
  have lq7 := hget_lt q7
  refine A_store ty27 (by simp (disch := first | omega | (simp only [List.length_map, List.length_append, List.length_set, List.length_cons, List.length_nil]; omega)) only [go_sem, ↓reduceIte, Nat.reduceEqDiff, reduceCtorEq, q3, q4, q7] <;> rfl) (by simp (disch := first | omega | (simp only [List.length_map, List.length_append, List.length_set, List.length_cons, List.length_nil]; omega)) only [go_sem, ↓reduceIte, Nat.reduceEqDiff, reduceCtorEq, q3, q4, q7] <;> rfl) q7 ⟨by omega, rfl, by first | exact Nat.le_refl _ | (show _ ≤ 7; decide)⟩ (k' := [rowsAV rows, AV.i per, AV.i tot, AV.i wth, AV.i balls, stopsAV l, stopsAV m]) rfl ?_
  intro H4 w4
  have ew4 := w4.len
  have q3 := (w4.old _ (by omega)).trans q3
  have q4 := (w4.old _ (by omega)).trans q4
  have q7 := w4.new
  refine R_end ?_
  refine M_nil ?_
  refine Rq ?_
  have tr : ∀ a b c d e f g h i j k m n o p q r s t u v w x y z A B C D E F G : AV, let l := lc_tsplits_f a b c d e f g h i j k m n o p q r s t u v w x y z A B; trim ((8,G)::(7,F)::(28,E)::(27,D)::(26,C)::l) l = [(0,a),(1,b),(2,c),(3,d),(4,e),(6,f),(7,F),(8,G),(9,i),(10,j),(11,k),(12,m),(13,n),(14,o),(15,p),(16,q),(17,r),(18,s),(19,t),(20,u),(22,v),(25,w),(29,x),(42,y),(43,z),(61,A),(66,B)] := by intros; rfl
  refine R_nil (tr ..) ?_; clear tr
  refine then_n ?_
  refine at_seq rfl ?_
  refine at_seq rfl ?_
  refine rg rfl ?_
  refine Rq ?_
  have tr : ∀ a b c d e f g h i j k m n o p q r s t u v w x y z A B C : AV, let l := lc_tsplits_f a b c d e f g h i j k m n o p q r s t u v w x y z A B; trim ((29,C)::l) l = [(0,a),(1,b),(2,c),(3,d),(4,e),(6,f),(7,g),(8,h),(9,i),(10,j),(11,k),(12,m),(13,n),(14,o),(15,p),(16,q),(17,r),(18,s),(19,t),(20,u),(22,v),(25,w),(29,C),(42,y),(43,z),(61,A),(66,B)] := by intros; rfl
  refine R_nil (tr ..) ?_; clear tr
  refine then_n ?_
  refine cdd (fun h2 => ?_) (fun h2 => ?_)
  ·
   try simp only [decide_eq_true_eq, decide_eq_false_iff_not, Bool.not_eq_true', Bool.not_eq_false', beq_iff_eq, beq_eq_false_iff_ne, ne_eq] at h2
   first | omega | contradiction | exact absurd rfl (by assumption) | exact absurd trivial (by assumption)
  ·
   try simp only [decide_eq_true_eq, decide_eq_false_iff_not, Bool.not_eq_true', Bool.not_eq_false', beq_iff_eq, beq_eq_false_iff_ne, ne_eq] at h2
   refine at_skip rfl ?_
   refine then_n ?_
   refine at_seq rfl ?_
   refine rg rfl ?_
   refine Rq ?_
   refine Rq ?_
   refine R_q rfl (by simp (disch := first | omega | (simp only [List.length_map, List.length_append, List.length_set, List.length_cons, List.length_nil]; omega)) only [go_sem, ↓reduceIte, Nat.reduceEqDiff, reduceCtorEq, q3, q4, q7] <;> rfl) ?_
   refine Rq ?_
   refine R_q rfl (by simp (disch := first | omega | (simp only [List.length_map, List.length_append, List.length_set, List.length_cons, List.length_nil]; omega)) only [go_sem, ↓reduceIte, Nat.reduceEqDiff, reduceCtorEq, q3, q4, q7] <;> rfl) ?_
   refine Rcall ?_
   refine ACall_eq (split_ok _ _ l i t) ?_
   refine Rq ?_
   refine Rq ?_
   refine Rq ?_
   refine Rq ?_
   refine Rq ?_
   have tr : ∀ a b c d e f g h i j k m n o p q r s t u v w x y z A B C D E F G H I J K L M : AV, let l := lc_tsplits_f a b c d e f g h i j k m n o p q r s t u v w x y z A B; trim ((10,M)::(9,L)::(40,K)::(39,J)::(32,I)::(38,H)::(37,G)::(36,F)::(35,E)::(34,D)::(33,C)::l) l = [(0,a),(1,b),(2,c),(3,d),(4,e),(6,f),(7,g),(8,h),(9,L),(10,M),(11,k),(12,m),(13,n),(14,o),(15,p),(16,q),(17,r),(18,s),(19,t),(20,u),(22,v),(25,w),(29,x),(42,y),(43,z),(61,A),(66,B)] := by intros; rfl
   refine R_nil (tr ..) ?_; clear tr
   refine then_n ?_
   refine at_seq rfl ?_
   refine at_seq rfl ?_
   refine rg rfl ?_
   refine Rq ?_
   refine Rq ?_
   have tr : ∀ a b c d e f g h i j k m n o p q r s t u v w x y z A B C D : AV, let l := lc_tsplits_f a b c d e f g h i j k m n o p q r s t u v w x y z A B; trim ((42,D)::(41,C)::l) l = [(0,a),(1,b),(2,c),(3,d),(4,e),(6,f),(7,g),(8,h),(9,i),(10,j),(11,k),(12,m),(13,n),(14,o),(15,p),(16,q),(17,r),(18,s),(19,t),(20,u),(22,v),(25,w),(29,x),(42,D),(43,z),(61,A),(66,B)] := by intros; rfl
   refine R_nil (tr ..) ?_; clear tr
   refine then_n ?_
   refine cdd (fun h3 => ?_) (fun h3 => ?_)
   ·
    try simp only [decide_eq_true_eq, decide_eq_false_iff_not, Bool.not_eq_true', Bool.not_eq_false', beq_iff_eq, beq_eq_false_iff_ne, ne_eq] at h3
    refine at_seq rfl ?_
    refine rg rfl ?_
    refine Rq ?_
    have tr : ∀ a b c d e f g h i j k m n o p q r s t u v w x y z A B C : AV, let l := lc_tsplits_f a b c d e f g h i j k m n o p q r s t u v w x y z A B; trim ((6,C)::l) l = [(0,a),(1,b),(2,c),(3,d),(4,e),(6,C),(7,g),(8,h),(9,i),(10,j),(11,k),(12,m),(13,n),(14,o),(15,p),(16,q),(17,r),(18,s),(19,t),(20,u),(22,v),(25,w),(29,x),(42,y),(43,z),(61,A),(66,B)] := by intros; rfl
    refine R_nil (tr ..) ?_; clear tr
    refine then_n ?_
    refine at_ret rfl ?_
    refine then_r ?_
    refine fpure ?_
    first | rfl | (simp; done)
   ·
    try simp only [decide_eq_true_eq, decide_eq_false_iff_not, Bool.not_eq_true', Bool.not_eq_false', beq_iff_eq, beq_eq_false_iff_ne, ne_eq] at h3
    refine at_skip rfl ?_
    refine then_n ?_
    refine at_seq rfl ?_
    refine at_seq rfl ?_
    refine rg rfl ?_
    have hz : splE l i t = 0 := by assumption
    rewrite [splA_0 hz]
    refine Rq ?_
    have tr : ∀ a b c d e f g h i j k m n o p q r s t u v w x y z A B C : AV, let l := lc_tsplits_f a b c d e f g h i j k m n o p q r s t u v w x y z A B; trim ((43,C)::l) l = [(0,a),(1,b),(2,c),(3,d),(4,e),(6,f),(7,g),(8,h),(9,i),(10,j),(11,k),(12,m),(13,n),(14,o),(15,p),(16,q),(17,r),(18,s),(19,t),(20,u),(22,v),(25,w),(29,x),(42,y),(43,C),(61,A),(66,B)] := by intros; rfl
    refine R_nil (tr ..) ?_; clear tr
    refine then_n ?_
    refine cdd (fun h4 => ?_) (fun h4 => ?_)
    ·
     try simp only [decide_eq_true_eq, decide_eq_false_iff_not, Bool.not_eq_true', Bool.not_eq_false', beq_iff_eq, beq_eq_false_iff_ne, ne_eq] at h4
     first | omega | contradiction | exact absurd rfl (by assumption) | exact absurd trivial (by assumption)
    ·
     try simp only [decide_eq_true_eq, decide_eq_false_iff_not, Bool.not_eq_true', Bool.not_eq_false', beq_iff_eq, beq_eq_false_iff_ne, ne_eq] at h4
     refine rg rfl ?_
     refine Rq ?_
     refine Rq ?_
     have lq3 := hget_lt q3
     have lq4 := hget_lt q4
     have lq7 := hget_lt q7
     refine A_store ty25 (by simp (disch := first | omega | (simp only [List.length_map, List.length_append, List.length_set, List.length_cons, List.length_nil]; omega)) only [go_sem, ↓reduceIte, Nat.reduceEqDiff, reduceCtorEq, q3, q4, q7] <;> rfl) (by simp (disch := first | omega | (simp only [List.length_map, List.length_append, List.length_set, List.length_cons, List.length_nil]; omega)) only [go_sem, ↓reduceIte, Nat.reduceEqDiff, reduceCtorEq, q3, q4, q7] <;> rfl) q7 ⟨by omega, rfl, by first | exact Nat.le_refl _ | (show _ ≤ 7; decide)⟩ (k' := [rowsAV rows, AV.i per, AV.i tot, AV.i wth, AV.i balls, stopsAV (spl l i.toNat t), stopsAV m]) rfl ?_
     intro H5 w5
     have ew5 := w5.len
     have q3 := (w5.old _ (by omega)).trans q3
     have q4 := (w5.old _ (by omega)).trans q4
     have q7 := w5.new
     have tr : ∀ a b c d e f g h i j k m n o p q r s t u v w x y z A B C D : AV, let l := lc_tsplits_f a b c d e f g h i j k m n o p q r s t u v w x y z A B; trim ((47,D)::(46,C)::l) l = [(0,a),(1,b),(2,c),(3,d),(4,e),(6,f),(7,g),(8,h),(9,i),(10,j),(11,k),(12,m),(13,n),(14,o),(15,p),(16,q),(17,r),(18,s),(19,t),(20,u),(22,v),(25,w),(29,x),(42,y),(43,z),(61,A),(66,B)] := by intros; rfl
     refine R_nil (tr ..) ?_; clear tr
     refine then_n ?_
     refine at_seq rfl ?_
     refine rg rfl ?_
     refine R_q rfl (by simp (disch := first | omega | (simp only [List.length_map, List.length_append, List.length_set, List.length_cons, List.length_nil]; omega)) only [go_sem, ↓reduceIte, Nat.reduceEqDiff, reduceCtorEq, q3, q4, q7] <;> rfl) ?_
     refine Rcall ?_
     refine ACall_eq (of_gen _ _ rows per tot wth balls (stopsAV l) (stopsAV m) rfl rfl rfl rfl (fun _ => frz_stops _ _ _ _) (fun _ => frz_stops _ _ _ _)) ?_
     refine Rcall ?_
     refine ACall_eq (tgt_ok _ _ rows per tot wth balls l m) ?_
     refine Rq ?_
     refine Rq ?_
     refine Rq ?_
     refine Rq ?_
     refine Rq ?_
     have tr : ∀ a b c d e f g h i j k m n o p q r s t u v w x y z A B C D E F G H I J : AV, let l := lc_tsplits_f a b c d e f g h i j k m n o p q r s t u v w x y z A B; trim ((12,J)::(11,I)::(53,H)::(52,G)::(48,F)::(51,E)::(50,D)::(49,C)::l) l = [(0,a),(1,b),(2,c),(3,d),(4,e),(6,f),(7,g),(8,h),(9,i),(10,j),(11,I),(12,J),(13,n),(14,o),(15,p),(16,q),(17,r),(18,s),(19,t),(20,u),(22,v),(25,w),(29,x),(42,y),(43,z),(61,A),(66,B)] := by intros; rfl
     refine R_nil (tr ..) ?_; clear tr
     refine then_n ?_
     refine at_seq rfl ?_
     refine rg rfl ?_
     refine R_q rfl (by simp (disch := first | omega | (simp only [List.length_map, List.length_append, List.length_set, List.length_cons, List.length_nil]; omega)) only [go_sem, ↓reduceIte, Nat.reduceEqDiff, reduceCtorEq, q3, q4, q7] <;> rfl) ?_
     refine Rcall ?_
     refine ACall_eq (of_gen _ _ rows per tot wth balls (stopsAV (spl l i.toNat t)) (stopsAV m) rfl rfl rfl rfl (fun _ => frz_stops _ _ _ _) (fun _ => frz_stops _ _ _ _)) ?_
     refine Rcall ?_
     refine ACall_eq (tgt_ok _ _ rows per tot wth balls (spl l i.toNat t) m) ?_
     refine Rq ?_
     refine Rq ?_
     refine Rq ?_
     refine Rq ?_
     refine Rq ?_
     have tr : ∀ a b c d e f g h i j k m n o p q r s t u v w x y z A B C D E F G H I J : AV, let l := lc_tsplits_f a b c d e f g h i j k m n o p q r s t u v w x y z A B; trim ((14,J)::(13,I)::(59,H)::(58,G)::(54,F)::(57,E)::(56,D)::(55,C)::l) l = [(0,a),(1,b),(2,c),(3,d),(4,e),(6,f),(7,g),(8,h),(9,i),(10,j),(11,k),(12,m),(13,I),(14,J),(15,p),(16,q),(17,r),(18,s),(19,t),(20,u),(22,v),(25,w),(29,x),(42,y),(43,z),(61,A),(66,B)] := by intros; rfl
     refine R_nil (tr ..) ?_; clear tr
     refine then_n ?_
     refine at_seq rfl ?_
     refine at_seq rfl ?_
     refine rg rfl ?_
     refine Rq ?_
     refine Rq ?_
     have tr : ∀ a b c d e f g h i j k m n o p q r s t u v w x y z A B C D : AV, let l := lc_tsplits_f a b c d e f g h i j k m n o p q r s t u v w x y z A B; trim ((61,D)::(60,C)::l) l = [(0,a),(1,b),(2,c),(3,d),(4,e),(6,f),(7,g),(8,h),(9,i),(10,j),(11,k),(12,m),(13,n),(14,o),(15,p),(16,q),(17,r),(18,s),(19,t),(20,u),(22,v),(25,w),(29,x),(42,y),(43,z),(61,D),(66,B)] := by intros; rfl
     refine R_nil (tr ..) ?_; clear tr
     refine then_n ?_
     refine cdd (fun h5 => ?_) (fun h5 => ?_)
     ·
      try simp only [decide_eq_true_eq, decide_eq_false_iff_not, Bool.not_eq_true', Bool.not_eq_false', beq_iff_eq, beq_eq_false_iff_ne, ne_eq] at h5
      refine at_seq rfl ?_
      refine rg rfl ?_
      refine Rq ?_
      have tr : ∀ a b c d e f g h i j k m n o p q r s t u v w x y z A B C : AV, let l := lc_tsplits_f a b c d e f g h i j k m n o p q r s t u v w x y z A B; trim ((6,C)::l) l = [(0,a),(1,b),(2,c),(3,d),(4,e),(6,C),(7,g),(8,h),(9,i),(10,j),(11,k),(12,m),(13,n),(14,o),(15,p),(16,q),(17,r),(18,s),(19,t),(20,u),(22,v),(25,w),(29,x),(42,y),(43,z),(61,A),(66,B)] := by intros; rfl
      refine R_nil (tr ..) ?_; clear tr
      refine then_n ?_
      refine at_ret rfl ?_
      refine then_r ?_
      refine fpure ?_
      first | rfl | (simp; done)
     ·
      try simp only [decide_eq_true_eq, decide_eq_false_iff_not, Bool.not_eq_true', Bool.not_eq_false', beq_iff_eq, beq_eq_false_iff_ne, ne_eq] at h5
      refine at_skip rfl ?_
      refine then_n ?_
      refine at_seq rfl ?_
      refine rg rfl ?_
      have hf : (tgtS rows per tot wth balls l m).2 = 0 := by assumption
      rewrite [tgt_spl1 hf hz]
      refine Rq ?_
      have tr : ∀ a b c d e f g h i j k m n o p q r s t u v w x y z A B C : AV, let l := lc_tsplits_f a b c d e f g h i j k m n o p q r s t u v w x y z A B; trim ((15,C)::l) l = [(0,a),(1,b),(2,c),(3,d),(4,e),(6,f),(7,g),(8,h),(9,i),(10,j),(11,k),(12,m),(13,n),(14,o),(15,C),(16,q),(17,r),(18,s),(19,t),(20,u),(22,v),(25,w),(29,x),(42,y),(43,z),(61,A),(66,B)] := by intros; rfl
      refine R_nil (tr ..) ?_; clear tr
      refine then_n ?_
      refine at_seq rfl ?_
      refine at_seq rfl ?_
      refine rg rfl ?_
      refine Rq ?_
      refine R_q rfl (by simp (disch := first | omega | (simp only [List.length_map, List.length_append, List.length_set, List.length_cons, List.length_nil]; omega)) only [go_sem, ↓reduceIte, Nat.reduceEqDiff, reduceCtorEq, q3, q4, q7] <;> rfl) ?_
      refine Rq ?_
      refine Rq ?_
      have tr : ∀ a b c d e f g h i j k m n o p q r s t u v w x y z A B C D E F : AV, let l := lc_tsplits_f a b c d e f g h i j k m n o p q r s t u v w x y z A B; trim ((16,F)::(64,E)::(63,D)::(62,C)::l) l = [(0,a),(1,b),(2,c),(3,d),(4,e),(6,f),(7,g),(8,h),(9,i),(10,j),(11,k),(12,m),(13,n),(14,o),(15,p),(16,F),(17,r),(18,s),(19,t),(20,u),(22,v),(25,w),(29,x),(42,y),(43,z),(61,A),(66,B)] := by intros; rfl
      refine R_nil (tr ..) ?_; clear tr
      refine then_n ?_
      refine at_seq rfl ?_
      refine rg rfl ?_
      refine Rq ?_
      refine Rq ?_
      have tr : ∀ a b c d e f g h i j k m n o p q r s t u v w x y z A B C D : AV, let l := lc_tsplits_f a b c d e f g h i j k m n o p q r s t u v w x y z A B; trim ((66,D)::(65,C)::l) l = [(0,a),(1,b),(2,c),(3,d),(4,e),(6,f),(7,g),(8,h),(9,i),(10,j),(11,k),(12,m),(13,n),(14,o),(15,p),(16,q),(17,r),(18,s),(19,t),(20,u),(22,v),(25,w),(29,x),(42,y),(43,z),(61,A),(66,D)] := by intros; rfl
      refine R_nil (tr ..) ?_; clear tr
      refine then_n ?_
      refine cdd (fun h6 => ?_) (fun h6 => ?_)
      ·
       try simp only [decide_eq_true_eq, decide_eq_false_iff_not, Bool.not_eq_true', Bool.not_eq_false', beq_iff_eq, beq_eq_false_iff_ne, ne_eq] at h6
       refine rg rfl ?_
       refine Rq ?_
       refine R_q rfl (by simp (disch := first | omega | (simp only [List.length_map, List.length_append, List.length_set, List.length_cons, List.length_nil]; omega)) only [go_sem, ↓reduceIte, Nat.reduceEqDiff, reduceCtorEq, q3, q4, q7] <;> rfl) ?_
       refine Rq ?_
       refine R_q (r := AV.i ((m.length - 1 : Nat) : Int)) rfl (by simp (disch := first | omega | (simp only [List.length_map, List.length_append, List.length_set, List.length_cons, List.length_nil]; omega)) only [go_sem, ↓reduceIte, Nat.reduceEqDiff, reduceCtorEq] <;> exact congrArg (fun z => some (AV.i z)) (by omega)) ?_
       refine Rq ?_
       refine Rq ?_
       refine R_q rfl (by simp (disch := first | omega | (simp only [List.length_map, List.length_append, List.length_set, List.length_cons, List.length_nil]; omega)) only [go_sem, ↓reduceIte, Nat.reduceEqDiff, reduceCtorEq, q3, q4, q7] <;> rfl) ?_
       refine Rq ?_
       have tr : ∀ a b c d e f g h i j k m n o p q r s t u v w x y z A B C D E F G H I J : AV, let l := lc_tsplits_f a b c d e f g h i j k m n o p q r s t u v w x y z A B; trim ((15,J)::(73,I)::(72,H)::(71,G)::(70,F)::(69,E)::(68,D)::(67,C)::l) l = [(0,a),(1,b),(2,c),(3,d),(4,e),(6,f),(7,g),(8,h),(9,i),(10,j),(11,k),(12,m),(13,n),(14,o),(15,J),(16,q),(17,r),(18,s),(19,t),(20,u),(22,v),(25,w),(29,x),(42,y),(43,z),(61,A),(66,B)] := by intros; rfl
       refine R_nil (tr ..) ?_; clear tr
       refine then_n ?_
       refine at_seq rfl ?_
       refine rls2 rfl rfl ?_
       refine L_q rfl (by simp (disch := first | omega | (simp only [List.length_map, List.length_append, List.length_set, List.length_cons, List.length_nil]; omega)) only [go_sem, ↓reduceIte, Nat.reduceEqDiff, reduceCtorEq, q3, q4, q7] <;> rfl) rfl ?_
       refine Lq ?_
       refine L_q rfl (by simp (disch := first | omega | (simp only [List.length_map, List.length_append, List.length_set, List.length_cons, List.length_nil]; omega)) only [go_sem, ↓reduceIte, Nat.reduceEqDiff, reduceCtorEq, q3, q4, q7] <;> rfl) rfl ?_
       refine Lq ?_
       refine L_nil ?_
       refine Rcall ?_
       refine ACall_eq (of_gen _ _ rows per tot wth balls (stopsAV l) (stopsAV m) rfl rfl rfl rfl (fun _ => frz_stops _ _ _ _) (fun _ => frz_stops _ _ _ _)) ?_
       refine Rcall ?_
       refine ACall_eq (pat_ok _ _ rows per tot wth balls l m n _) ?_
       refine Rq ?_
       refine Rq ?_
       refine Rq ?_
       refine Rq ?_
       refine R_end ⟨?_, ?_⟩
       ·
        refine ⟨?_, ?_⟩
        ·
         refine Rcall ?_
         refine ACall_eq (of_gen _ _ rows per tot wth balls (stopsAV l) (stopsAV m) rfl rfl rfl rfl (fun _ => frz_stops _ _ _ _) (fun _ => frz_stops _ _ _ _)) ?_
         refine Rcall ?_
         refine ACall_eq (pat_ok _ _ rows per tot wth balls l m n _) ?_
         refine Rq ?_
         refine Rq ?_
         refine Rq ?_
         refine Rq ?_
         refine R_end ?_
         refine same_H ?_
         intro t2 ht
         simp only [List.mem_cons, List.not_mem_nil, or_false] at ht
         rcases ht with rfl | rfl <;> (simp only [get_cons, put_some, ↓reduceIte, Nat.reduceEqDiff]; rfl)
        refine ⟨?_, ?_⟩
        ·
         refine Rcall ?_
         refine ACall_eq (of_gen _ _ rows per tot wth balls (stopsAV l) (stopsAV m) rfl rfl rfl rfl (fun _ => frz_stops _ _ _ _) (fun _ => frz_stops _ _ _ _)) ?_
         refine Rcall ?_
         refine ACall_eq (pat_ok _ _ rows per tot wth balls l m n _) ?_
         refine Rq ?_
         refine Rq ?_
         refine Rq ?_
         refine Rq ?_
         refine R_end ?_
         refine same_H ?_
         intro t2 ht
         simp only [List.mem_cons, List.not_mem_nil, or_false] at ht
         rcases ht with rfl | rfl <;> (simp only [get_cons, put_some, ↓reduceIte, Nat.reduceEqDiff]; rfl)
        exact trivial
       rewrite [keep_all (fun i hi => .inl hi)]
       refine Rp_env (e' := [(82, _), (17, _), (75, .any), (76, .any), (77, .any), (78, .any), (79, .any), (80, .any), (74, .any), (81, .any), (82, .any), (17, .any), (18, .any), (0, _), (1, _), (2, _), (3, _), (4, _), (6, _), (7, _), (8, _), (9, _), (10, _), (11, _), (12, _), (13, _), (14, _), (15, _), (16, _), (17, _), (18, _), (19, _), (20, _), (22, _), (25, _), (29, _), (42, _), (43, _), (61, _), (66, _)]) rfl ?_
       simp only [put_some, get_cons, ↓reduceIte, Nat.reduceEqDiff]
       refine Rq ?_
       have tr : ∀ a b c d e f g h i j k m n o p q r s t u v w x y z A B C D E F G H I J K L M N O P : AV, let l := lc_tsplits_f a b c d e f g h i j k m n o p q r s t u v w x y z A B; trim ((18,P)::(82,O)::(17,N)::(75,M)::(76,L)::(77,K)::(78,J)::(79,I)::(80,H)::(74,G)::(81,F)::(82,E)::(17,D)::(18,C)::l) l = [(0,a),(1,b),(2,c),(3,d),(4,e),(6,f),(7,g),(8,h),(9,i),(10,j),(11,k),(12,m),(13,n),(14,o),(15,p),(16,q),(17,N),(18,P),(19,t),(20,u),(22,v),(25,w),(29,x),(42,y),(43,z),(61,A),(66,B)] := by intros; rfl
       refine R_nil (tr ..) ?_; clear tr
       refine then_n ?_
       refine at_seq rfl ?_
       refine rls2 rfl rfl ?_
       refine L_q rfl (by simp (disch := first | omega | (simp only [List.length_map, List.length_append, List.length_set, List.length_cons, List.length_nil]; omega)) only [go_sem, ↓reduceIte, Nat.reduceEqDiff, reduceCtorEq, q3, q4, q7] <;> rfl) rfl ?_
       refine Lq ?_
       refine L_q rfl (by simp (disch := first | omega | (simp only [List.length_map, List.length_append, List.length_set, List.length_cons, List.length_nil]; omega)) only [go_sem, ↓reduceIte, Nat.reduceEqDiff, reduceCtorEq, q3, q4, q7] <;> rfl) rfl ?_
       refine Lq ?_
       refine L_nil ?_
       refine Rcall ?_
       refine ACall_eq (of_gen _ _ rows per tot wth balls (stopsAV (spl l i.toNat t)) (stopsAV m) rfl rfl rfl rfl (fun _ => frz_stops _ _ _ _) (fun _ => frz_stops _ _ _ _)) ?_
       refine Rcall ?_
       refine ACall_eq (pat_ok _ _ rows per tot wth balls (spl l i.toNat t) m n _) ?_
       rewrite [pat_spl1 hf hz]
       refine Rq ?_
       refine Rq ?_
       refine Rq ?_
       refine Rq ?_
       refine R_end ⟨?_, ?_⟩
       ·
        refine ⟨?_, ?_⟩
        ·
         refine Rcall ?_
         refine ACall_eq (of_gen _ _ rows per tot wth balls (stopsAV (spl l i.toNat t)) (stopsAV m) rfl rfl rfl rfl (fun _ => frz_stops _ _ _ _) (fun _ => frz_stops _ _ _ _)) ?_
         refine Rcall ?_
         refine ACall_eq (pat_ok _ _ rows per tot wth balls (spl l i.toNat t) m n _) ?_
         rewrite [pat_spl1 hf hz]
         refine Rq ?_
         refine Rq ?_
         refine Rq ?_
         refine Rq ?_
         refine R_end ?_
         refine same_H ?_
         intro t2 ht
         simp only [List.mem_cons, List.not_mem_nil, or_false] at ht
         rcases ht with rfl | rfl <;> (simp only [get_cons, put_some, ↓reduceIte, Nat.reduceEqDiff]; rfl)
        refine ⟨?_, ?_⟩
        ·
         refine Rcall ?_
         refine ACall_eq (of_gen _ _ rows per tot wth balls (stopsAV (spl l i.toNat t)) (stopsAV m) rfl rfl rfl rfl (fun _ => frz_stops _ _ _ _) (fun _ => frz_stops _ _ _ _)) ?_
         refine Rcall ?_
         refine ACall_eq (pat_ok _ _ rows per tot wth balls (spl l i.toNat t) m n _) ?_
         rewrite [pat_spl1 hf hz]
         refine Rq ?_
         refine Rq ?_
         refine Rq ?_
         refine Rq ?_
         refine R_end ?_
         refine same_H ?_
         intro t2 ht
         simp only [List.mem_cons, List.not_mem_nil, or_false] at ht
         rcases ht with rfl | rfl <;> (simp only [get_cons, put_some, ↓reduceIte, Nat.reduceEqDiff]; rfl)
        exact trivial
       rewrite [keep_all (fun i hi => .inl hi)]
       refine Rp_env (e' := [(91, _), (19, _), (84, .any), (85, .any), (86, .any), (87, .any), (88, .any), (89, .any), (83, .any), (90, .any), (91, .any), (19, .any), (20, .any), (0, _), (1, _), (2, _), (3, _), (4, _), (6, _), (7, _), (8, _), (9, _), (10, _), (11, _), (12, _), (13, _), (14, _), (15, _), (16, _), (17, _), (18, _), (19, _), (20, _), (22, _), (25, _), (29, _), (42, _), (43, _), (61, _), (66, _)]) rfl ?_
       simp only [put_some, get_cons, ↓reduceIte, Nat.reduceEqDiff]
       refine Rq ?_
       have tr : ∀ a b c d e f g h i j k m n o p q r s t u v w x y z A B C D E F G H I J K L M N O P : AV, let l := lc_tsplits_f a b c d e f g h i j k m n o p q r s t u v w x y z A B; trim ((20,P)::(91,O)::(19,N)::(84,M)::(85,L)::(86,K)::(87,J)::(88,I)::(89,H)::(83,G)::(90,F)::(91,E)::(19,D)::(20,C)::l) l = [(0,a),(1,b),(2,c),(3,d),(4,e),(6,f),(7,g),(8,h),(9,i),(10,j),(11,k),(12,m),(13,n),(14,o),(15,p),(16,q),(17,r),(18,s),(19,N),(20,P),(22,v),(25,w),(29,x),(42,y),(43,z),(61,A),(66,B)] := by intros; rfl
       refine R_nil (tr ..) ?_; clear tr
       refine then_n ?_
       refine at_seq rfl ?_
       refine rg rfl ?_
       refine Rq ?_
       refine Rq ?_
       refine Rq ?_
       refine Rp_split (fun h7 => ?_) (fun h7 => ?_)
       ·
        try simp only [decide_eq_true_eq, decide_eq_false_iff_not, Bool.not_eq_true', Bool.not_eq_false', beq_iff_eq, beq_eq_false_iff_ne, ne_eq] at h7
        refine Ry ?_
        refine Rq ?_
        refine Ry ?_
        refine Rq ?_
        refine Ry ?_
        refine Rq ?_
        refine Rq ?_
        refine Rq ?_
        refine Rp_split (fun h8 => ?_) (fun h8 => ?_)
        ·
         try simp only [decide_eq_true_eq, decide_eq_false_iff_not, Bool.not_eq_true', Bool.not_eq_false', beq_iff_eq, beq_eq_false_iff_ne, ne_eq] at h8
         refine Ry ?_
         refine Rq ?_
         refine Ry ?_
         refine Rq ?_
         refine Ry ?_
         refine Rq ?_
         refine Rq ?_
         refine Rq ?_
         refine Rp_split (fun h9 => ?_) (fun h9 => ?_)
         ·
          try simp only [decide_eq_true_eq, decide_eq_false_iff_not, Bool.not_eq_true', Bool.not_eq_false', beq_iff_eq, beq_eq_false_iff_ne, ne_eq] at h9
          refine Ry ?_
          refine Rq ?_
          refine Ry ?_
          refine Rq ?_
          refine Ry ?_
          refine Rq ?_
          refine Rq ?_
          refine Rq ?_
          have tr : ∀ a b c d e f g h i j k m n o p q r s t u v w x y z A B C D E F G H I J K L M N O P Q R S T : AV, let l := lc_tsplits_f a b c d e f g h i j k m n o p q r s t u v w x y z A B; trim ((6,T)::(108,S)::(107,R)::(106,Q)::(105,P)::(104,O)::(103,N)::(102,M)::(101,L)::(100,K)::(99,J)::(98,I)::(97,H)::(96,G)::(95,F)::(94,E)::(93,D)::(92,C)::l) l = [(0,a),(1,b),(2,c),(3,d),(4,e),(6,T),(7,g),(8,h),(9,i),(10,j),(11,k),(12,m),(13,n),(14,o),(15,p),(16,q),(17,r),(18,s),(19,t),(20,u),(22,v),(25,w),(29,x),(42,y),(43,z),(61,A),(66,B)] := by intros; rfl
          refine R_nil (tr ..) ?_; clear tr
          refine then_n ?_
          refine at_ret rfl ?_
          refine fpure ?_
          first | rfl | (simp; done)
         ·
          try simp only [decide_eq_true_eq, decide_eq_false_iff_not, Bool.not_eq_true', Bool.not_eq_false', beq_iff_eq, beq_eq_false_iff_ne, ne_eq] at h9
          first | omega | contradiction | exact absurd rfl (by assumption) | exact absurd trivial (by assumption)
        ·
         try simp only [decide_eq_true_eq, decide_eq_false_iff_not, Bool.not_eq_true', Bool.not_eq_false', beq_iff_eq, beq_eq_false_iff_ne, ne_eq] at h8
         first | omega | contradiction | exact absurd rfl (by assumption) | exact absurd trivial (by assumption)
       ·
        try simp only [decide_eq_true_eq, decide_eq_false_iff_not, Bool.not_eq_true', Bool.not_eq_false', beq_iff_eq, beq_eq_false_iff_ne, ne_eq] at h7
        exact absurd hf (by assumption)
      ·
       try simp only [decide_eq_true_eq, decide_eq_false_iff_not, Bool.not_eq_true', Bool.not_eq_false', beq_iff_eq, beq_eq_false_iff_ne, ne_eq] at h6
       refine at_skip rfl ?_
       refine then_n ?_
       refine at_seq rfl ?_
       refine rls2 rfl rfl ?_
       refine L_q rfl (by simp (disch := first | omega | (simp only [List.length_map, List.length_append, List.length_set, List.length_cons, List.length_nil]; omega)) only [go_sem, ↓reduceIte, Nat.reduceEqDiff, reduceCtorEq, q3, q4, q7] <;> rfl) rfl ?_
       refine Lq ?_
       refine L_q rfl (by simp (disch := first | omega | (simp only [List.length_map, List.length_append, List.length_set, List.length_cons, List.length_nil]; omega)) only [go_sem, ↓reduceIte, Nat.reduceEqDiff, reduceCtorEq, q3, q4, q7] <;> rfl) rfl ?_
       refine Lq ?_
       refine L_nil ?_
       refine Rcall ?_
       refine ACall_eq (of_gen _ _ rows per tot wth balls (stopsAV l) (stopsAV m) rfl rfl rfl rfl (fun _ => frz_stops _ _ _ _) (fun _ => frz_stops _ _ _ _)) ?_
       refine Rcall ?_
       refine ACall_eq (pat_ok _ _ rows per tot wth balls l m n _) ?_
       refine Rq ?_
       refine Rq ?_
       refine Rq ?_
       refine Rq ?_
       refine R_end ⟨?_, ?_⟩
       ·
        refine ⟨?_, ?_⟩
        ·
         refine Rcall ?_
         refine ACall_eq (of_gen _ _ rows per tot wth balls (stopsAV l) (stopsAV m) rfl rfl rfl rfl (fun _ => frz_stops _ _ _ _) (fun _ => frz_stops _ _ _ _)) ?_
         refine Rcall ?_
         refine ACall_eq (pat_ok _ _ rows per tot wth balls l m n _) ?_
         refine Rq ?_
         refine Rq ?_
         refine Rq ?_
         refine Rq ?_
         refine R_end ?_
         refine same_H ?_
         intro t2 ht
         simp only [List.mem_cons, List.not_mem_nil, or_false] at ht
         rcases ht with rfl | rfl <;> (simp only [get_cons, put_some, ↓reduceIte, Nat.reduceEqDiff]; rfl)
        refine ⟨?_, ?_⟩
        ·
         refine Rcall ?_
         refine ACall_eq (of_gen _ _ rows per tot wth balls (stopsAV l) (stopsAV m) rfl rfl rfl rfl (fun _ => frz_stops _ _ _ _) (fun _ => frz_stops _ _ _ _)) ?_
         refine Rcall ?_
         refine ACall_eq (pat_ok _ _ rows per tot wth balls l m n _) ?_
         refine Rq ?_
         refine Rq ?_
         refine Rq ?_
         refine Rq ?_
         refine R_end ?_
         refine same_H ?_
         intro t2 ht
         simp only [List.mem_cons, List.not_mem_nil, or_false] at ht
         rcases ht with rfl | rfl <;> (simp only [get_cons, put_some, ↓reduceIte, Nat.reduceEqDiff]; rfl)
        exact trivial
       rewrite [keep_all (fun i hi => .inl hi)]
       refine Rp_env (e' := [(82, _), (17, _), (75, .any), (76, .any), (77, .any), (78, .any), (79, .any), (80, .any), (74, .any), (81, .any), (82, .any), (17, .any), (18, .any), (0, _), (1, _), (2, _), (3, _), (4, _), (6, _), (7, _), (8, _), (9, _), (10, _), (11, _), (12, _), (13, _), (14, _), (15, _), (16, _), (17, _), (18, _), (19, _), (20, _), (22, _), (25, _), (29, _), (42, _), (43, _), (61, _), (66, _)]) rfl ?_
       simp only [put_some, get_cons, ↓reduceIte, Nat.reduceEqDiff]
       refine Rq ?_
       have tr : ∀ a b c d e f g h i j k m n o p q r s t u v w x y z A B C D E F G H I J K L M N O P : AV, let l := lc_tsplits_f a b c d e f g h i j k m n o p q r s t u v w x y z A B; trim ((18,P)::(82,O)::(17,N)::(75,M)::(76,L)::(77,K)::(78,J)::(79,I)::(80,H)::(74,G)::(81,F)::(82,E)::(17,D)::(18,C)::l) l = [(0,a),(1,b),(2,c),(3,d),(4,e),(6,f),(7,g),(8,h),(9,i),(10,j),(11,k),(12,m),(13,n),(14,o),(15,p),(16,q),(17,N),(18,P),(19,t),(20,u),(22,v),(25,w),(29,x),(42,y),(43,z),(61,A),(66,B)] := by intros; rfl
       refine R_nil (tr ..) ?_; clear tr
       refine then_n ?_
       refine at_seq rfl ?_
       refine rls2 rfl rfl ?_
       refine L_q rfl (by simp (disch := first | omega | (simp only [List.length_map, List.length_append, List.length_set, List.length_cons, List.length_nil]; omega)) only [go_sem, ↓reduceIte, Nat.reduceEqDiff, reduceCtorEq, q3, q4, q7] <;> rfl) rfl ?_
       refine Lq ?_
       refine L_q rfl (by simp (disch := first | omega | (simp only [List.length_map, List.length_append, List.length_set, List.length_cons, List.length_nil]; omega)) only [go_sem, ↓reduceIte, Nat.reduceEqDiff, reduceCtorEq, q3, q4, q7] <;> rfl) rfl ?_
       refine Lq ?_
       refine L_nil ?_
       refine Rcall ?_
       refine ACall_eq (of_gen _ _ rows per tot wth balls (stopsAV (spl l i.toNat t)) (stopsAV m) rfl rfl rfl rfl (fun _ => frz_stops _ _ _ _) (fun _ => frz_stops _ _ _ _)) ?_
       refine Rcall ?_
       refine ACall_eq (pat_ok _ _ rows per tot wth balls (spl l i.toNat t) m n _) ?_
       rewrite [pat_spl1 hf hz]
       refine Rq ?_
       refine Rq ?_
       refine Rq ?_
       refine Rq ?_
       refine R_end ⟨?_, ?_⟩
       ·
        refine ⟨?_, ?_⟩
        ·
         refine Rcall ?_
         refine ACall_eq (of_gen _ _ rows per tot wth balls (stopsAV (spl l i.toNat t)) (stopsAV m) rfl rfl rfl rfl (fun _ => frz_stops _ _ _ _) (fun _ => frz_stops _ _ _ _)) ?_
         refine Rcall ?_
         refine ACall_eq (pat_ok _ _ rows per tot wth balls (spl l i.toNat t) m n _) ?_
         rewrite [pat_spl1 hf hz]
         refine Rq ?_
         refine Rq ?_
         refine Rq ?_
         refine Rq ?_
         refine R_end ?_
         refine same_H ?_
         intro t2 ht
         simp only [List.mem_cons, List.not_mem_nil, or_false] at ht
         rcases ht with rfl | rfl <;> (simp only [get_cons, put_some, ↓reduceIte, Nat.reduceEqDiff]; rfl)
        refine ⟨?_, ?_⟩
        ·
         refine Rcall ?_
         refine ACall_eq (of_gen _ _ rows per tot wth balls (stopsAV (spl l i.toNat t)) (stopsAV m) rfl rfl rfl rfl (fun _ => frz_stops _ _ _ _) (fun _ => frz_stops _ _ _ _)) ?_
         refine Rcall ?_
         refine ACall_eq (pat_ok _ _ rows per tot wth balls (spl l i.toNat t) m n _) ?_
         rewrite [pat_spl1 hf hz]
         refine Rq ?_
         refine Rq ?_
         refine Rq ?_
         refine Rq ?_
         refine R_end ?_
         refine same_H ?_
         intro t2 ht
         simp only [List.mem_cons, List.not_mem_nil, or_false] at ht
         rcases ht with rfl | rfl <;> (simp only [get_cons, put_some, ↓reduceIte, Nat.reduceEqDiff]; rfl)
        exact trivial
       rewrite [keep_all (fun i hi => .inl hi)]
       refine Rp_env (e' := [(91, _), (19, _), (84, .any), (85, .any), (86, .any), (87, .any), (88, .any), (89, .any), (83, .any), (90, .any), (91, .any), (19, .any), (20, .any), (0, _), (1, _), (2, _), (3, _), (4, _), (6, _), (7, _), (8, _), (9, _), (10, _), (11, _), (12, _), (13, _), (14, _), (15, _), (16, _), (17, _), (18, _), (19, _), (20, _), (22, _), (25, _), (29, _), (42, _), (43, _), (61, _), (66, _)]) rfl ?_
       simp only [put_some, get_cons, ↓reduceIte, Nat.reduceEqDiff]
       refine Rq ?_
       have tr : ∀ a b c d e f g h i j k m n o p q r s t u v w x y z A B C D E F G H I J K L M N O P : AV, let l := lc_tsplits_f a b c d e f g h i j k m n o p q r s t u v w x y z A B; trim ((20,P)::(91,O)::(19,N)::(84,M)::(85,L)::(86,K)::(87,J)::(88,I)::(89,H)::(83,G)::(90,F)::(91,E)::(19,D)::(20,C)::l) l = [(0,a),(1,b),(2,c),(3,d),(4,e),(6,f),(7,g),(8,h),(9,i),(10,j),(11,k),(12,m),(13,n),(14,o),(15,p),(16,q),(17,r),(18,s),(19,N),(20,P),(22,v),(25,w),(29,x),(42,y),(43,z),(61,A),(66,B)] := by intros; rfl
       refine R_nil (tr ..) ?_; clear tr
       refine then_n ?_
       refine at_seq rfl ?_
       refine rg rfl ?_
       refine Rq ?_
       refine Rq ?_
       refine Rq ?_
       refine Rp_split (fun h10 => ?_) (fun h10 => ?_)
       ·
        try simp only [decide_eq_true_eq, decide_eq_false_iff_not, Bool.not_eq_true', Bool.not_eq_false', beq_iff_eq, beq_eq_false_iff_ne, ne_eq] at h10
        refine Ry ?_
        refine Rq ?_
        refine Ry ?_
        refine Rq ?_
        refine Ry ?_
        refine Rq ?_
        refine Rq ?_
        refine Rq ?_
        refine Rp_split (fun h11 => ?_) (fun h11 => ?_)
        ·
         try simp only [decide_eq_true_eq, decide_eq_false_iff_not, Bool.not_eq_true', Bool.not_eq_false', beq_iff_eq, beq_eq_false_iff_ne, ne_eq] at h11
         refine Ry ?_
         refine Rq ?_
         refine Ry ?_
         refine Rq ?_
         refine Ry ?_
         refine Rq ?_
         refine Rq ?_
         refine Rq ?_
         refine Rp_split (fun h12 => ?_) (fun h12 => ?_)
         ·
          try simp only [decide_eq_true_eq, decide_eq_false_iff_not, Bool.not_eq_true', Bool.not_eq_false', beq_iff_eq, beq_eq_false_iff_ne, ne_eq] at h12
          refine Ry ?_
          refine Rq ?_
          refine Ry ?_
          refine Rq ?_
          refine Ry ?_
          refine Rq ?_
          refine Rq ?_
          refine Rq ?_
          have tr : ∀ a b c d e f g h i j k m n o p q r s t u v w x y z A B C D E F G H I J K L M N O P Q R S T : AV, let l := lc_tsplits_f a b c d e f g h i j k m n o p q r s t u v w x y z A B; trim ((6,T)::(108,S)::(107,R)::(106,Q)::(105,P)::(104,O)::(103,N)::(102,M)::(101,L)::(100,K)::(99,J)::(98,I)::(97,H)::(96,G)::(95,F)::(94,E)::(93,D)::(92,C)::l) l = [(0,a),(1,b),(2,c),(3,d),(4,e),(6,T),(7,g),(8,h),(9,i),(10,j),(11,k),(12,m),(13,n),(14,o),(15,p),(16,q),(17,r),(18,s),(19,t),(20,u),(22,v),(25,w),(29,x),(42,y),(43,z),(61,A),(66,B)] := by intros; rfl
          refine R_nil (tr ..) ?_; clear tr
          refine then_n ?_
          refine at_ret rfl ?_
          refine fpure ?_
          first | rfl | (simp; done)
         ·
          try simp only [decide_eq_true_eq, decide_eq_false_iff_not, Bool.not_eq_true', Bool.not_eq_false', beq_iff_eq, beq_eq_false_iff_ne, ne_eq] at h12
          first | omega | contradiction | exact absurd rfl (by assumption) | exact absurd trivial (by assumption)
        ·
         try simp only [decide_eq_true_eq, decide_eq_false_iff_not, Bool.not_eq_true', Bool.not_eq_false', beq_iff_eq, beq_eq_false_iff_ne, ne_eq] at h11
         first | omega | contradiction | exact absurd rfl (by assumption) | exact absurd trivial (by assumption)
       ·
        try simp only [decide_eq_true_eq, decide_eq_false_iff_not, Bool.not_eq_true', Bool.not_eq_false', beq_iff_eq, beq_eq_false_iff_ne, ne_eq] at h10
        exact absurd hf (by assumption)

theorem tsplits_ok (rows : Tb) (per tot wth balls : Int) (l m : List Stp) (i t n : Int) (b : Bool) : ACall sig 0 15 [.agg [rowsAV rows, AV.i per, AV.i tot, AV.i wth, AV.i balls, stopsAV l, stopsAV m], .agg [AV.i i, AV.i t, AV.i n], .v (.bool b)] [] fun r _ => r = .v (.bool true) := by
  cases b with
  | true => exact tsplits_t 0 [] rows per tot wth balls l m i t n
  | false => exact tsplits_f 0 [] rows per tot wth balls l m i t n

end Go.Proofs.Ytaoondlakhocnaa
end
section
namespace Go.Am
open Go
section
variable {H : Type} {enc : TypeId × Value → H} {P : Program} {w : World} {held : Bool}

abbrev In (w : World) : Nat → Prop := fun k => k < w.heap.size

theorem cell_lt {w : World} {a : Addr} {v : Value} (h : w.cell? a = some v) : a.block < w.heap.size := by
  unfold World.cell? at h
  by_cases hb : a.block < w.heap.size
  · exact hb
  · rw [Array.getElem?_eq_none (by omega)] at h
    simp at h

theorem den_slice {α : Type} (f : α → AV) {t e : TypeId} {fuel : Nat} {cs : List Value} {x : DataW H × List MemPlace} (ht : P.underlying t = some (.slice e)) (hc : P.cellsOf e = 1)
    (each : ∀ n cs x, DataW.trod enc P w 0 (fun _ => true) held n e cs = some x → ∃ d v, cs = [v] ∧ Den [] (In w) w (f d) v)
    (h : DataW.trod enc P w 0 (fun _ => true) held fuel t cs = some x) : ∃ (l : List α) (v : Value), cs = [v] ∧ Den [] (In w) w (.sl l.length (l.map f)) v := by
  rcases DataW.trod_slice ht h with ⟨rfl, _⟩ | ⟨a, len, cap, elems, rest, n, _, rfl, _, _, hl, hm, hlen, hel, hsp, _⟩
  · exact ⟨[], _, rfl, .sl0 _ _⟩
  · have get : ∀ i, i < cap → ∃ c d, w.cell? (a.add i) = some c ∧ Den [] (In w) w (f d) c := by
      intro i hi
      have hb : ∃ y, (w.cells? 0 (a.add (i * P.cellsOf e)) (P.cellsOf e)).bind (DataW.trod enc P w 0 (fun _ => true) held n e) = some y := by
        by_cases h1 : i < len
        · exact ⟨elems[i]'(by omega), by rw [hel i h1, List.getElem?_eq_getElem (by omega)]⟩
        · obtain ⟨hr, hrr⟩ := hsp rfl
          have := hrr (i - len) (by omega)
          rw [show len + (i - len) = i by omega] at this
          exact ⟨rest[i - len]'(by omega), by rw [this, List.getElem?_eq_getElem (by omega)]⟩
      obtain ⟨y, hy⟩ := hb
      rw [hc, Nat.mul_one, Option.bind_eq_some_iff] at hy
      obtain ⟨cs', hcs, hy'⟩ := hy
      obtain ⟨d, v, rfl, hd⟩ := each _ _ _ hy'
      have e0 : (a.add i).add 0 = a.add i := by simp [Addr.add]
      unfold World.cells? at hcs
      rw [if_pos (Nat.zero_le _)] at hcs
      simp only [List.range_succ, List.range_zero, List.nil_append, List.mapM_cons, List.mapM_nil, e0] at hcs
      cases hcc : w.cell? (a.add i) with
      | none => simp [hcc] at hcs
      | some c =>
        simp [hcc] at hcs
        exact ⟨c, d, rfl, by rw [hcs]; exact hd⟩
    by_cases h0 : cap = 0
    · subst h0
      have : len = 0 := by omega
      subst this
      exact ⟨[], _, rfl, .sl0 _ _⟩
    · obtain ⟨c0, d0, hc0, _⟩ := get 0 (by omega)
      have hs : a.spot = none := by have := World.cell?_spot hc0; simpa [Addr.add] using this
      have hb : a.block < w.heap.size := by have := cell_lt hc0; simpa [Addr.add] using this
      have ad : ∀ i, a.add i = ⟨a.block, a.off + i, none⟩ := by
        intro i
        obtain ⟨ab, ao, asp⟩ := a
        simp only at hs
        subst hs
        simp only [Addr.add]
        split
        · rename_i hi; rw [hi]; rfl
        · rfl
      have pick : ∀ i, ∃ d : α, i < len → ∃ c, w.cell? (a.add i) = some c ∧ Den [] (In w) w (f d) c := by
        intro i
        by_cases hi : i < len
        · obtain ⟨c, d, h1, h2⟩ := get i (by omega)
          exact ⟨d, fun _ => ⟨c, h1, h2⟩⟩
        · exact ⟨d0, fun h => absurd h hi⟩
      let D : Nat → α := fun i => (pick i).choose
      have hD : ∀ i, i < len → ∃ c, w.cell? (a.add i) = some c ∧ Den [] (In w) w (f (D i)) c := fun i => (pick i).choose_spec
      refine ⟨(List.range len).map D, _, rfl, ?_⟩
      have hlen2 : ((List.range len).map D).length = len := by simp
      rw [hlen2]
      have gx : ∀ (j : Nat) (x : AV), (((List.range len).map D).map f)[j]? = some x → j < len ∧ x = f (D j) := by
        intro j x hx
        simp only [List.map_map, List.getElem?_map, Option.map_eq_some_iff, Function.comp] at hx
        obtain ⟨k, hk, rfl⟩ := hx
        obtain ⟨hj, hk⟩ := List.getElem?_eq_some_iff.1 hk
        simp at hj hk
        subst hk
        exact ⟨hj, rfl⟩
      refine .sl len _ cap a (fun j => (w.cell? (a.add j)).getD undef) hl hm hs hb ?_ ?_
      · intro j x hx
        obtain ⟨hj, _⟩ := gx j x hx
        obtain ⟨c, h1, _⟩ := hD j hj
        rw [← ad j, h1]; rfl
      · intro j x hx
        obtain ⟨hj, rfl⟩ := gx j x hx
        obtain ⟨c, h1, h2⟩ := hD j hj
        rw [h1]; exact h2

theorem den_int {e : TypeId} (he : P.underlying e = some (.int .i64)) : ∀ n cs (x : DataW H × List MemPlace), DataW.trod enc P w 0 (fun _ => true) held n e cs = some x → ∃ d v, cs = [v] ∧ Den [] (In w) w (AV.i d) v := by
  intro n cs x h
  obtain ⟨m, rfl, _, _⟩ := DataW.trod_int he h
  exact ⟨m, _, rfl, .v _⟩
end
end Go.Am
end
section
namespace Go.Am
open Go Go.WideShapes
section
variable {P : Program} {w : World}

def DLs (w : World) (l : List AV) (cs : List Value) : Prop := cs.length = l.length ∧ ∀ (j : Nat) (a : AV) (v : Value), l[j]? = some a → cs[j]? = some v → Den [] (In w) w a v

def Opens (P : Program) (t : TypeId) {α : Type} (f : α → List AV) : Prop :=
  ∀ (H : Type) (enc : TypeId × Value → H) (w : World) (held : Bool) (n : Nat) (cs : List Value) (x : DataW H × List MemPlace), DataW.trod enc P w 0 (fun _ => true) held n t cs = some x → ∃ d : α, DLs w (f d) cs

theorem dls_one {a : AV} {v : Value} (h : Den [] (In w) w a v) : DLs w [a] [v] := ⟨rfl, fun j x y hx hy => by
  match j, hx, hy with
  | 0, hx, hy => cases hx; cases hy; exact h⟩

abbrev I64 := {x : Int // -9223372036854775808 ≤ x ∧ x ≤ 9223372036854775807}
abbrev U16 := {x : Int // 0 ≤ x ∧ x ≤ 65535}
abbrev U64 := {x : Int // 0 ≤ x ∧ x ≤ 18446744073709551615}
theorem opens_i64 {t : TypeId} (ht : P.underlying t = some (.int .i64)) : Opens P t (fun d : I64 => [AV.i d.val]) := by
  intro H enc w held n cs x h
  obtain ⟨m, rfl, _, hw⟩ := DataW.trod_int ht h
  simp only [Lit.wf, decide_eq_true_eq, Bool.and_eq_true] at hw
  exact ⟨⟨m, hw⟩, dls_one (.v _)⟩
theorem opens_u16 {t : TypeId} (ht : P.underlying t = some (.int .u16)) : Opens P t (fun d : U16 => [.v (.int .u16 d.val)]) := by
  intro H enc w held n cs x h
  obtain ⟨m, rfl, _, hw⟩ := DataW.trod_int ht h
  simp only [Lit.wf, decide_eq_true_eq, Bool.and_eq_true] at hw
  exact ⟨⟨m, hw⟩, dls_one (.v _)⟩
theorem opens_u64 {t : TypeId} (ht : P.underlying t = some (.int .u64)) : Opens P t (fun d : U64 => [.v (.int .u64 d.val)]) := by
  intro H enc w held n cs x h
  obtain ⟨m, rfl, _, hw⟩ := DataW.trod_int ht h
  simp only [Lit.wf, decide_eq_true_eq, Bool.and_eq_true] at hw
  exact ⟨⟨m, hw⟩, dls_one (.v _)⟩
theorem opens_bool {t : TypeId} (ht : P.underlying t = some .bool) : Opens P t (fun d : Bool => [.v (.bool d)]) := by
  intro H enc w held n cs x h
  obtain ⟨m, rfl, _⟩ := DataW.trod_bool ht h
  exact ⟨m, dls_one (.v _)⟩

theorem flat_uni {α : Type} {f : α → List AV} {z : Nat} (hf : ∀ d, (f d).length = z) : ∀ (l : List α) (i k : Nat) (hi : i < l.length), k < z → (l.map f).flatten[i * z + k]? = (f l[i])[k]?
  | [], i, k, hi, _ => by simp at hi
  | d :: l, 0, k, _, hk => by
    rw [List.map_cons, List.flatten_cons, Nat.zero_mul, Nat.zero_add, List.getElem?_append_left (by rw [hf]; exact hk)]
    rfl
  | d :: l, i + 1, k, hi, hk => by
    rw [List.map_cons, List.flatten_cons, List.getElem?_append_right (by rw [hf, Nat.succ_mul]; omega), hf]
    rw [show (i + 1) * z + k - z = i * z + k by rw [Nat.succ_mul]; omega, flat_uni hf l i k (by simpa using hi) hk]
    rfl
theorem flat_unilen {α : Type} {f : α → List AV} {z : Nat} (hf : ∀ d, (f d).length = z) (l : List α) : (l.map f).flatten.length = l.length * z := by
  induction l with
  | nil => simp
  | cons d l ih => rw [List.map_cons, List.flatten_cons, List.length_append, ih, hf, List.length_cons, Nat.succ_mul]; omega

theorem opens_slice {α : Type} {f : α → List AV} {t e : TypeId} {z : Nat} (ht : P.underlying t = some (.slice e)) (hc : P.cellsOf e = z) (hz : 0 < z) (he : Opens P e f) (hf : ∀ d, (f d).length = z) :
    Opens P t (fun l : List α => [.sl l.length (l.map f).flatten]) := by
  intro H enc w held n cs x h
  rcases DataW.trod_slice ht h with ⟨rfl, _⟩ | ⟨a, len, cap, elems, rest, n, _, rfl, _, _, hl, hm, hlen, hel, hsp, _⟩
  · exact ⟨[], dls_one (.sl0 _ _)⟩
  · have get : ∀ i, i < cap → ∃ d cs', (∀ k, k < z → ∃ c, cs'[k]? = some c ∧ w.cell? ((a.add (i * z)).add k) = some c) ∧ DLs w (f d) cs' := by
      intro i hi
      have hb : ∃ y, (w.cells? 0 (a.add (i * P.cellsOf e)) (P.cellsOf e)).bind (DataW.trod enc P w 0 (fun _ => true) held n e) = some y := by
        by_cases h1 : i < len
        · exact ⟨elems[i]'(by omega), by rw [hel i h1, List.getElem?_eq_getElem (by omega)]⟩
        · obtain ⟨hr, hrr⟩ := hsp rfl
          have := hrr (i - len) (by omega)
          rw [show len + (i - len) = i by omega] at this
          exact ⟨rest[i - len]'(by omega), by rw [this, List.getElem?_eq_getElem (by omega)]⟩
      obtain ⟨y, hy⟩ := hb
      rw [hc, Option.bind_eq_some_iff] at hy
      obtain ⟨cs', hcs, hy'⟩ := hy
      obtain ⟨d, hd⟩ := he H enc w held _ _ _ hy'
      refine ⟨d, cs', fun k hk => ?_, hd⟩
      unfold World.cells? at hcs
      rw [if_pos (Nat.zero_le _)] at hcs
      have hk1 := mapM_some_length hcs
      rw [List.length_range] at hk1
      have := mapM_some_get hcs k k (by simp [hk])
      exact ⟨cs'[k]'(by omega), List.getElem?_eq_getElem (by omega), by rw [this, List.getElem?_eq_getElem (by omega)]⟩
    by_cases h0 : cap = 0
    · subst h0
      have : len = 0 := by omega
      subst this
      exact ⟨[], dls_one (.sl0 _ _)⟩
    · obtain ⟨d0, cs0, hc0, _⟩ := get 0 (by omega)
      obtain ⟨c0, _, hcc⟩ := hc0 0 hz
      have e00 : (a.add (0 * z)).add 0 = a := by simp [Addr.add]
      rw [e00] at hcc
      have hs : a.spot = none := World.cell?_spot hcc
      have hb : a.block < w.heap.size := cell_lt hcc
      have ad : ∀ i, a.add i = ⟨a.block, a.off + i, none⟩ := by
        intro i
        obtain ⟨ab, ao, asp⟩ := a
        simp only at hs
        subst hs
        simp only [Addr.add]
        split
        · rename_i hi; rw [hi]; rfl
        · rfl
      have ad2 : ∀ i k, (a.add i).add k = ⟨a.block, a.off + (i + k), none⟩ := by
        intro i k
        rw [ad i]
        simp only [Addr.add]
        split
        · rename_i hi; rw [hi]; simp
        · simp
      have pick : ∀ i, ∃ d : α, i < len → ∃ cs', (∀ k, k < z → ∃ c, cs'[k]? = some c ∧ w.cell? ⟨a.block, a.off + (i * z + k), none⟩ = some c) ∧ DLs w (f d) cs' := by
        intro i
        by_cases hi : i < len
        · obtain ⟨d, cs', h1, h2⟩ := get i (by omega)
          exact ⟨d, fun _ => ⟨cs', fun k hk => by obtain ⟨c, h3, h4⟩ := h1 k hk; exact ⟨c, h3, by rw [← ad2]; exact h4⟩, h2⟩⟩
        · exact ⟨d0, fun h => absurd h hi⟩
      let D : Nat → α := fun i => (pick i).choose
      have hD : ∀ i, i < len → ∃ cs', (∀ k, k < z → ∃ c, cs'[k]? = some c ∧ w.cell? ⟨a.block, a.off + (i * z + k), none⟩ = some c) ∧ DLs w (f (D i)) cs' := fun i => (pick i).choose_spec
      refine ⟨(List.range len).map D, dls_one ?_⟩
      have hlen2 : ((List.range len).map D).length = len := by simp
      have key : ∀ (j : Nat) (x : AV), (((List.range len).map D).map f).flatten[j]? = some x → ∃ c, w.cell? ⟨a.block, a.off + j, none⟩ = some c ∧ Den [] (In w) w x c := by
        intro j x hx
        have hj : j < len * z := by
          have h1 := (List.getElem?_eq_some_iff.1 hx).1
          rw [flat_unilen hf, hlen2] at h1
          exact h1
        have hdiv : j / z < len := Nat.div_lt_of_lt_mul (by rw [Nat.mul_comm]; exact hj)
        have hmod : j % z < z := Nat.mod_lt _ hz
        have hjj : j / z * z + j % z = j := by rw [Nat.mul_comm]; exact Nat.div_add_mod j z
        have h2 := flat_uni hf ((List.range len).map D) (j / z) (j % z) (by rw [hlen2]; exact hdiv) hmod
        rw [hjj] at h2
        rw [h2] at hx
        simp only [List.getElem_map, List.getElem_range] at hx
        obtain ⟨cs', h3, h4⟩ := hD (j / z) hdiv
        obtain ⟨c, h5, h6⟩ := h3 (j % z) hmod
        rw [hjj] at h6
        exact ⟨c, h6, h4.2 _ _ _ hx h5⟩
      have ha : a = ⟨a.block, a.off, none⟩ := by obtain ⟨ab, ao, asp⟩ := a; simp only at hs; subst hs; rfl
      rw [hlen2]
      refine Den.sl (I := In w) _ _ cap a (fun j => (w.cell? ⟨a.block, a.off + j, none⟩).getD undef) hl hm hs hb ?_ ?_
      · intro j x hx
        obtain ⟨c, h1, _⟩ := key j x hx
        rw [h1]; rfl
      · intro j x hx
        obtain ⟨c, h1, h2⟩ := key j x hx
        rw [h1]; exact h2

theorem dls_split {cs : List Value} {o z : Nat} {l l' : List AV} (h1 : DLs w l ((cs.drop o).take z)) (hz : l.length = z) (h2 : DLs w l' (cs.drop (o + z))) : DLs w (l ++ l') (cs.drop o) := by
  subst hz
  have e : cs.drop o = (cs.drop o).take l.length ++ cs.drop (o + l.length) := by rw [← List.drop_drop]; exact (List.take_append_drop _ _).symm
  have hl := h1.1
  refine ⟨by rw [e, List.length_append, List.length_append, h1.1, h2.1], fun j a v ha hv => ?_⟩
  rw [e] at hv
  rw [List.getElem?_append] at ha hv
  by_cases hj : j < l.length
  · rw [if_pos hj] at ha
    rw [if_pos (by rw [hl]; exact hj)] at hv
    exact h1.2 j a v ha hv
  · rw [if_neg hj] at ha
    rw [if_neg (by rw [hl]; exact hj), hl] at hv
    exact h2.2 _ a v ha hv
theorem dls_end {cs : List Value} {o : Nat} (h : cs.length = o) : DLs w [] (cs.drop o) := ⟨by rw [List.drop_of_length_le (by omega)]; rfl, fun j a v ha _ => by simp at ha⟩

theorem opens_array {α : Type} {f : α → List AV} {t e : TypeId} {z m : Nat} [Inhabited α] (ht : P.underlying t = some (.array m e)) (hc : P.cellsOf e = z) (hct : P.cellsOf t = m * z) (he : Opens P e f) (hf : ∀ d, (f d).length = z) :
    Opens P t (fun l : {l : List α // l.length = m} => (l.val.map f).flatten) := by
  intro H enc w held n cs x h
  obtain ⟨xs, k, _, rfl, hl, hlen, hg⟩ := DataW.trod_array ht h
  have pick : ∀ i, ∃ d : α, i < m → DLs w (f d) ((cs.drop (i * z)).take z) := by
    intro i
    by_cases hi : i < m
    · have h1 := hg i hi
      rw [hc, List.getElem?_eq_getElem (by omega)] at h1
      obtain ⟨d, hd⟩ := he H enc w held _ _ _ h1
      exact ⟨d, fun _ => hd⟩
    · exact ⟨default, fun h => absurd h hi⟩
  let D : Nat → α := fun i => (pick i).choose
  have hD : ∀ i, i < m → DLs w (f (D i)) ((cs.drop (i * z)).take z) := fun i => (pick i).choose_spec
  have key : ∀ k, k ≤ m → DLs w (((List.range m).drop (m - k)).map fun i => f (D i)).flatten (cs.drop ((m - k) * z)) := by
    intro k
    induction k with
    | zero =>
      intro _
      rw [Nat.sub_zero, List.drop_of_length_le (by simp)]
      exact dls_end (by rw [hl, hct])
    | succ k ih =>
      intro hk
      have e : (List.range m).drop (m - (k + 1)) = (m - (k + 1)) :: (List.range m).drop (m - k) := by
        rw [List.drop_eq_getElem_cons (by simp; omega)]
        simp only [List.getElem_range]
        congr 1
        congr 1
        omega
      rw [e, List.map_cons, List.flatten_cons]
      refine dls_split (z := z) (hD _ (by omega)) (hf _) ?_
      have := ih (by omega)
      rwa [show (m - (k + 1)) * z + z = (m - k) * z by rw [← Nat.succ_mul]; congr 1; omega]
  refine ⟨⟨(List.range m).map D, by simp⟩, ?_⟩
  have := key m (Nat.le_refl _)
  rw [Nat.sub_self, Nat.zero_mul, List.drop_zero, List.drop_zero] at this
  simpa [List.map_map, Function.comp_def] using this

/-- A struct or array that came in. -/
theorem open_agg {α : Type} {f : α → List AV} {t : TypeId} (h : Opens P t f) {H : Type} {enc : TypeId × Value → H} {cs : Array Value} {d : DataW H} {p : List MemPlace}
    (ht : DataW.Trod enc P w 0 (fun _ => true) true t (.agg cs) d p) : ∃ d : α, Den [] (In w) w (.agg (f d)) (.agg cs) := by
  obtain ⟨fuel, hf⟩ := ht
  obtain ⟨d, h1, h2⟩ := h _ _ _ _ _ _ _ hf
  have e : (Value.agg cs).cells.toList = cs.toList := rfl
  rw [e] at h1 h2
  exact ⟨d, .agg _ _ (by simpa using h1) fun j a v ha hv => h2 j a v ha (by simpa using hv)⟩
end
end Go.Am
end
