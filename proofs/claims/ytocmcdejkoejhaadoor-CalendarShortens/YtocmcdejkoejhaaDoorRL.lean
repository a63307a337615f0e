/-
  Walks of chapter 48. The steps are written by program (walk.py).
-/
import Derived.Test.YtocmcdejkoejhaaDoorRI
import Derived.Test.YtocmcdejkoejhaaDoorRH
import Derived.Test.YtocmcdejkoejhaaDoorRG
import Derived.Test.YtocmcdejkoejhaaDoorAw
set_option linter.unusedSimpArgs false
set_option linter.unusedVariables false
set_option maxHeartbeats 1000000
set_option maxRecDepth 20000
namespace Go.Proofs.YtocmcdejkoejhaaDoor
open Go Go.Am
abbrev lc_cshort_ok (a b c d e f g h i j k m n o p q r s t u v w x y z A B C D E : AV) : Env := [(0,a),(1,b),(2,c),(6,d),(7,e),(8,f),(9,g),(10,h),(11,i),(12,j),(13,k),(14,m),(15,n),(16,o),(17,p),(19,q),(27,r),(34,s),(63,t),(65,u),(66,v),(67,w),(70,x),(71,y),(72,z),(88,A),(90,B),(91,C),(92,D),(116,E)]
theorem cshort_ok (lim : Nat) (H : Heap) (t : List (List Int)) (l : List Vi) (rest : Int) (hL : t.length ≤ 9223372036854775807) : ACall sig lim 8 [rowsAV t, visAV l, AV.i rest] H fun r _ => r = .v (.bool true) := by
 refine ACall_pure (fa := fa8) rfl rfl rfl rfl ?_
 have tr : ∀ a0 a1 a2 : AV, env0 fa8.keep [a0, a1, a2] = [(0,a0),(1,a1),(2,a2),(6,.any),(7,.any),(8,.any),(9,.any),(10,.any),(11,.any),(12,.any),(13,.any),(14,.any),(15,.any),(16,.any),(17,.any),(19,.any),(27,.any),(34,.any),(63,.any),(65,.any),(66,.any),(67,.any),(70,.any),(71,.any),(72,.any),(88,.any),(90,.any),(91,.any),(92,.any),(116,.any)] := fun a0 a1 a2 => rfl
 refine W_to (tr _ _ _) ?_; clear tr
 refine at_seq rfl ?_
 refine rg rfl ?_
 refine Rq ?_
 have tr : ∀ a b c d e f g h i j k m n o p q r s t u v w x y z A B C D E F : AV, let l := lc_cshort_ok a b c d e f g h i j k m n o p q r s t u v w x y z A B C D E; trim ((6,F)::l) l = [(0,a),(1,b),(2,c),(6,F),(7,e),(8,f),(9,g),(10,h),(11,i),(12,j),(13,k),(14,m),(15,n),(16,o),(17,p),(19,q),(27,r),(34,s),(63,t),(65,u),(66,v),(67,w),(70,x),(71,y),(72,z),(88,A),(90,B),(91,C),(92,D),(116,E)] := by intros; rfl
 refine R_nil (tr ..) ?_; clear tr
 refine then_n ?_
 refine at_seq rfl ?_
 refine at_seq rfl ?_
 refine rg rfl ?_
 refine Rcall ?_
 refine ACall_eval 400 (awake48 _ _) ?_
 refine Rq ?_
 have tr : ∀ a b c d e f g h i j k m n o p q r s t u v w x y z A B C D E F G : AV, let l := lc_cshort_ok a b c d e f g h i j k m n o p q r s t u v w x y z A B C D E; trim ((19,G)::(18,F)::l) l = [(0,a),(1,b),(2,c),(6,d),(7,e),(8,f),(9,g),(10,h),(11,i),(12,j),(13,k),(14,m),(15,n),(16,o),(17,p),(19,G),(27,r),(34,s),(63,t),(65,u),(66,v),(67,w),(70,x),(71,y),(72,z),(88,A),(90,B),(91,C),(92,D),(116,E)] := by intros; rfl
 refine R_nil (tr ..) ?_; clear tr
 refine then_n ?_
 refine cdf ?_
 refine at_skip rfl ?_
 refine then_n ?_
 refine at_seq rfl ?_
 refine at_seq rfl ?_
 refine rg rfl ?_
 refine Rq ?_
 refine Rcall ?_
 refine ACall_mono (small_ok _ _ t hL) ?_
 rintro r Hx ⟨⟨b, rfl, hb⟩, hHx⟩
 have hHx := hHx.symm
 subst hHx
 refine Rq ?_
 refine Rq ?_
 refine Rp_split (fun h1 => ?_) (fun h1 => ?_)
 ·
  try simp only [decide_eq_true_eq, decide_eq_false_iff_not, Bool.not_eq_true', Bool.not_eq_false', beq_iff_eq, beq_eq_false_iff_ne, ne_eq] at h1
  refine Rn ?_
  refine Rn ?_
  refine Rn ?_
  refine Rq ?_
  have tr : ∀ a b c d e f g h i j k m n o p q r s t u v w x y z A B C D E F G H I J K L M : AV, let l := lc_cshort_ok a b c d e f g h i j k m n o p q r s t u v w x y z A B C D E; trim ((27,M)::(26,L)::(25,K)::(24,J)::(23,I)::(22,H)::(21,G)::(20,F)::l) l = [(0,a),(1,b),(2,c),(6,d),(7,e),(8,f),(9,g),(10,h),(11,i),(12,j),(13,k),(14,m),(15,n),(16,o),(17,p),(19,q),(27,M),(34,s),(63,t),(65,u),(66,v),(67,w),(70,x),(71,y),(72,z),(88,A),(90,B),(91,C),(92,D),(116,E)] := by intros; rfl
  refine R_nil (tr ..) ?_; clear tr
  refine then_n ?_
  refine cdt ?_
  refine at_seq rfl ?_
  refine rg rfl ?_
  refine Rq ?_
  have tr : ∀ a b c d e f g h i j k m n o p q r s t u v w x y z A B C D E F : AV, let l := lc_cshort_ok a b c d e f g h i j k m n o p q r s t u v w x y z A B C D E; trim ((6,F)::l) l = [(0,a),(1,b),(2,c),(6,F),(7,e),(8,f),(9,g),(10,h),(11,i),(12,j),(13,k),(14,m),(15,n),(16,o),(17,p),(19,q),(27,r),(34,s),(63,t),(65,u),(66,v),(67,w),(70,x),(71,y),(72,z),(88,A),(90,B),(91,C),(92,D),(116,E)] := by intros; rfl
  refine R_nil (tr ..) ?_; clear tr
  refine then_n ?_
  refine at_ret rfl ?_
  refine then_r ?_
  refine fpure ?_
  first | rfl | (simp; done) | (have hb1 := hrs.2 (by first | assumption | omega); simp [hb1])
 ·
  try simp only [decide_eq_true_eq, decide_eq_false_iff_not, Bool.not_eq_true', Bool.not_eq_false', beq_iff_eq, beq_eq_false_iff_ne, ne_eq] at h1
  refine Ry ?_
  refine Rq ?_
  refine Ry ?_
  refine Rq ?_
  refine Ry ?_
  refine Rq ?_
  refine Rq ?_
  have tr : ∀ a b c d e f g h i j k m n o p q r s t u v w x y z A B C D E F G H I J K L M : AV, let l := lc_cshort_ok a b c d e f g h i j k m n o p q r s t u v w x y z A B C D E; trim ((27,M)::(26,L)::(25,K)::(24,J)::(23,I)::(22,H)::(21,G)::(20,F)::l) l = [(0,a),(1,b),(2,c),(6,d),(7,e),(8,f),(9,g),(10,h),(11,i),(12,j),(13,k),(14,m),(15,n),(16,o),(17,p),(19,q),(27,M),(34,s),(63,t),(65,u),(66,v),(67,w),(70,x),(71,y),(72,z),(88,A),(90,B),(91,C),(92,D),(116,E)] := by intros; rfl
  refine R_nil (tr ..) ?_; clear tr
  refine then_n ?_
  refine cdd (fun h2 => ?_) (fun h2 => ?_)
  ·
   try simp only [decide_eq_true_eq, decide_eq_false_iff_not, Bool.not_eq_true', Bool.not_eq_false', beq_iff_eq, beq_eq_false_iff_ne, ne_eq] at h2
   refine at_seq rfl ?_
   refine rg rfl ?_
   refine Rq ?_
   have tr : ∀ a b c d e f g h i j k m n o p q r s t u v w x y z A B C D E F : AV, let l := lc_cshort_ok a b c d e f g h i j k m n o p q r s t u v w x y z A B C D E; trim ((6,F)::l) l = [(0,a),(1,b),(2,c),(6,F),(7,e),(8,f),(9,g),(10,h),(11,i),(12,j),(13,k),(14,m),(15,n),(16,o),(17,p),(19,q),(27,r),(34,s),(63,t),(65,u),(66,v),(67,w),(70,x),(71,y),(72,z),(88,A),(90,B),(91,C),(92,D),(116,E)] := by intros; rfl
   refine R_nil (tr ..) ?_; clear tr
   refine then_n ?_
   refine at_ret rfl ?_
   refine then_r ?_
   refine fpure ?_
   first | rfl | (simp; done) | (have hb1 := hrs.2 (by first | assumption | omega); simp [hb1])
  ·
   try simp only [decide_eq_true_eq, decide_eq_false_iff_not, Bool.not_eq_true', Bool.not_eq_false', beq_iff_eq, beq_eq_false_iff_ne, ne_eq] at h2
   refine at_skip rfl ?_
   refine then_n ?_
   refine at_seq rfl ?_
   refine rg rfl ?_
   refine Rq ?_
   refine Rcall ?_
   refine ACall_eq (short_ok _ _ _) ?_
   refine Rq ?_
   refine Rq ?_
   refine Rq ?_
   refine Rq ?_
   refine Rq ?_
   have tr : ∀ a b c d e f g h i j k m n o p q r s t u v w x y z A B C D E F G H I J K L : AV, let l := lc_cshort_ok a b c d e f g h i j k m n o p q r s t u v w x y z A B C D E; trim ((8,L)::(7,K)::(32,J)::(31,I)::(28,H)::(30,G)::(29,F)::l) l = [(0,a),(1,b),(2,c),(6,d),(7,K),(8,L),(9,g),(10,h),(11,i),(12,j),(13,k),(14,m),(15,n),(16,o),(17,p),(19,q),(27,r),(34,s),(63,t),(65,u),(66,v),(67,w),(70,x),(71,y),(72,z),(88,A),(90,B),(91,C),(92,D),(116,E)] := by intros; rfl
   refine R_nil (tr ..) ?_; clear tr
   refine then_n ?_
   refine at_seq rfl ?_
   refine at_seq rfl ?_
   refine rg rfl ?_
   refine Rq ?_
   refine Rq ?_
   have tr : ∀ a b c d e f g h i j k m n o p q r s t u v w x y z A B C D E F G : AV, let l := lc_cshort_ok a b c d e f g h i j k m n o p q r s t u v w x y z A B C D E; trim ((34,G)::(33,F)::l) l = [(0,a),(1,b),(2,c),(6,d),(7,e),(8,f),(9,g),(10,h),(11,i),(12,j),(13,k),(14,m),(15,n),(16,o),(17,p),(19,q),(27,r),(34,G),(63,t),(65,u),(66,v),(67,w),(70,x),(71,y),(72,z),(88,A),(90,B),(91,C),(92,D),(116,E)] := by intros; rfl
   refine R_nil (tr ..) ?_; clear tr
   refine then_n ?_
   refine cdd (fun h3 => ?_) (fun h3 => ?_)
   ·
    try simp only [decide_eq_true_eq, decide_eq_false_iff_not, Bool.not_eq_true', Bool.not_eq_false', beq_iff_eq, beq_eq_false_iff_ne, ne_eq] at h3
    refine at_seq rfl ?_
    refine rg rfl ?_
    have hct : ¬ ctS t = 0 := by assumption
    rw [sh_no hct]
    refine Rq ?_
    refine Rq ?_
    refine Rq ?_
    refine Rq ?_
    refine Rp_split (fun h4 => ?_) (fun h4 => ?_)
    ·
     try simp only [decide_eq_true_eq, decide_eq_false_iff_not, Bool.not_eq_true', Bool.not_eq_false', beq_iff_eq, beq_eq_false_iff_ne, ne_eq] at h4
     refine Ry ?_
     refine Rq ?_
     refine Ry ?_
     refine Rq ?_
     refine Ry ?_
     refine Rcall ?_
     refine ACall_eq (travel_ok _ _ _) ?_
     refine Ry ?_
     refine Rq ?_
     refine Rq ?_
     refine Rq ?_
     have tr : ∀ a b c d e f g h i j k m n o p q r s t u v w x y z A B C D E F G H I J K L M N O : AV, let l := lc_cshort_ok a b c d e f g h i j k m n o p q r s t u v w x y z A B C D E; trim ((6,O)::(43,N)::(42,M)::(41,L)::(40,K)::(39,J)::(38,I)::(37,H)::(36,G)::(35,F)::l) l = [(0,a),(1,b),(2,c),(6,O),(7,e),(8,f),(9,g),(10,h),(11,i),(12,j),(13,k),(14,m),(15,n),(16,o),(17,p),(19,q),(27,r),(34,s),(63,t),(65,u),(66,v),(67,w),(70,x),(71,y),(72,z),(88,A),(90,B),(91,C),(92,D),(116,E)] := by intros; rfl
     refine R_nil (tr ..) ?_; clear tr
     refine then_n ?_
     refine at_ret rfl ?_
     refine then_r ?_
     refine fpure ?_
     first | rfl | (simp; done) | (have hb1 := hrs.2 (by first | assumption | omega); simp [hb1])
    ·
     try simp only [decide_eq_true_eq, decide_eq_false_iff_not, Bool.not_eq_true', Bool.not_eq_false', beq_iff_eq, beq_eq_false_iff_ne, ne_eq] at h4
     first | omega | contradiction | exact absurd rfl (by assumption) | exact absurd trivial (by assumption)
   ·
    try simp only [decide_eq_true_eq, decide_eq_false_iff_not, Bool.not_eq_true', Bool.not_eq_false', beq_iff_eq, beq_eq_false_iff_ne, ne_eq] at h3
    refine at_skip rfl ?_
    refine then_n ?_
    refine at_seq rfl ?_
    refine rg rfl ?_
    have hct : ctS t = 0 := by first | assumption | (exact Decidable.not_not.mp (by assumption)) | omega
    obtain ⟨ht0, ht20, hlen, htr⟩ := ct_of hct
    have hsl := shT_len t
    rw [sh_yes hct]
    refine Rq ?_
    refine Rcall ?_
    refine ACall_eq (short_ok _ _ _) ?_
    rw [sh_yes (shT_ct hct), shT_shT hct, shT_ct hct]
    refine Rq ?_
    refine Rq ?_
    refine Rq ?_
    refine Rq ?_
    refine Rq ?_
    have tr : ∀ a b c d e f g h i j k m n o p q r s t u v w x y z A B C D E F G H I J K L : AV, let l := lc_cshort_ok a b c d e f g h i j k m n o p q r s t u v w x y z A B C D E; trim ((10,L)::(9,K)::(48,J)::(47,I)::(44,H)::(46,G)::(45,F)::l) l = [(0,a),(1,b),(2,c),(6,d),(7,e),(8,f),(9,K),(10,L),(11,i),(12,j),(13,k),(14,m),(15,n),(16,o),(17,p),(19,q),(27,r),(34,s),(63,t),(65,u),(66,v),(67,w),(70,x),(71,y),(72,z),(88,A),(90,B),(91,C),(92,D),(116,E)] := by intros; rfl
    refine R_nil (tr ..) ?_; clear tr
    refine then_n ?_
    refine at_seq rfl ?_
    refine at_seq rfl ?_
    refine rg rfl ?_
    refine Rq ?_
    refine Rq ?_
    refine Rq ?_
    refine Rp_split (fun h5 => ?_) (fun h5 => ?_)
    ·
     try simp only [decide_eq_true_eq, decide_eq_false_iff_not, Bool.not_eq_true', Bool.not_eq_false', beq_iff_eq, beq_eq_false_iff_ne, ne_eq] at h5
     first | omega | contradiction | exact absurd rfl (by assumption) | exact absurd trivial (by assumption)
    ·
     try simp only [decide_eq_true_eq, decide_eq_false_iff_not, Bool.not_eq_true', Bool.not_eq_false', beq_iff_eq, beq_eq_false_iff_ne, ne_eq] at h5
     refine Ry ?_
     refine Rq ?_
     refine Ry ?_
     refine Rq ?_
     refine Ry ?_
     refine Rcall ?_
     refine ACall_eq (equal_ok _ _ (shT t) (by omega) (fun i hi => by rw [shT_rlen (by omega)]; omega)) ?_
     refine Ry ?_
     refine Rq ?_
     refine Rq ?_
     refine Rq ?_
     refine Rp_split (fun h6 => ?_) (fun h6 => ?_)
     ·
      try simp only [decide_eq_true_eq, decide_eq_false_iff_not, Bool.not_eq_true', Bool.not_eq_false', beq_iff_eq, beq_eq_false_iff_ne, ne_eq] at h6
      first | omega | contradiction | exact absurd rfl (by assumption) | exact absurd trivial (by assumption)
     ·
      try simp only [decide_eq_true_eq, decide_eq_false_iff_not, Bool.not_eq_true', Bool.not_eq_false', beq_iff_eq, beq_eq_false_iff_ne, ne_eq] at h6
      refine Ry ?_
      refine Rq ?_
      refine Ry ?_
      refine Rq ?_
      refine Ry ?_
      refine Rq ?_
      refine Ry ?_
      refine Rq ?_
      refine Ry ?_
      refine Rq ?_
      refine Rq ?_
      have tr : ∀ a b c d e f g h i j k m n o p q r s t u v w x y z A B C D E F G H I J K L M N O P Q R S T : AV, let l := lc_cshort_ok a b c d e f g h i j k m n o p q r s t u v w x y z A B C D E; trim ((63,T)::(62,S)::(61,R)::(60,Q)::(59,P)::(58,O)::(57,N)::(56,M)::(55,L)::(54,K)::(53,J)::(52,I)::(51,H)::(50,G)::(49,F)::l) l = [(0,a),(1,b),(2,c),(6,d),(7,e),(8,f),(9,g),(10,h),(11,i),(12,j),(13,k),(14,m),(15,n),(16,o),(17,p),(19,q),(27,r),(34,s),(63,T),(65,u),(66,v),(67,w),(70,x),(71,y),(72,z),(88,A),(90,B),(91,C),(92,D),(116,E)] := by intros; rfl
      refine R_nil (tr ..) ?_; clear tr
      refine then_n ?_
      refine cdd (fun h7 => ?_) (fun h7 => ?_)
      ·
       try simp only [decide_eq_true_eq, decide_eq_false_iff_not, Bool.not_eq_true', Bool.not_eq_false', beq_iff_eq, beq_eq_false_iff_ne, ne_eq] at h7
       refine at_seq rfl ?_
       refine rg rfl ?_
       exfalso; first | omega | contradiction | simp_all
      ·
       try simp only [decide_eq_true_eq, decide_eq_false_iff_not, Bool.not_eq_true', Bool.not_eq_false', beq_iff_eq, beq_eq_false_iff_ne, ne_eq] at h7
       refine at_skip rfl ?_
       refine then_n ?_
       refine at_seq rfl ?_
       refine at_seq rfl ?_
       refine rg rfl ?_
       refine Rq ?_
       refine Rq ?_
       refine Rq ?_
       have tr : ∀ a b c d e f g h i j k m n o p q r s t u v w x y z A B C D E F G H : AV, let l := lc_cshort_ok a b c d e f g h i j k m n o p q r s t u v w x y z A B C D E; trim ((66,H)::(65,G)::(64,F)::l) l = [(0,a),(1,b),(2,c),(6,d),(7,e),(8,f),(9,g),(10,h),(11,i),(12,j),(13,k),(14,m),(15,n),(16,o),(17,p),(19,q),(27,r),(34,s),(63,t),(65,G),(66,H),(67,w),(70,x),(71,y),(72,z),(88,A),(90,B),(91,C),(92,D),(116,E)] := by intros; rfl
       refine R_nil (tr ..) ?_; clear tr
       refine then_n ?_
       refine at_block rfl ?_
       refine loop_n rfl (fun mm kv H' => ∃ i : Nat, ∃ x6 x11 x12 x13 x67 x70 x71 x72 x88 x90 x91 x92 x116 : AV, (kv = [(6, x6), (11, x11), (12, x12), (13, x13), (66, AV.i i), (67, x67), (70, x70), (71, x71), (72, x72), (88, x88), (90, x90), (91, x91), (92, x92), (116, x116)]) ∧ (mm = t.length - i) ∧ (H' = H) ∧ (i ≤ t.length)) ⟨0, _, _, _, _, _, _, _, _, _, _, _, _, _, rfl, rfl, rfl, by omega⟩ (by rfl) ?_
       rintro mm kv H' ⟨i, x6, x11, x12, x13, x67, x70, x71, x72, x88, x90, x91, x92, x116, rfl, rfl, rfl, hi⟩
       have tr : ∀ a b c d e f g h i j k m n o p q r s t u v w x y z A B C D E F G H I J K L M N O P Q R S : AV, upd [(0,a),(1,b),(2,c),(6,d),(7,e),(8,f),(9,g),(10,h),(11,i),(12,j),(13,k),(14,m),(15,n),(16,o),(17,p),(19,q),(27,r),(34,s),(63,t),(65,u),(66,v),(67,w),(70,x),(71,y),(72,z),(88,A),(90,B),(91,C),(92,D),(116,E)] [(6,F),(11,G),(12,H),(13,I),(66,J),(67,K),(70,L),(71,M),(72,N),(88,O),(90,P),(91,Q),(92,R),(116,S)] = [(0,a),(1,b),(2,c),(6,F),(7,e),(8,f),(9,g),(10,h),(11,G),(12,H),(13,I),(14,m),(15,n),(16,o),(17,p),(19,q),(27,r),(34,s),(63,t),(65,u),(66,J),(67,K),(70,L),(71,M),(72,N),(88,O),(90,P),(91,Q),(92,R),(116,S)] := by intros; rfl
       refine W_to (tr ..) ?_; clear tr
       obtain ⟨H, hHH⟩ : ∃ x, x = H' := ⟨_, rfl⟩
       subst hHH
       refine at_seq rfl ?_
       refine rg rfl ?_
       refine Rq ?_
       have tr : ∀ a b c d e f g h i j k m n o p q r s t u v w x y z A B C D E F : AV, let l := lc_cshort_ok a b c d e f g h i j k m n o p q r s t u v w x y z A B C D E; trim ((67,F)::l) l = [(0,a),(1,b),(2,c),(6,d),(7,e),(8,f),(9,g),(10,h),(11,i),(12,j),(13,k),(14,m),(15,n),(16,o),(17,p),(19,q),(27,r),(34,s),(63,t),(65,u),(66,v),(67,F),(70,x),(71,y),(72,z),(88,A),(90,B),(91,C),(92,D),(116,E)] := by intros; rfl
       refine R_nil (tr ..) ?_; clear tr
       refine then_n ?_
       refine at_seq rfl ?_
       refine cdd (fun h8 => ?_) (fun h8 => ?_)
       ·
        try simp only [decide_eq_true_eq, decide_eq_false_iff_not, Bool.not_eq_true', Bool.not_eq_false', beq_iff_eq, beq_eq_false_iff_ne, ne_eq] at h8
        refine at_skip rfl ?_
        refine then_n ?_
        refine at_seq rfl ?_
        refine at_block rfl ?_
        refine at_seq rfl ?_
        refine rg rfl ?_
        refine Rq ?_
        refine Rq ?_
        have tr : ∀ a b c d e f g h i j k m n o p q r s t u v w x y z A B C D E F G : AV, let l := lc_cshort_ok a b c d e f g h i j k m n o p q r s t u v w x y z A B C D E; trim ((11,G)::(68,F)::l) l = [(0,a),(1,b),(2,c),(6,d),(7,e),(8,f),(9,g),(10,h),(11,G),(12,j),(13,k),(14,m),(15,n),(16,o),(17,p),(19,q),(27,r),(34,s),(63,t),(65,u),(66,v),(67,w),(70,x),(71,y),(72,z),(88,A),(90,B),(91,C),(92,D),(116,E)] := by intros; rfl
        refine R_nil (tr ..) ?_; clear tr
        refine then_n ?_
        refine at_seq rfl ?_
        refine rg rfl ?_
        refine Rq ?_
        refine Rq ?_
        refine Rq ?_
        have tr : ∀ a b c d e f g h i j k m n o p q r s t u v w x y z A B C D E F G H : AV, let l := lc_cshort_ok a b c d e f g h i j k m n o p q r s t u v w x y z A B C D E; trim ((71,H)::(70,G)::(69,F)::l) l = [(0,a),(1,b),(2,c),(6,d),(7,e),(8,f),(9,g),(10,h),(11,i),(12,j),(13,k),(14,m),(15,n),(16,o),(17,p),(19,q),(27,r),(34,s),(63,t),(65,u),(66,v),(67,w),(70,G),(71,H),(72,z),(88,A),(90,B),(91,C),(92,D),(116,E)] := by intros; rfl
        refine R_nil (tr ..) ?_; clear tr
        refine then_n ?_
        refine at_block rfl ?_
        refine loop_n rfl (fun mm kv H' => ∃ j : Nat, ∃ x6 x12 x13 x72 x88 x90 x91 x92 x116 : AV, (kv = [(6, x6), (12, x12), (13, x13), (71, AV.i j), (72, x72), (88, x88), (90, x90), (91, x91), (92, x92), (116, x116)]) ∧ (mm = t.length - j) ∧ (H' = H) ∧ (j ≤ t.length)) ⟨0, _, _, _, _, _, _, _, _, _, rfl, rfl, rfl, by omega⟩ (by rfl) ?_
        rintro mm kv H' ⟨j, x6, x12, x13, x72, x88, x90, x91, x92, x116, rfl, rfl, rfl, hj⟩
        have tr : ∀ a b c d e f g h i j k m n o p q r s t u v w x y z A B C D E F G H I J K L M N O : AV, upd [(0,a),(1,b),(2,c),(6,d),(7,e),(8,f),(9,g),(10,h),(11,i),(12,j),(13,k),(14,m),(15,n),(16,o),(17,p),(19,q),(27,r),(34,s),(63,t),(65,u),(66,v),(67,w),(70,x),(71,y),(72,z),(88,A),(90,B),(91,C),(92,D),(116,E)] [(6,F),(12,G),(13,H),(71,I),(72,J),(88,K),(90,L),(91,M),(92,N),(116,O)] = [(0,a),(1,b),(2,c),(6,F),(7,e),(8,f),(9,g),(10,h),(11,i),(12,G),(13,H),(14,m),(15,n),(16,o),(17,p),(19,q),(27,r),(34,s),(63,t),(65,u),(66,v),(67,w),(70,x),(71,I),(72,J),(88,K),(90,L),(91,M),(92,N),(116,O)] := by intros; rfl
        refine W_to (tr ..) ?_; clear tr
        obtain ⟨H, hHH⟩ : ∃ x, x = H' := ⟨_, rfl⟩
        subst hHH
        refine at_seq rfl ?_
        refine rg rfl ?_
        refine Rq ?_
        have tr : ∀ a b c d e f g h i j k m n o p q r s t u v w x y z A B C D E F : AV, let l := lc_cshort_ok a b c d e f g h i j k m n o p q r s t u v w x y z A B C D E; trim ((72,F)::l) l = [(0,a),(1,b),(2,c),(6,d),(7,e),(8,f),(9,g),(10,h),(11,i),(12,j),(13,k),(14,m),(15,n),(16,o),(17,p),(19,q),(27,r),(34,s),(63,t),(65,u),(66,v),(67,w),(70,x),(71,y),(72,F),(88,A),(90,B),(91,C),(92,D),(116,E)] := by intros; rfl
        refine R_nil (tr ..) ?_; clear tr
        refine then_n ?_
        refine at_seq rfl ?_
        refine cdd (fun h9 => ?_) (fun h9 => ?_)
        ·
         try simp only [decide_eq_true_eq, decide_eq_false_iff_not, Bool.not_eq_true', Bool.not_eq_false', beq_iff_eq, beq_eq_false_iff_ne, ne_eq] at h9
         refine at_skip rfl ?_
         refine then_n ?_
         refine at_seq rfl ?_
         refine at_block rfl ?_
         refine at_seq rfl ?_
         refine rg rfl ?_
         refine Rq ?_
         refine Rq ?_
         have tr : ∀ a b c d e f g h i j k m n o p q r s t u v w x y z A B C D E F G : AV, let l := lc_cshort_ok a b c d e f g h i j k m n o p q r s t u v w x y z A B C D E; trim ((12,G)::(73,F)::l) l = [(0,a),(1,b),(2,c),(6,d),(7,e),(8,f),(9,g),(10,h),(11,i),(12,G),(13,k),(14,m),(15,n),(16,o),(17,p),(19,q),(27,r),(34,s),(63,t),(65,u),(66,v),(67,w),(70,x),(71,y),(72,z),(88,A),(90,B),(91,C),(92,D),(116,E)] := by intros; rfl
         refine R_nil (tr ..) ?_; clear tr
         refine then_n ?_
         refine at_seq rfl ?_
         refine at_seq rfl ?_
         refine rd rfl rfl ?_
         have hls := shT_rlen (t := t) (i := i) (by omega)
         have hlt := hlen i (by omega)
         refine Qq ?_
         refine Qq ?_
         refine Qq ?_
         refine Qq ?_
         refine Qq ?_
         refine Qq ?_
         refine Qq ?_
         refine Qq ?_
         refine Qq ?_
         refine Qq ?_
         refine Qq ?_
         refine Qq ?_
         refine Qq ?_
         refine Qq ?_
         refine Qq ?_
         refine Q_nil ?_
         have tr : ∀ a b c d e f g h i j k m n o p q r s t u v w x y z A B C D E F G H I J K L M N O P Q R S T : AV, let l := lc_cshort_ok a b c d e f g h i j k m n o p q r s t u v w x y z A B C D E; trim ((88,T)::(87,S)::(86,R)::(85,Q)::(84,P)::(83,O)::(82,N)::(81,M)::(80,L)::(79,K)::(78,J)::(77,I)::(76,H)::(75,G)::(74,F)::l) l = [(0,a),(1,b),(2,c),(6,d),(7,e),(8,f),(9,g),(10,h),(11,i),(12,j),(13,k),(14,m),(15,n),(16,o),(17,p),(19,q),(27,r),(34,s),(63,t),(65,u),(66,v),(67,w),(70,x),(71,y),(72,z),(88,T),(90,B),(91,C),(92,D),(116,E)] := by intros; rfl
         refine R_nil (tr ..) ?_; clear tr
         refine then_n ?_
         refine cdd (fun h10 => ?_) (fun h10 => ?_)
         ·
          try simp only [decide_eq_true_eq, decide_eq_false_iff_not, Bool.not_eq_true', Bool.not_eq_false', beq_iff_eq, beq_eq_false_iff_ne, ne_eq] at h10
          refine at_seq rfl ?_
          refine rg rfl ?_
          exfalso; have hle := shT_le hct (i := i) (j := j) (by omega) (by omega); omega
         ·
          try simp only [decide_eq_true_eq, decide_eq_false_iff_not, Bool.not_eq_true', Bool.not_eq_false', beq_iff_eq, beq_eq_false_iff_ne, ne_eq] at h10
          refine at_skip rfl ?_
          refine then_n ?_
          refine at_seq rfl ?_
          refine rg rfl ?_
          refine Rq ?_
          refine Rq ?_
          refine Rq ?_
          have tr : ∀ a b c d e f g h i j k m n o p q r s t u v w x y z A B C D E F G H : AV, let l := lc_cshort_ok a b c d e f g h i j k m n o p q r s t u v w x y z A B C D E; trim ((91,H)::(90,G)::(89,F)::l) l = [(0,a),(1,b),(2,c),(6,d),(7,e),(8,f),(9,g),(10,h),(11,i),(12,j),(13,k),(14,m),(15,n),(16,o),(17,p),(19,q),(27,r),(34,s),(63,t),(65,u),(66,v),(67,w),(70,x),(71,y),(72,z),(88,A),(90,G),(91,H),(92,D),(116,E)] := by intros; rfl
          refine R_nil (tr ..) ?_; clear tr
          refine then_n ?_
          refine at_block rfl ?_
          refine loop_n rfl (fun mm kv H' => ∃ k : Nat, ∃ x6 x13 x92 x116 : AV, (kv = [(6, x6), (13, x13), (91, AV.i k), (92, x92), (116, x116)]) ∧ (mm = t.length - k) ∧ (H' = H) ∧ (k ≤ t.length)) ⟨0, _, _, _, _, rfl, rfl, rfl, by omega⟩ (by rfl) ?_
          rintro mm kv H' ⟨k, x6, x13, x92, x116, rfl, rfl, rfl, hk⟩
          have tr : ∀ a b c d e f g h i j k m n o p q r s t u v w x y z A B C D E F G H I J : AV, upd [(0,a),(1,b),(2,c),(6,d),(7,e),(8,f),(9,g),(10,h),(11,i),(12,j),(13,k),(14,m),(15,n),(16,o),(17,p),(19,q),(27,r),(34,s),(63,t),(65,u),(66,v),(67,w),(70,x),(71,y),(72,z),(88,A),(90,B),(91,C),(92,D),(116,E)] [(6,F),(13,G),(91,H),(92,I),(116,J)] = [(0,a),(1,b),(2,c),(6,F),(7,e),(8,f),(9,g),(10,h),(11,i),(12,j),(13,G),(14,m),(15,n),(16,o),(17,p),(19,q),(27,r),(34,s),(63,t),(65,u),(66,v),(67,w),(70,x),(71,y),(72,z),(88,A),(90,B),(91,H),(92,I),(116,J)] := by intros; rfl
          refine W_to (tr ..) ?_; clear tr
          obtain ⟨H, hHH⟩ : ∃ x, x = H' := ⟨_, rfl⟩
          subst hHH
          refine at_seq rfl ?_
          refine rg rfl ?_
          refine Rq ?_
          have tr : ∀ a b c d e f g h i j k m n o p q r s t u v w x y z A B C D E F : AV, let l := lc_cshort_ok a b c d e f g h i j k m n o p q r s t u v w x y z A B C D E; trim ((92,F)::l) l = [(0,a),(1,b),(2,c),(6,d),(7,e),(8,f),(9,g),(10,h),(11,i),(12,j),(13,k),(14,m),(15,n),(16,o),(17,p),(19,q),(27,r),(34,s),(63,t),(65,u),(66,v),(67,w),(70,x),(71,y),(72,z),(88,A),(90,B),(91,C),(92,F),(116,E)] := by intros; rfl
          refine R_nil (tr ..) ?_; clear tr
          refine then_n ?_
          refine at_seq rfl ?_
          refine cdd (fun h11 => ?_) (fun h11 => ?_)
          ·
           try simp only [decide_eq_true_eq, decide_eq_false_iff_not, Bool.not_eq_true', Bool.not_eq_false', beq_iff_eq, beq_eq_false_iff_ne, ne_eq] at h11
           refine at_skip rfl ?_
           refine then_n ?_
           refine at_seq rfl ?_
           refine at_block rfl ?_
           refine at_seq rfl ?_
           refine rg rfl ?_
           refine Rq ?_
           refine Rq ?_
           have tr : ∀ a b c d e f g h i j k m n o p q r s t u v w x y z A B C D E F G : AV, let l := lc_cshort_ok a b c d e f g h i j k m n o p q r s t u v w x y z A B C D E; trim ((13,G)::(93,F)::l) l = [(0,a),(1,b),(2,c),(6,d),(7,e),(8,f),(9,g),(10,h),(11,i),(12,j),(13,G),(14,m),(15,n),(16,o),(17,p),(19,q),(27,r),(34,s),(63,t),(65,u),(66,v),(67,w),(70,x),(71,y),(72,z),(88,A),(90,B),(91,C),(92,D),(116,E)] := by intros; rfl
           refine R_nil (tr ..) ?_; clear tr
           refine then_n ?_
           refine at_seq rfl ?_
           refine rd rfl rfl ?_
           have hli := shT_rlen (t := t) (i := i) (by omega)
           have hlk := shT_rlen (t := t) (i := k) (by omega)
           have gr1 := shT_rng hct (i := i) (j := k) (by omega) (by omega)
           have gr2 := shT_rng hct (i := k) (j := j) (by omega) (by omega)
           refine Qq ?_
           refine Qq ?_
           refine Qq ?_
           refine Qq ?_
           refine Qq ?_
           refine Qq ?_
           refine Qq ?_
           refine Qq ?_
           refine Qq ?_
           refine Qq ?_
           refine Qq ?_
           refine Qq ?_
           refine Qq ?_
           refine Qq ?_
           refine Qq ?_
           refine Qq ?_
           refine Qq ?_
           refine Qq ?_
           refine Qq ?_
           refine Qq ?_
           refine Qq ?_
           refine Qq ?_
           refine Qq ?_
           refine Q_nil ?_
           have tr : ∀ a b c d e f g h i j k m n o p q r s t u v w x y z A B C D E F G H I J K L M N O P Q R S T U V W X Y Z a1 b1 : AV, let l := lc_cshort_ok a b c d e f g h i j k m n o p q r s t u v w x y z A B C D E; trim ((116,b1)::(115,a1)::(114,Z)::(113,Y)::(112,X)::(111,W)::(110,V)::(109,U)::(108,T)::(107,S)::(106,R)::(105,Q)::(104,P)::(103,O)::(102,N)::(101,M)::(100,L)::(99,K)::(98,J)::(97,I)::(96,H)::(95,G)::(94,F)::l) l = [(0,a),(1,b),(2,c),(6,d),(7,e),(8,f),(9,g),(10,h),(11,i),(12,j),(13,k),(14,m),(15,n),(16,o),(17,p),(19,q),(27,r),(34,s),(63,t),(65,u),(66,v),(67,w),(70,x),(71,y),(72,z),(88,A),(90,B),(91,C),(92,D),(116,b1)] := by intros; rfl
           refine R_nil (tr ..) ?_; clear tr
           refine then_n ?_
           refine cdd (fun h12 => ?_) (fun h12 => ?_)
           ·
            try simp only [decide_eq_true_eq, decide_eq_false_iff_not, Bool.not_eq_true', Bool.not_eq_false', beq_iff_eq, beq_eq_false_iff_ne, ne_eq] at h12
            refine at_seq rfl ?_
            refine rg rfl ?_
            exfalso; have hle := shT_tri hct (i := i) (j := j) (k := k) (by omega) (by omega) (by omega); omega
           ·
            try simp only [decide_eq_true_eq, decide_eq_false_iff_not, Bool.not_eq_true', Bool.not_eq_false', beq_iff_eq, beq_eq_false_iff_ne, ne_eq] at h12
            refine at_skip rfl ?_
            refine blk_n ?_
            refine then_n ?_
            refine rg rfl ?_
            refine Rq ?_
            refine Rq ?_
            have tr : ∀ a b c d e f g h i j k m n o p q r s t u v w x y z A B C D E F G : AV, let l := lc_cshort_ok a b c d e f g h i j k m n o p q r s t u v w x y z A B C D E; trim ((91,G)::(117,F)::l) l = [(0,a),(1,b),(2,c),(6,d),(7,e),(8,f),(9,g),(10,h),(11,i),(12,j),(13,k),(14,m),(15,n),(16,o),(17,p),(19,q),(27,r),(34,s),(63,t),(65,u),(66,v),(67,w),(70,x),(71,y),(72,z),(88,A),(90,B),(91,G),(92,D),(116,E)] := by intros; rfl
            refine R_nil (tr ..) ?_; clear tr
            refine then_n ?_
            exact ⟨_, _, ⟨k + 1, _, _, _, _, rfl, rfl, rfl, by omega⟩, by rfl, by omega⟩
          ·
           try simp only [decide_eq_true_eq, decide_eq_false_iff_not, Bool.not_eq_true', Bool.not_eq_false', beq_iff_eq, beq_eq_false_iff_ne, ne_eq] at h11
           refine at_exit rfl ?_
           refine then_x ?_
           refine then_x ?_
           refine blk_x ?_
           refine blk_n ?_
           refine then_n ?_
           refine rg rfl ?_
           refine Rq ?_
           refine Rq ?_
           have tr : ∀ a b c d e f g h i j k m n o p q r s t u v w x y z A B C D E F G : AV, let l := lc_cshort_ok a b c d e f g h i j k m n o p q r s t u v w x y z A B C D E; trim ((71,G)::(118,F)::l) l = [(0,a),(1,b),(2,c),(6,d),(7,e),(8,f),(9,g),(10,h),(11,i),(12,j),(13,k),(14,m),(15,n),(16,o),(17,p),(19,q),(27,r),(34,s),(63,t),(65,u),(66,v),(67,w),(70,x),(71,G),(72,z),(88,A),(90,B),(91,C),(92,D),(116,E)] := by intros; rfl
           refine R_nil (tr ..) ?_; clear tr
           refine then_n ?_
           exact ⟨_, _, ⟨j + 1, _, _, _, _, _, _, _, _, _, rfl, rfl, rfl, by omega⟩, by rfl, by omega⟩
        ·
         try simp only [decide_eq_true_eq, decide_eq_false_iff_not, Bool.not_eq_true', Bool.not_eq_false', beq_iff_eq, beq_eq_false_iff_ne, ne_eq] at h9
         refine at_exit rfl ?_
         refine then_x ?_
         refine then_x ?_
         refine blk_x ?_
         refine blk_n ?_
         refine then_n ?_
         refine rg rfl ?_
         refine Rq ?_
         refine Rq ?_
         have tr : ∀ a b c d e f g h i j k m n o p q r s t u v w x y z A B C D E F G : AV, let l := lc_cshort_ok a b c d e f g h i j k m n o p q r s t u v w x y z A B C D E; trim ((66,G)::(119,F)::l) l = [(0,a),(1,b),(2,c),(6,d),(7,e),(8,f),(9,g),(10,h),(11,i),(12,j),(13,k),(14,m),(15,n),(16,o),(17,p),(19,q),(27,r),(34,s),(63,t),(65,u),(66,G),(67,w),(70,x),(71,y),(72,z),(88,A),(90,B),(91,C),(92,D),(116,E)] := by intros; rfl
         refine R_nil (tr ..) ?_; clear tr
         refine then_n ?_
         exact ⟨_, _, ⟨i + 1, _, _, _, _, _, _, _, _, _, _, _, _, _, rfl, rfl, rfl, by omega⟩, by rfl, by omega⟩
       ·
        try simp only [decide_eq_true_eq, decide_eq_false_iff_not, Bool.not_eq_true', Bool.not_eq_false', beq_iff_eq, beq_eq_false_iff_ne, ne_eq] at h8
        refine at_exit rfl ?_
        refine then_x ?_
        refine then_x ?_
        refine blk_x ?_
        refine then_n ?_
        refine at_seq rfl ?_
        refine rg rfl ?_
        refine Rq ?_
        refine Rq ?_
        refine Rq ?_
        refine Rcall ?_
        refine ACall_eq (route_ok _ _ _ _ _) ?_
        refine Rq ?_
        refine Rq ?_
        refine Rq ?_
        refine Rq ?_
        refine Rq ?_
        have tr : ∀ a b c d e f g h i j k m n o p q r s t u v w x y z A B C D E F G H I J K L M N : AV, let l := lc_cshort_ok a b c d e f g h i j k m n o p q r s t u v w x y z A B C D E; trim ((15,N)::(14,M)::(126,L)::(125,K)::(120,J)::(124,I)::(123,H)::(122,G)::(121,F)::l) l = [(0,a),(1,b),(2,c),(6,d),(7,e),(8,f),(9,g),(10,h),(11,i),(12,j),(13,k),(14,M),(15,N),(16,o),(17,p),(19,q),(27,r),(34,s),(63,t),(65,u),(66,v),(67,w),(70,x),(71,y),(72,z),(88,A),(90,B),(91,C),(92,D),(116,E)] := by intros; rfl
        refine R_nil (tr ..) ?_; clear tr
        refine then_n ?_
        refine at_seq rfl ?_
        refine rg rfl ?_
        refine Rq ?_
        refine Rq ?_
        refine Rq ?_
        refine Rcall ?_
        refine ACall_eq (route_ok _ _ _ _ _) ?_
        refine Rq ?_
        refine Rq ?_
        refine Rq ?_
        refine Rq ?_
        refine Rq ?_
        have tr : ∀ a b c d e f g h i j k m n o p q r s t u v w x y z A B C D E F G H I J K L M N : AV, let l := lc_cshort_ok a b c d e f g h i j k m n o p q r s t u v w x y z A B C D E; trim ((17,N)::(16,M)::(133,L)::(132,K)::(127,J)::(131,I)::(130,H)::(129,G)::(128,F)::l) l = [(0,a),(1,b),(2,c),(6,d),(7,e),(8,f),(9,g),(10,h),(11,i),(12,j),(13,k),(14,m),(15,n),(16,M),(17,N),(19,q),(27,r),(34,s),(63,t),(65,u),(66,v),(67,w),(70,x),(71,y),(72,z),(88,A),(90,B),(91,C),(92,D),(116,E)] := by intros; rfl
        refine R_nil (tr ..) ?_; clear tr
        refine then_n ?_
        refine at_seq rfl ?_
        refine rg rfl ?_
        have hrs := route_sh (l := l) (rest := rest) hct
        refine Rq ?_
        refine Rq ?_
        refine Rq ?_
        refine Rq ?_
        refine Rp_split (fun h13 => ?_) (fun h13 => ?_)
        ·
         try simp only [decide_eq_true_eq, decide_eq_false_iff_not, Bool.not_eq_true', Bool.not_eq_false', beq_iff_eq, beq_eq_false_iff_ne, ne_eq] at h13
         refine Ry ?_
         refine Rq ?_
         refine Ry ?_
         refine Rq ?_
         refine Ry ?_
         refine Rq ?_
         refine Rp_split (fun h14 => ?_) (fun h14 => ?_)
         ·
          try simp only [decide_eq_true_eq, decide_eq_false_iff_not, Bool.not_eq_true', Bool.not_eq_false', beq_iff_eq, beq_eq_false_iff_ne, ne_eq] at h14
          refine Rn ?_
          refine Rn ?_
          refine Ry ?_
          refine Rq ?_
          refine Rq ?_
          refine Rq ?_
          have tr : ∀ a b c d e f g h i j k m n o p q r s t u v w x y z A B C D E F G H I J K L M N O P Q : AV, let l := lc_cshort_ok a b c d e f g h i j k m n o p q r s t u v w x y z A B C D E; trim ((6,Q)::(144,P)::(143,O)::(142,N)::(141,M)::(140,L)::(139,K)::(138,J)::(137,I)::(136,H)::(135,G)::(134,F)::l) l = [(0,a),(1,b),(2,c),(6,Q),(7,e),(8,f),(9,g),(10,h),(11,i),(12,j),(13,k),(14,m),(15,n),(16,o),(17,p),(19,q),(27,r),(34,s),(63,t),(65,u),(66,v),(67,w),(70,x),(71,y),(72,z),(88,A),(90,B),(91,C),(92,D),(116,E)] := by intros; rfl
          refine R_nil (tr ..) ?_; clear tr
          refine then_n ?_
          refine at_ret rfl ?_
          refine fpure ?_
          first | rfl | (simp; done) | (have hb1 := hrs.2 (by first | assumption | omega); simp [hb1])
         ·
          try simp only [decide_eq_true_eq, decide_eq_false_iff_not, Bool.not_eq_true', Bool.not_eq_false', beq_iff_eq, beq_eq_false_iff_ne, ne_eq] at h14
          refine Ry ?_
          refine Rq ?_
          refine Ry ?_
          refine Rq ?_
          refine Ry ?_
          refine Rq ?_
          refine Rq ?_
          refine Rq ?_
          have tr : ∀ a b c d e f g h i j k m n o p q r s t u v w x y z A B C D E F G H I J K L M N O P Q : AV, let l := lc_cshort_ok a b c d e f g h i j k m n o p q r s t u v w x y z A B C D E; trim ((6,Q)::(144,P)::(143,O)::(142,N)::(141,M)::(140,L)::(139,K)::(138,J)::(137,I)::(136,H)::(135,G)::(134,F)::l) l = [(0,a),(1,b),(2,c),(6,Q),(7,e),(8,f),(9,g),(10,h),(11,i),(12,j),(13,k),(14,m),(15,n),(16,o),(17,p),(19,q),(27,r),(34,s),(63,t),(65,u),(66,v),(67,w),(70,x),(71,y),(72,z),(88,A),(90,B),(91,C),(92,D),(116,E)] := by intros; rfl
          refine R_nil (tr ..) ?_; clear tr
          refine then_n ?_
          refine at_ret rfl ?_
          refine fpure ?_
          first | rfl | (simp; done) | (have hb1 := hrs.2 (by first | assumption | omega); simp [hb1])
        ·
         try simp only [decide_eq_true_eq, decide_eq_false_iff_not, Bool.not_eq_true', Bool.not_eq_false', beq_iff_eq, beq_eq_false_iff_ne, ne_eq] at h13
         exact absurd hrs.1.symm (by assumption)

end Go.Proofs.YtocmcdejkoejhaaDoor
