/-
  Walks of chapter 48. The steps are written by program (walk.py).
-/
import Derived.Test.YtocmcdejkoejhaaDoorDB
import Derived.Test.YtocmcdejkoejhaaDoorDC
import Derived.Test.YtocmcdejkoejhaaDoorAw
set_option linter.unusedSimpArgs false
set_option linter.unusedVariables false
set_option maxHeartbeats 1000000
set_option maxRecDepth 20000
namespace Go.Proofs.YtocmcdejkoejhaaDoor
open Go Go.Am
abbrev lc_cdates_ok (a b c d e f g h i j k m n o p q r s t u v w x y z : AV) : Env := [(0,a),(2,b),(3,c),(4,d),(5,e),(6,f),(7,g),(8,h),(9,i),(10,j),(11,k),(12,m),(13,n),(14,o),(15,p),(16,q),(17,r),(18,s),(19,t),(20,u),(21,v),(23,w),(46,x),(124,y),(126,z)]
theorem cdates_ok (lim : Nat) (H : Heap) (n : Int) : ACall sig lim 4 [AV.i n] H fun r _ => r = .v (.bool true) := by
 refine ACall_pure (fa := fa4) rfl rfl rfl rfl ?_
 have tr : ∀ a0 : AV, env0 fa4.keep [a0] = [(0,a0),(2,.any),(3,.any),(4,.any),(5,.any),(6,.any),(7,.any),(8,.any),(9,.any),(10,.any),(11,.any),(12,.any),(13,.any),(14,.any),(15,.any),(16,.any),(17,.any),(18,.any),(19,.any),(20,.any),(21,.any),(23,.any),(46,.any),(124,.any),(126,.any)] := fun a0 => rfl
 refine W_to (tr _) ?_; clear tr
 refine at_seq rfl ?_
 refine rg rfl ?_
 refine Rq ?_
 have tr : ∀ a b c d e f g h i j k m n o p q r s t u v w x y z A : AV, let l := lc_cdates_ok a b c d e f g h i j k m n o p q r s t u v w x y z; trim ((2,A)::l) l = [(0,a),(2,A),(3,c),(4,d),(5,e),(6,f),(7,g),(8,h),(9,i),(10,j),(11,k),(12,m),(13,n),(14,o),(15,p),(16,q),(17,r),(18,s),(19,t),(20,u),(21,v),(23,w),(46,x),(124,y),(126,z)] := by intros; rfl
 refine R_nil (tr ..) ?_; clear tr
 refine then_n ?_
 refine at_seq rfl ?_
 refine at_seq rfl ?_
 refine rg rfl ?_
 refine Rcall ?_
 refine ACall_eval 400 (awake48 _ _) ?_
 refine Rq ?_
 have tr : ∀ a b c d e f g h i j k m n o p q r s t u v w x y z A B : AV, let l := lc_cdates_ok a b c d e f g h i j k m n o p q r s t u v w x y z; trim ((23,B)::(22,A)::l) l = [(0,a),(2,b),(3,c),(4,d),(5,e),(6,f),(7,g),(8,h),(9,i),(10,j),(11,k),(12,m),(13,n),(14,o),(15,p),(16,q),(17,r),(18,s),(19,t),(20,u),(21,v),(23,B),(46,x),(124,y),(126,z)] := by intros; rfl
 refine R_nil (tr ..) ?_; clear tr
 refine then_n ?_
 refine cdf ?_
 refine at_skip rfl ?_
 refine then_n ?_
 refine at_seq rfl ?_
 refine rg rfl ?_
 refine Rq ?_
 refine Rcall ?_
 refine ACall_mono (date_ok _ _ n) ?_
 rintro r Hx ⟨⟨rfl, hD⟩, hHx⟩
 have hHx := hHx.symm
 subst hHx
 refine Rq ?_
 refine Rq ?_
 refine Rq ?_
 refine Rq ?_
 refine Rq ?_
 refine Rq ?_
 refine Rq ?_
 refine Rq ?_
 refine Rq ?_
 have tr : ∀ a b c d e f g h i j k m n o p q r s t u v w x y z A B C D E F G H I J K : AV, let l := lc_cdates_ok a b c d e f g h i j k m n o p q r s t u v w x y z; trim ((6,K)::(5,J)::(4,I)::(3,H)::(30,G)::(29,F)::(28,E)::(27,D)::(24,C)::(26,B)::(25,A)::l) l = [(0,a),(2,b),(3,H),(4,I),(5,J),(6,K),(7,g),(8,h),(9,i),(10,j),(11,k),(12,m),(13,n),(14,o),(15,p),(16,q),(17,r),(18,s),(19,t),(20,u),(21,v),(23,w),(46,x),(124,y),(126,z)] := by intros; rfl
 refine R_nil (tr ..) ?_; clear tr
 refine then_n ?_
 refine at_seq rfl ?_
 refine rg rfl ?_
 refine Rq ?_
 refine Rcall ?_
 refine ACall_eq (text_ok _ _ _) ?_
 refine Rq ?_
 refine Rq ?_
 refine Rq ?_
 refine Rq ?_
 refine Rq ?_
 have tr : ∀ a b c d e f g h i j k m n o p q r s t u v w x y z A B C D E F G : AV, let l := lc_cdates_ok a b c d e f g h i j k m n o p q r s t u v w x y z; trim ((8,G)::(7,F)::(35,E)::(34,D)::(31,C)::(33,B)::(32,A)::l) l = [(0,a),(2,b),(3,c),(4,d),(5,e),(6,f),(7,F),(8,G),(9,i),(10,j),(11,k),(12,m),(13,n),(14,o),(15,p),(16,q),(17,r),(18,s),(19,t),(20,u),(21,v),(23,w),(46,x),(124,y),(126,z)] := by intros; rfl
 refine R_nil (tr ..) ?_; clear tr
 refine then_n ?_
 refine at_seq rfl ?_
 refine rg rfl ?_
 refine Rq ?_
 refine Rcall ?_
 refine ACall_eq (weekday_ok _ _ _) ?_
 refine Rq ?_
 refine Rq ?_
 refine Rq ?_
 refine Rq ?_
 refine Rq ?_
 have tr : ∀ a b c d e f g h i j k m n o p q r s t u v w x y z A B C D E F G : AV, let l := lc_cdates_ok a b c d e f g h i j k m n o p q r s t u v w x y z; trim ((10,G)::(9,F)::(40,E)::(39,D)::(36,C)::(38,B)::(37,A)::l) l = [(0,a),(2,b),(3,c),(4,d),(5,e),(6,f),(7,g),(8,h),(9,F),(10,G),(11,k),(12,m),(13,n),(14,o),(15,p),(16,q),(17,r),(18,s),(19,t),(20,u),(21,v),(23,w),(46,x),(124,y),(126,z)] := by intros; rfl
 refine R_nil (tr ..) ?_; clear tr
 refine then_n ?_
 refine at_seq rfl ?_
 refine at_seq rfl ?_
 refine rg rfl ?_
 refine Rq ?_
 refine Rq ?_
 refine Rq ?_
 refine Rp_split (fun h1 => ?_) (fun h1 => ?_)
 ·
  try simp only [decide_eq_true_eq, decide_eq_false_iff_not, Bool.not_eq_true', Bool.not_eq_false', beq_iff_eq, beq_eq_false_iff_ne, ne_eq] at h1
  refine Rn ?_
  refine Rn ?_
  refine Rq ?_
  have tr : ∀ a b c d e f g h i j k m n o p q r s t u v w x y z A B C D E F : AV, let l := lc_cdates_ok a b c d e f g h i j k m n o p q r s t u v w x y z; trim ((46,F)::(45,E)::(44,D)::(43,C)::(42,B)::(41,A)::l) l = [(0,a),(2,b),(3,c),(4,d),(5,e),(6,f),(7,g),(8,h),(9,i),(10,j),(11,k),(12,m),(13,n),(14,o),(15,p),(16,q),(17,r),(18,s),(19,t),(20,u),(21,v),(23,w),(46,F),(124,y),(126,z)] := by intros; rfl
  refine R_nil (tr ..) ?_; clear tr
  refine then_n ?_
  refine cdt ?_
  refine at_seq rfl ?_
  refine rg rfl ?_
  rw [show dtS n = ((0, 0, 0), 2) by rw [dtS, if_pos (by omega)], show txS n = (⟨#[]⟩, 2) by rw [txS, if_pos (by omega)], show wkS n = (0, 2) by rw [wkS, if_pos (by omega)]]
  refine Rq ?_
  refine Rq ?_
  refine Rq ?_
  refine Rp_split (fun h2 => ?_) (fun h2 => ?_)
  ·
   try simp only [decide_eq_true_eq, decide_eq_false_iff_not, Bool.not_eq_true', Bool.not_eq_false', beq_iff_eq, beq_eq_false_iff_ne, ne_eq] at h2
   refine Ry ?_
   refine Rq ?_
   refine Ry ?_
   refine Rq ?_
   refine Rq ?_
   refine Rq ?_
   refine Rp_split (fun h3 => ?_) (fun h3 => ?_)
   ·
    try simp only [decide_eq_true_eq, decide_eq_false_iff_not, Bool.not_eq_true', Bool.not_eq_false', beq_iff_eq, beq_eq_false_iff_ne, ne_eq] at h3
    refine Ry ?_
    refine Rq ?_
    refine Ry ?_
    refine Rq ?_
    refine Rq ?_
    refine Rq ?_
    refine Rp_split (fun h4 => ?_) (fun h4 => ?_)
    ·
     try simp only [decide_eq_true_eq, decide_eq_false_iff_not, Bool.not_eq_true', Bool.not_eq_false', beq_iff_eq, beq_eq_false_iff_ne, ne_eq] at h4
     refine Ry ?_
     refine Rq ?_
     refine Ry ?_
     refine Rq ?_
     refine Rq ?_
     refine Rq ?_
     refine Rp_split (fun h5 => ?_) (fun h5 => ?_)
     ·
      try simp only [decide_eq_true_eq, decide_eq_false_iff_not, Bool.not_eq_true', Bool.not_eq_false', beq_iff_eq, beq_eq_false_iff_ne, ne_eq] at h5
      refine Ry ?_
      refine Rq ?_
      refine Ry ?_
      refine Rq ?_
      refine Rq ?_
      refine Rq ?_
      refine Rp_split (fun h6 => ?_) (fun h6 => ?_)
      ·
       try simp only [decide_eq_true_eq, decide_eq_false_iff_not, Bool.not_eq_true', Bool.not_eq_false', beq_iff_eq, beq_eq_false_iff_ne, ne_eq] at h6
       refine Ry ?_
       refine Rq ?_
       refine Ry ?_
       refine Rq ?_
       refine Rq ?_
       refine Rq ?_
       refine Rp_split (fun h7 => ?_) (fun h7 => ?_)
       ·
        try simp only [decide_eq_true_eq, decide_eq_false_iff_not, Bool.not_eq_true', Bool.not_eq_false', beq_iff_eq, beq_eq_false_iff_ne, ne_eq] at h7
        refine Ry ?_
        refine Rq ?_
        refine Ry ?_
        refine Rq ?_
        refine Rq ?_
        refine Rq ?_
        refine Rp_split (fun h8 => ?_) (fun h8 => ?_)
        ·
         try simp only [decide_eq_true_eq, decide_eq_false_iff_not, Bool.not_eq_true', Bool.not_eq_false', beq_iff_eq, beq_eq_false_iff_ne, ne_eq] at h8
         refine Ry ?_
         refine Rq ?_
         refine Ry ?_
         refine Rq ?_
         refine Rq ?_
         refine Rq ?_
         have tr : ∀ a b c d e f g h i j k m n o p q r s t u v w x y z A B C D E F G H I J K L M N O P Q R S T U V W X Y Z a1 b1 c1 d1 e1 : AV, let l := lc_cdates_ok a b c d e f g h i j k m n o p q r s t u v w x y z; trim ((2,e1)::(76,d1)::(75,c1)::(74,b1)::(73,a1)::(72,Z)::(71,Y)::(70,X)::(69,W)::(68,V)::(67,U)::(66,T)::(65,S)::(64,R)::(63,Q)::(62,P)::(61,O)::(60,N)::(59,M)::(58,L)::(57,K)::(56,J)::(55,I)::(54,H)::(53,G)::(52,F)::(51,E)::(50,D)::(49,C)::(48,B)::(47,A)::l) l = [(0,a),(2,e1),(3,c),(4,d),(5,e),(6,f),(7,g),(8,h),(9,i),(10,j),(11,k),(12,m),(13,n),(14,o),(15,p),(16,q),(17,r),(18,s),(19,t),(20,u),(21,v),(23,w),(46,x),(124,y),(126,z)] := by intros; rfl
         refine R_nil (tr ..) ?_; clear tr
         refine then_n ?_
         refine at_ret rfl ?_
         refine then_r ?_
         refine fpure ?_
         first | rfl | (exfalso; omega) | (refine congrArg (fun b => AV.v (.bool b)) ?_; first | (exact decide_eq_true (by omega)) | (simp; omega)) | (simp; done)
        ·
         try simp only [decide_eq_true_eq, decide_eq_false_iff_not, Bool.not_eq_true', Bool.not_eq_false', beq_iff_eq, beq_eq_false_iff_ne, ne_eq] at h8
         first | omega | contradiction | exact absurd rfl (by assumption) | exact absurd trivial (by assumption)
       ·
        try simp only [decide_eq_true_eq, decide_eq_false_iff_not, Bool.not_eq_true', Bool.not_eq_false', beq_iff_eq, beq_eq_false_iff_ne, ne_eq] at h7
        first | omega | contradiction | exact absurd rfl (by assumption) | exact absurd trivial (by assumption)
      ·
       try simp only [decide_eq_true_eq, decide_eq_false_iff_not, Bool.not_eq_true', Bool.not_eq_false', beq_iff_eq, beq_eq_false_iff_ne, ne_eq] at h6
       first | omega | contradiction | exact absurd rfl (by assumption) | exact absurd trivial (by assumption)
     ·
      try simp only [decide_eq_true_eq, decide_eq_false_iff_not, Bool.not_eq_true', Bool.not_eq_false', beq_iff_eq, beq_eq_false_iff_ne, ne_eq] at h5
      first | omega | contradiction | exact absurd rfl (by assumption) | exact absurd trivial (by assumption)
    ·
     try simp only [decide_eq_true_eq, decide_eq_false_iff_not, Bool.not_eq_true', Bool.not_eq_false', beq_iff_eq, beq_eq_false_iff_ne, ne_eq] at h4
     first | omega | contradiction | exact absurd rfl (by assumption) | exact absurd trivial (by assumption)
   ·
    try simp only [decide_eq_true_eq, decide_eq_false_iff_not, Bool.not_eq_true', Bool.not_eq_false', beq_iff_eq, beq_eq_false_iff_ne, ne_eq] at h3
    first | omega | contradiction | exact absurd rfl (by assumption) | exact absurd trivial (by assumption)
  ·
   try simp only [decide_eq_true_eq, decide_eq_false_iff_not, Bool.not_eq_true', Bool.not_eq_false', beq_iff_eq, beq_eq_false_iff_ne, ne_eq] at h2
   first | omega | contradiction | exact absurd rfl (by assumption) | exact absurd trivial (by assumption)
 ·
  try simp only [decide_eq_true_eq, decide_eq_false_iff_not, Bool.not_eq_true', Bool.not_eq_false', beq_iff_eq, beq_eq_false_iff_ne, ne_eq] at h1
  refine Ry ?_
  refine Rq ?_
  refine Ry ?_
  refine Rq ?_
  refine Rq ?_
  have tr : ∀ a b c d e f g h i j k m n o p q r s t u v w x y z A B C D E F : AV, let l := lc_cdates_ok a b c d e f g h i j k m n o p q r s t u v w x y z; trim ((46,F)::(45,E)::(44,D)::(43,C)::(42,B)::(41,A)::l) l = [(0,a),(2,b),(3,c),(4,d),(5,e),(6,f),(7,g),(8,h),(9,i),(10,j),(11,k),(12,m),(13,n),(14,o),(15,p),(16,q),(17,r),(18,s),(19,t),(20,u),(21,v),(23,w),(46,F),(124,y),(126,z)] := by intros; rfl
  refine R_nil (tr ..) ?_; clear tr
  refine then_n ?_
  refine cdd (fun h9 => ?_) (fun h9 => ?_)
  ·
   try simp only [decide_eq_true_eq, decide_eq_false_iff_not, Bool.not_eq_true', Bool.not_eq_false', beq_iff_eq, beq_eq_false_iff_ne, ne_eq] at h9
   refine at_seq rfl ?_
   refine rg rfl ?_
   rw [show dtS n = ((0, 0, 0), 2) by rw [dtS, if_pos (by omega)], show txS n = (⟨#[]⟩, 2) by rw [txS, if_pos (by omega)], show wkS n = (0, 2) by rw [wkS, if_pos (by omega)]]
   refine Rq ?_
   refine Rq ?_
   refine Rq ?_
   refine Rp_split (fun h10 => ?_) (fun h10 => ?_)
   ·
    try simp only [decide_eq_true_eq, decide_eq_false_iff_not, Bool.not_eq_true', Bool.not_eq_false', beq_iff_eq, beq_eq_false_iff_ne, ne_eq] at h10
    refine Ry ?_
    refine Rq ?_
    refine Ry ?_
    refine Rq ?_
    refine Rq ?_
    refine Rq ?_
    refine Rp_split (fun h11 => ?_) (fun h11 => ?_)
    ·
     try simp only [decide_eq_true_eq, decide_eq_false_iff_not, Bool.not_eq_true', Bool.not_eq_false', beq_iff_eq, beq_eq_false_iff_ne, ne_eq] at h11
     refine Ry ?_
     refine Rq ?_
     refine Ry ?_
     refine Rq ?_
     refine Rq ?_
     refine Rq ?_
     refine Rp_split (fun h12 => ?_) (fun h12 => ?_)
     ·
      try simp only [decide_eq_true_eq, decide_eq_false_iff_not, Bool.not_eq_true', Bool.not_eq_false', beq_iff_eq, beq_eq_false_iff_ne, ne_eq] at h12
      refine Ry ?_
      refine Rq ?_
      refine Ry ?_
      refine Rq ?_
      refine Rq ?_
      refine Rq ?_
      refine Rp_split (fun h13 => ?_) (fun h13 => ?_)
      ·
       try simp only [decide_eq_true_eq, decide_eq_false_iff_not, Bool.not_eq_true', Bool.not_eq_false', beq_iff_eq, beq_eq_false_iff_ne, ne_eq] at h13
       refine Ry ?_
       refine Rq ?_
       refine Ry ?_
       refine Rq ?_
       refine Rq ?_
       refine Rq ?_
       refine Rp_split (fun h14 => ?_) (fun h14 => ?_)
       ·
        try simp only [decide_eq_true_eq, decide_eq_false_iff_not, Bool.not_eq_true', Bool.not_eq_false', beq_iff_eq, beq_eq_false_iff_ne, ne_eq] at h14
        refine Ry ?_
        refine Rq ?_
        refine Ry ?_
        refine Rq ?_
        refine Rq ?_
        refine Rq ?_
        refine Rp_split (fun h15 => ?_) (fun h15 => ?_)
        ·
         try simp only [decide_eq_true_eq, decide_eq_false_iff_not, Bool.not_eq_true', Bool.not_eq_false', beq_iff_eq, beq_eq_false_iff_ne, ne_eq] at h15
         refine Ry ?_
         refine Rq ?_
         refine Ry ?_
         refine Rq ?_
         refine Rq ?_
         refine Rq ?_
         refine Rp_split (fun h16 => ?_) (fun h16 => ?_)
         ·
          try simp only [decide_eq_true_eq, decide_eq_false_iff_not, Bool.not_eq_true', Bool.not_eq_false', beq_iff_eq, beq_eq_false_iff_ne, ne_eq] at h16
          refine Ry ?_
          refine Rq ?_
          refine Ry ?_
          refine Rq ?_
          refine Rq ?_
          refine Rq ?_
          have tr : ∀ a b c d e f g h i j k m n o p q r s t u v w x y z A B C D E F G H I J K L M N O P Q R S T U V W X Y Z a1 b1 c1 d1 e1 : AV, let l := lc_cdates_ok a b c d e f g h i j k m n o p q r s t u v w x y z; trim ((2,e1)::(76,d1)::(75,c1)::(74,b1)::(73,a1)::(72,Z)::(71,Y)::(70,X)::(69,W)::(68,V)::(67,U)::(66,T)::(65,S)::(64,R)::(63,Q)::(62,P)::(61,O)::(60,N)::(59,M)::(58,L)::(57,K)::(56,J)::(55,I)::(54,H)::(53,G)::(52,F)::(51,E)::(50,D)::(49,C)::(48,B)::(47,A)::l) l = [(0,a),(2,e1),(3,c),(4,d),(5,e),(6,f),(7,g),(8,h),(9,i),(10,j),(11,k),(12,m),(13,n),(14,o),(15,p),(16,q),(17,r),(18,s),(19,t),(20,u),(21,v),(23,w),(46,x),(124,y),(126,z)] := by intros; rfl
          refine R_nil (tr ..) ?_; clear tr
          refine then_n ?_
          refine at_ret rfl ?_
          refine then_r ?_
          refine fpure ?_
          first | rfl | (exfalso; omega) | (refine congrArg (fun b => AV.v (.bool b)) ?_; first | (exact decide_eq_true (by omega)) | (simp; omega)) | (simp; done)
         ·
          try simp only [decide_eq_true_eq, decide_eq_false_iff_not, Bool.not_eq_true', Bool.not_eq_false', beq_iff_eq, beq_eq_false_iff_ne, ne_eq] at h16
          first | omega | contradiction | exact absurd rfl (by assumption) | exact absurd trivial (by assumption)
        ·
         try simp only [decide_eq_true_eq, decide_eq_false_iff_not, Bool.not_eq_true', Bool.not_eq_false', beq_iff_eq, beq_eq_false_iff_ne, ne_eq] at h15
         first | omega | contradiction | exact absurd rfl (by assumption) | exact absurd trivial (by assumption)
       ·
        try simp only [decide_eq_true_eq, decide_eq_false_iff_not, Bool.not_eq_true', Bool.not_eq_false', beq_iff_eq, beq_eq_false_iff_ne, ne_eq] at h14
        first | omega | contradiction | exact absurd rfl (by assumption) | exact absurd trivial (by assumption)
      ·
       try simp only [decide_eq_true_eq, decide_eq_false_iff_not, Bool.not_eq_true', Bool.not_eq_false', beq_iff_eq, beq_eq_false_iff_ne, ne_eq] at h13
       first | omega | contradiction | exact absurd rfl (by assumption) | exact absurd trivial (by assumption)
     ·
      try simp only [decide_eq_true_eq, decide_eq_false_iff_not, Bool.not_eq_true', Bool.not_eq_false', beq_iff_eq, beq_eq_false_iff_ne, ne_eq] at h12
      first | omega | contradiction | exact absurd rfl (by assumption) | exact absurd trivial (by assumption)
    ·
     try simp only [decide_eq_true_eq, decide_eq_false_iff_not, Bool.not_eq_true', Bool.not_eq_false', beq_iff_eq, beq_eq_false_iff_ne, ne_eq] at h11
     first | omega | contradiction | exact absurd rfl (by assumption) | exact absurd trivial (by assumption)
   ·
    try simp only [decide_eq_true_eq, decide_eq_false_iff_not, Bool.not_eq_true', Bool.not_eq_false', beq_iff_eq, beq_eq_false_iff_ne, ne_eq] at h10
    first | omega | contradiction | exact absurd rfl (by assumption) | exact absurd trivial (by assumption)
  ·
   try simp only [decide_eq_true_eq, decide_eq_false_iff_not, Bool.not_eq_true', Bool.not_eq_false', beq_iff_eq, beq_eq_false_iff_ne, ne_eq] at h9
   refine at_skip rfl ?_
   refine then_n ?_
   refine at_seq rfl ?_
   refine rg rfl ?_
   have hR0 := hD (by omega)
   obtain ⟨y, m, d, hdd⟩ : ∃ y m d, dateS n = (y, m, d) := ⟨_, _, _, rfl⟩
   have hR : DateR n y m d := by rw [hdd] at hR0; exact hR0
   have hrg := date_range hR
   rw [show dtS n = ((y, m, d), 0) by rw [dtS, if_neg (by omega), hdd], show txS n = (txt y m d, 0) by rw [txS, if_neg (by omega), hdd], show wkS n = (n % 7 + 1, 0) by rw [wkS, if_neg (by omega)]]
   refine Rq ?_
   refine Rq ?_
   refine Rq ?_
   refine Rcall ?_
   refine ACall_eq (day_ok _ _ _ _ _) ?_
   rw [date_day hR]
   refine Rq ?_
   refine Rq ?_
   refine Rq ?_
   refine Rq ?_
   refine Rq ?_
   have tr : ∀ a b c d e f g h i j k m n o p q r s t u v w x y z A B C D E F G H I : AV, let l := lc_cdates_ok a b c d e f g h i j k m n o p q r s t u v w x y z; trim ((12,I)::(11,H)::(83,G)::(82,F)::(77,E)::(81,D)::(80,C)::(79,B)::(78,A)::l) l = [(0,a),(2,b),(3,c),(4,d),(5,e),(6,f),(7,g),(8,h),(9,i),(10,j),(11,H),(12,I),(13,n),(14,o),(15,p),(16,q),(17,r),(18,s),(19,t),(20,u),(21,v),(23,w),(46,x),(124,y),(126,z)] := by intros; rfl
   refine R_nil (tr ..) ?_; clear tr
   refine then_n ?_
   refine at_seq rfl ?_
   refine rg rfl ?_
   refine Rq ?_
   refine Rcall ?_
   refine ACall_eq (parse_ok _ _ _) ?_
   rw [par_txt hrg.1 hrg.2.1 hrg.2.2, date_day hR]
   refine Rq ?_
   refine Rq ?_
   refine Rq ?_
   refine Rq ?_
   refine Rq ?_
   have tr : ∀ a b c d e f g h i j k m n o p q r s t u v w x y z A B C D E F G : AV, let l := lc_cdates_ok a b c d e f g h i j k m n o p q r s t u v w x y z; trim ((14,G)::(13,F)::(88,E)::(87,D)::(84,C)::(86,B)::(85,A)::l) l = [(0,a),(2,b),(3,c),(4,d),(5,e),(6,f),(7,g),(8,h),(9,i),(10,j),(11,k),(12,m),(13,F),(14,G),(15,p),(16,q),(17,r),(18,s),(19,t),(20,u),(21,v),(23,w),(46,x),(124,y),(126,z)] := by intros; rfl
   refine R_nil (tr ..) ?_; clear tr
   refine then_n ?_
   refine at_seq rfl ?_
   refine at_seq rfl ?_
   refine rg rfl ?_
   refine Rq ?_
   refine Rq ?_
   refine Rq ?_
   refine Rp_split (fun h17 => ?_) (fun h17 => ?_)
   ·
    try simp only [decide_eq_true_eq, decide_eq_false_iff_not, Bool.not_eq_true', Bool.not_eq_false', beq_iff_eq, beq_eq_false_iff_ne, ne_eq] at h17
    first | omega | contradiction | exact absurd rfl (by assumption) | exact absurd trivial (by assumption)
   ·
    try simp only [decide_eq_true_eq, decide_eq_false_iff_not, Bool.not_eq_true', Bool.not_eq_false', beq_iff_eq, beq_eq_false_iff_ne, ne_eq] at h17
    refine Ry ?_
    refine Rq ?_
    refine Ry ?_
    refine Rq ?_
    refine Rq ?_
    refine Rq ?_
    refine Rp_split (fun h18 => ?_) (fun h18 => ?_)
    ·
     try simp only [decide_eq_true_eq, decide_eq_false_iff_not, Bool.not_eq_true', Bool.not_eq_false', beq_iff_eq, beq_eq_false_iff_ne, ne_eq] at h18
     first | omega | contradiction | exact absurd rfl (by assumption) | exact absurd trivial (by assumption)
    ·
     try simp only [decide_eq_true_eq, decide_eq_false_iff_not, Bool.not_eq_true', Bool.not_eq_false', beq_iff_eq, beq_eq_false_iff_ne, ne_eq] at h18
     refine Ry ?_
     refine Rq ?_
     refine Ry ?_
     refine Rq ?_
     refine Rq ?_
     refine Rq ?_
     refine Rp_split (fun h19 => ?_) (fun h19 => ?_)
     ·
      try simp only [decide_eq_true_eq, decide_eq_false_iff_not, Bool.not_eq_true', Bool.not_eq_false', beq_iff_eq, beq_eq_false_iff_ne, ne_eq] at h19
      first | omega | contradiction | exact absurd rfl (by assumption) | exact absurd trivial (by assumption)
     ·
      try simp only [decide_eq_true_eq, decide_eq_false_iff_not, Bool.not_eq_true', Bool.not_eq_false', beq_iff_eq, beq_eq_false_iff_ne, ne_eq] at h19
      refine Ry ?_
      refine Rq ?_
      refine Ry ?_
      refine Rq ?_
      refine Rq ?_
      refine Rq ?_
      refine Rp_split (fun h20 => ?_) (fun h20 => ?_)
      ·
       try simp only [decide_eq_true_eq, decide_eq_false_iff_not, Bool.not_eq_true', Bool.not_eq_false', beq_iff_eq, beq_eq_false_iff_ne, ne_eq] at h20
       first | omega | contradiction | exact absurd rfl (by assumption) | exact absurd trivial (by assumption)
      ·
       try simp only [decide_eq_true_eq, decide_eq_false_iff_not, Bool.not_eq_true', Bool.not_eq_false', beq_iff_eq, beq_eq_false_iff_ne, ne_eq] at h20
       refine Ry ?_
       refine Rq ?_
       refine Ry ?_
       refine Rq ?_
       refine Rq ?_
       refine Rq ?_
       refine Rp_split (fun h21 => ?_) (fun h21 => ?_)
       ·
        try simp only [decide_eq_true_eq, decide_eq_false_iff_not, Bool.not_eq_true', Bool.not_eq_false', beq_iff_eq, beq_eq_false_iff_ne, ne_eq] at h21
        first | omega | contradiction | exact absurd rfl (by assumption) | exact absurd trivial (by assumption)
       ·
        try simp only [decide_eq_true_eq, decide_eq_false_iff_not, Bool.not_eq_true', Bool.not_eq_false', beq_iff_eq, beq_eq_false_iff_ne, ne_eq] at h21
        refine Ry ?_
        refine Rq ?_
        refine Ry ?_
        refine Rq ?_
        refine Ry ?_
        refine Rq ?_
        refine Rq ?_
        refine Rq ?_
        refine Rp_split (fun h22 => ?_) (fun h22 => ?_)
        ·
         try simp only [decide_eq_true_eq, decide_eq_false_iff_not, Bool.not_eq_true', Bool.not_eq_false', beq_iff_eq, beq_eq_false_iff_ne, ne_eq] at h22
         first | omega | contradiction | exact absurd rfl (by assumption) | exact absurd trivial (by assumption)
        ·
         try simp only [decide_eq_true_eq, decide_eq_false_iff_not, Bool.not_eq_true', Bool.not_eq_false', beq_iff_eq, beq_eq_false_iff_ne, ne_eq] at h22
         refine Ry ?_
         refine Rq ?_
         refine Ry ?_
         refine Rq ?_
         refine Ry ?_
         refine Rq ?_
         refine Rq ?_
         refine Rq ?_
         refine Rp_split (fun h23 => ?_) (fun h23 => ?_)
         ·
          try simp only [decide_eq_true_eq, decide_eq_false_iff_not, Bool.not_eq_true', Bool.not_eq_false', beq_iff_eq, beq_eq_false_iff_ne, ne_eq] at h23
          first | omega | contradiction | exact absurd rfl (by assumption) | exact absurd trivial (by assumption)
         ·
          try simp only [decide_eq_true_eq, decide_eq_false_iff_not, Bool.not_eq_true', Bool.not_eq_false', beq_iff_eq, beq_eq_false_iff_ne, ne_eq] at h23
          refine Ry ?_
          refine Rq ?_
          refine Ry ?_
          refine Rq ?_
          refine Rq ?_
          refine Rq ?_
          refine Rp_split (fun h24 => ?_) (fun h24 => ?_)
          ·
           try simp only [decide_eq_true_eq, decide_eq_false_iff_not, Bool.not_eq_true', Bool.not_eq_false', beq_iff_eq, beq_eq_false_iff_ne, ne_eq] at h24
           first | omega | contradiction | exact absurd rfl (by assumption) | exact absurd trivial (by assumption)
          ·
           try simp only [decide_eq_true_eq, decide_eq_false_iff_not, Bool.not_eq_true', Bool.not_eq_false', beq_iff_eq, beq_eq_false_iff_ne, ne_eq] at h24
           refine Ry ?_
           refine Rq ?_
           refine Ry ?_
           refine Rq ?_
           refine Rq ?_
           have tr : ∀ a b c d e f g h i j k m n o p q r s t u v w x y z A B C D E F G H I J K L M N O P Q R S T U V W X Y Z a1 b1 c1 d1 e1 f1 g1 h1 i1 j1 : AV, let l := lc_cdates_ok a b c d e f g h i j k m n o p q r s t u v w x y z; trim ((124,j1)::(123,i1)::(122,h1)::(121,g1)::(120,f1)::(119,e1)::(118,d1)::(117,c1)::(116,b1)::(115,a1)::(114,Z)::(113,Y)::(112,X)::(111,W)::(110,V)::(109,U)::(108,T)::(107,S)::(106,R)::(105,Q)::(104,P)::(103,O)::(102,N)::(101,M)::(100,L)::(99,K)::(98,J)::(97,I)::(96,H)::(95,G)::(94,F)::(93,E)::(92,D)::(91,C)::(90,B)::(89,A)::l) l = [(0,a),(2,b),(3,c),(4,d),(5,e),(6,f),(7,g),(8,h),(9,i),(10,j),(11,k),(12,m),(13,n),(14,o),(15,p),(16,q),(17,r),(18,s),(19,t),(20,u),(21,v),(23,w),(46,x),(124,j1),(126,z)] := by intros; rfl
           refine R_nil (tr ..) ?_; clear tr
           refine then_n ?_
           refine cdd (fun h25 => ?_) (fun h25 => ?_)
           ·
            try simp only [decide_eq_true_eq, decide_eq_false_iff_not, Bool.not_eq_true', Bool.not_eq_false', beq_iff_eq, beq_eq_false_iff_ne, ne_eq] at h25
            refine at_seq rfl ?_
            refine rg rfl ?_
            exfalso; first | omega | contradiction | simp_all
           ·
            try simp only [decide_eq_true_eq, decide_eq_false_iff_not, Bool.not_eq_true', Bool.not_eq_false', beq_iff_eq, beq_eq_false_iff_ne, ne_eq] at h25
            refine at_skip rfl ?_
            refine then_n ?_
            refine at_seq rfl ?_
            refine at_seq rfl ?_
            refine rg rfl ?_
            refine Rq ?_
            refine Rq ?_
            have tr : ∀ a b c d e f g h i j k m n o p q r s t u v w x y z A B : AV, let l := lc_cdates_ok a b c d e f g h i j k m n o p q r s t u v w x y z; trim ((126,B)::(125,A)::l) l = [(0,a),(2,b),(3,c),(4,d),(5,e),(6,f),(7,g),(8,h),(9,i),(10,j),(11,k),(12,m),(13,n),(14,o),(15,p),(16,q),(17,r),(18,s),(19,t),(20,u),(21,v),(23,w),(46,x),(124,y),(126,B)] := by intros; rfl
            refine R_nil (tr ..) ?_; clear tr
            refine then_n ?_
            refine cdd (fun h26 => ?_) (fun h26 => ?_)
            ·
             try simp only [decide_eq_true_eq, decide_eq_false_iff_not, Bool.not_eq_true', Bool.not_eq_false', beq_iff_eq, beq_eq_false_iff_ne, ne_eq] at h26
             refine at_seq rfl ?_
             refine rg rfl ?_
             obtain rfl : n = 109572 := by omega
             obtain ⟨rfl, rfl, rfl⟩ := dateR_uniq hR date_last
             refine Rq ?_
             refine Rq ?_
             refine Rq ?_
             refine Rp_split (fun h27 => ?_) (fun h27 => ?_)
             ·
              try simp only [decide_eq_true_eq, decide_eq_false_iff_not, Bool.not_eq_true', Bool.not_eq_false', beq_iff_eq, beq_eq_false_iff_ne, ne_eq] at h27
              refine Ry ?_
              refine Rq ?_
              refine Ry ?_
              refine Rq ?_
              refine Rq ?_
              refine Rq ?_
              refine Rp_split (fun h28 => ?_) (fun h28 => ?_)
              ·
               try simp only [decide_eq_true_eq, decide_eq_false_iff_not, Bool.not_eq_true', Bool.not_eq_false', beq_iff_eq, beq_eq_false_iff_ne, ne_eq] at h28
               refine Ry ?_
               refine Rq ?_
               refine Ry ?_
               refine Rq ?_
               refine Rq ?_
               refine Rq ?_
               have tr : ∀ a b c d e f g h i j k m n o p q r s t u v w x y z A B C D E F G H I J K : AV, let l := lc_cdates_ok a b c d e f g h i j k m n o p q r s t u v w x y z; trim ((2,K)::(136,J)::(135,I)::(134,H)::(133,G)::(132,F)::(131,E)::(130,D)::(129,C)::(128,B)::(127,A)::l) l = [(0,a),(2,K),(3,c),(4,d),(5,e),(6,f),(7,g),(8,h),(9,i),(10,j),(11,k),(12,m),(13,n),(14,o),(15,p),(16,q),(17,r),(18,s),(19,t),(20,u),(21,v),(23,w),(46,x),(124,y),(126,z)] := by intros; rfl
               refine R_nil (tr ..) ?_; clear tr
               refine then_n ?_
               refine at_ret rfl ?_
               refine then_r ?_
               refine fpure ?_
               first | rfl | (exfalso; omega) | (refine congrArg (fun b => AV.v (.bool b)) ?_; first | (exact decide_eq_true (by omega)) | (simp; omega)) | (simp; done)
              ·
               try simp only [decide_eq_true_eq, decide_eq_false_iff_not, Bool.not_eq_true', Bool.not_eq_false', beq_iff_eq, beq_eq_false_iff_ne, ne_eq] at h28
               first | omega | contradiction | exact absurd rfl (by assumption) | exact absurd trivial (by assumption)
             ·
              try simp only [decide_eq_true_eq, decide_eq_false_iff_not, Bool.not_eq_true', Bool.not_eq_false', beq_iff_eq, beq_eq_false_iff_ne, ne_eq] at h27
              first | omega | contradiction | exact absurd rfl (by assumption) | exact absurd trivial (by assumption)
            ·
             try simp only [decide_eq_true_eq, decide_eq_false_iff_not, Bool.not_eq_true', Bool.not_eq_false', beq_iff_eq, beq_eq_false_iff_ne, ne_eq] at h26
             refine at_skip rfl ?_
             refine then_n ?_
             refine at_seq rfl ?_
             refine rg rfl ?_
             refine Rq ?_
             refine Rq ?_
             refine Rcall ?_
             refine ACall_mono (date_ok _ _ (n + 1)) ?_
             rintro r Hy ⟨⟨rfl, hD2⟩, hHy⟩
             have hHy := hHy.symm
             subst hHy
             have hR3 := hD2 (by omega)
             obtain ⟨y2, m2, d2, hdd2⟩ : ∃ y m d, dateS (n + 1) = (y, m, d) := ⟨_, _, _, rfl⟩
             have hR2 : DateR (n + 1) y2 m2 d2 := by rw [hdd2] at hR3; exact hR3
             have e4 : dtS (n + 1) = ((y2, m2, d2), 0) := by rw [dtS, if_neg (by omega), hdd2]
             rw [e4]
             have hnx := date_next hR hR2
             refine Rq ?_
             refine Rq ?_
             refine Rq ?_
             refine Rq ?_
             refine Rq ?_
             refine Rq ?_
             refine Rq ?_
             refine Rq ?_
             refine Rq ?_
             have tr : ∀ a b c d e f g h i j k m n o p q r s t u v w x y z A B C D E F G H I J K L : AV, let l := lc_cdates_ok a b c d e f g h i j k m n o p q r s t u v w x y z; trim ((18,L)::(17,K)::(16,J)::(15,I)::(144,H)::(143,G)::(142,F)::(141,E)::(137,D)::(140,C)::(139,B)::(138,A)::l) l = [(0,a),(2,b),(3,c),(4,d),(5,e),(6,f),(7,g),(8,h),(9,i),(10,j),(11,k),(12,m),(13,n),(14,o),(15,I),(16,J),(17,K),(18,L),(19,t),(20,u),(21,v),(23,w),(46,x),(124,y),(126,z)] := by intros; rfl
             refine R_nil (tr ..) ?_; clear tr
             refine then_n ?_
             refine at_seq rfl ?_
             refine rg rfl ?_
             refine Rq ?_
             refine Rq ?_
             refine Rcall ?_
             refine ACall_eq (weekday_ok _ _ _) ?_
             rw [show wkS (n + 1) = ((n + 1) % 7 + 1, 0) by rw [wkS, if_neg (by omega)]]
             refine Rq ?_
             refine Rq ?_
             refine Rq ?_
             refine Rq ?_
             refine Rq ?_
             have tr : ∀ a b c d e f g h i j k m n o p q r s t u v w x y z A B C D E F G H : AV, let l := lc_cdates_ok a b c d e f g h i j k m n o p q r s t u v w x y z; trim ((20,H)::(19,G)::(150,F)::(149,E)::(145,D)::(148,C)::(147,B)::(146,A)::l) l = [(0,a),(2,b),(3,c),(4,d),(5,e),(6,f),(7,g),(8,h),(9,i),(10,j),(11,k),(12,m),(13,n),(14,o),(15,p),(16,q),(17,r),(18,s),(19,G),(20,H),(21,v),(23,w),(46,x),(124,y),(126,z)] := by intros; rfl
             refine R_nil (tr ..) ?_; clear tr
             refine then_n ?_
             refine at_seq rfl ?_
             rcases hnx with ⟨rfl, rfl, rfl⟩ | ⟨rfl, rfl, rfl, hd28⟩ | ⟨rfl, rfl, rfl, rfl, rfl⟩
             ·
              refine rg rfl ?_
              refine Rq ?_
              refine Rq ?_
              refine Rq ?_
              refine Rq ?_
              refine Rp_split (fun h29 => ?_) (fun h29 => ?_)
              ·
               try simp only [decide_eq_true_eq, decide_eq_false_iff_not, Bool.not_eq_true', Bool.not_eq_false', beq_iff_eq, beq_eq_false_iff_ne, ne_eq] at h29
               refine Ry ?_
               refine Rq ?_
               refine Ry ?_
               refine Rq ?_
               refine Ry ?_
               refine Rq ?_
               refine Rq ?_
               refine Rq ?_
               refine Rp_split (fun h30 => ?_) (fun h30 => ?_)
               ·
                try simp only [decide_eq_true_eq, decide_eq_false_iff_not, Bool.not_eq_true', Bool.not_eq_false', beq_iff_eq, beq_eq_false_iff_ne, ne_eq] at h30
                refine Ry ?_
                refine Rq ?_
                refine Ry ?_
                refine Rq ?_
                refine Ry ?_
                refine Rq ?_
                refine Ry ?_
                refine Rq ?_
                refine Rq ?_
                refine Rq ?_
                refine Rp_split (fun h31 => ?_) (fun h31 => ?_)
                ·
                 try simp only [decide_eq_true_eq, decide_eq_false_iff_not, Bool.not_eq_true', Bool.not_eq_false', beq_iff_eq, beq_eq_false_iff_ne, ne_eq] at h31
                 refine Rn ?_
                 refine Rn ?_
                 refine Rn ?_
                 refine Rn ?_
                 refine Ru ?_
                 refine Ru ?_
                 refine Ru ?_
                 refine Ru ?_
                 refine Rn ?_
                 refine Rn ?_
                 refine Ru ?_
                 refine Ru ?_
                 refine Rn ?_
                 refine Rn ?_
                 refine Ru ?_
                 refine Ru ?_
                 refine Rn ?_
                 refine Rq ?_
                 refine Rq ?_
                 refine Rn ?_
                 refine Rn ?_
                 refine Rn ?_
                 refine Rn ?_
                 refine Rn ?_
                 refine Ru ?_
                 refine Ru ?_
                 refine Rn ?_
                 refine Rn ?_
                 refine Ru ?_
                 refine Ru ?_
                 refine Rn ?_
                 refine Rn ?_
                 refine Ru ?_
                 refine Ru ?_
                 refine Rn ?_
                 refine Rn ?_
                 refine Ru ?_
                 refine Ru ?_
                 refine Rn ?_
                 refine Rq ?_
                 refine Rq ?_
                 have tr : ∀ a b c d e f g h i j k m n o p q r s t u v w x y z A B C D E F G H I J K L M N O P Q R S T U V W X Y Z a1 b1 c1 d1 e1 f1 g1 h1 i1 j1 k1 m1 n1 o1 p1 q1 r1 s1 t1 u1 v1 w1 x1 y1 z1 A1 B1 C1 D1 E1 : AV, let l := lc_cdates_ok a b c d e f g h i j k m n o p q r s t u v w x y z; trim ((21,E1)::(205,D1)::(204,C1)::(203,B1)::(202,A1)::(201,z1)::(200,y1)::(199,x1)::(198,w1)::(197,v1)::(196,u1)::(195,t1)::(194,s1)::(193,r1)::(192,q1)::(191,p1)::(190,o1)::(189,n1)::(188,m1)::(187,k1)::(186,j1)::(185,i1)::(184,h1)::(183,g1)::(182,f1)::(181,e1)::(180,d1)::(179,c1)::(178,b1)::(177,a1)::(176,Z)::(175,Y)::(174,X)::(173,W)::(172,V)::(171,U)::(170,T)::(169,S)::(168,R)::(167,Q)::(166,P)::(165,O)::(164,N)::(163,M)::(162,L)::(161,K)::(160,J)::(159,I)::(158,H)::(157,G)::(156,F)::(155,E)::(154,D)::(153,C)::(152,B)::(151,A)::l) l = [(0,a),(2,b),(3,c),(4,d),(5,e),(6,f),(7,g),(8,h),(9,i),(10,j),(11,k),(12,m),(13,n),(14,o),(15,p),(16,q),(17,r),(18,s),(19,t),(20,u),(21,E1),(23,w),(46,x),(124,y),(126,z)] := by intros; rfl
                 refine R_nil (tr ..) ?_; clear tr
                 refine then_n ?_
                 refine at_seq rfl ?_
                 refine rg rfl ?_
                 refine Rq ?_
                 refine Rq ?_
                 refine Rq ?_
                 refine Rp_split (fun h32 => ?_) (fun h32 => ?_)
                 ·
                  try simp only [decide_eq_true_eq, decide_eq_false_iff_not, Bool.not_eq_true', Bool.not_eq_false', beq_iff_eq, beq_eq_false_iff_ne, ne_eq] at h32
                  refine Ry ?_
                  refine Rq ?_
                  refine Ry ?_
                  refine Rq ?_
                  refine Rq ?_
                  refine Rq ?_
                  refine Rp_split (fun h33 => ?_) (fun h33 => ?_)
                  ·
                   try simp only [decide_eq_true_eq, decide_eq_false_iff_not, Bool.not_eq_true', Bool.not_eq_false', beq_iff_eq, beq_eq_false_iff_ne, ne_eq] at h33
                   refine Ry ?_
                   refine Rq ?_
                   refine Ry ?_
                   refine Rq ?_
                   refine Ry ?_
                   refine Rq ?_
                   refine Ry ?_
                   refine Rq ?_
                   refine Ry ?_
                   refine Rq ?_
                   refine Rq ?_
                   refine Rq ?_
                   refine Rp_split (fun h34 => ?_) (fun h34 => ?_)
                   ·
                    try simp only [decide_eq_true_eq, decide_eq_false_iff_not, Bool.not_eq_true', Bool.not_eq_false', beq_iff_eq, beq_eq_false_iff_ne, ne_eq] at h34
                    refine Ry ?_
                    refine Rq ?_
                    refine Rq ?_
                    refine Rq ?_
                    have tr : ∀ a b c d e f g h i j k m n o p q r s t u v w x y z A B C D E F G H I J K L M N O P Q : AV, let l := lc_cdates_ok a b c d e f g h i j k m n o p q r s t u v w x y z; trim ((2,Q)::(221,P)::(220,O)::(219,N)::(218,M)::(217,L)::(216,K)::(215,J)::(214,I)::(213,H)::(212,G)::(211,F)::(210,E)::(209,D)::(208,C)::(207,B)::(206,A)::l) l = [(0,a),(2,Q),(3,c),(4,d),(5,e),(6,f),(7,g),(8,h),(9,i),(10,j),(11,k),(12,m),(13,n),(14,o),(15,p),(16,q),(17,r),(18,s),(19,t),(20,u),(21,v),(23,w),(46,x),(124,y),(126,z)] := by intros; rfl
                    refine R_nil (tr ..) ?_; clear tr
                    refine then_n ?_
                    refine at_ret rfl ?_
                    refine fpure ?_
                    first | rfl | (exfalso; omega) | (refine congrArg (fun b => AV.v (.bool b)) ?_; first | (exact decide_eq_true (by omega)) | (simp; omega)) | (simp; done)
                   ·
                    try simp only [decide_eq_true_eq, decide_eq_false_iff_not, Bool.not_eq_true', Bool.not_eq_false', beq_iff_eq, beq_eq_false_iff_ne, ne_eq] at h34
                    first | omega | contradiction | exact absurd rfl (by assumption) | exact absurd trivial (by assumption)
                  ·
                   try simp only [decide_eq_true_eq, decide_eq_false_iff_not, Bool.not_eq_true', Bool.not_eq_false', beq_iff_eq, beq_eq_false_iff_ne, ne_eq] at h33
                   first | omega | contradiction | exact absurd rfl (by assumption) | exact absurd trivial (by assumption)
                 ·
                  try simp only [decide_eq_true_eq, decide_eq_false_iff_not, Bool.not_eq_true', Bool.not_eq_false', beq_iff_eq, beq_eq_false_iff_ne, ne_eq] at h32
                  first | omega | contradiction | exact absurd rfl (by assumption) | exact absurd trivial (by assumption)
                ·
                 try simp only [decide_eq_true_eq, decide_eq_false_iff_not, Bool.not_eq_true', Bool.not_eq_false', beq_iff_eq, beq_eq_false_iff_ne, ne_eq] at h31
                 first | omega | contradiction | exact absurd rfl (by assumption) | exact absurd trivial (by assumption)
               ·
                try simp only [decide_eq_true_eq, decide_eq_false_iff_not, Bool.not_eq_true', Bool.not_eq_false', beq_iff_eq, beq_eq_false_iff_ne, ne_eq] at h30
                first | omega | contradiction | exact absurd rfl (by assumption) | exact absurd trivial (by assumption)
              ·
               try simp only [decide_eq_true_eq, decide_eq_false_iff_not, Bool.not_eq_true', Bool.not_eq_false', beq_iff_eq, beq_eq_false_iff_ne, ne_eq] at h29
               first | omega | contradiction | exact absurd rfl (by assumption) | exact absurd trivial (by assumption)
             ·
              refine rg rfl ?_
              refine Rq ?_
              refine Rq ?_
              refine Rq ?_
              refine Rq ?_
              refine Rp_split (fun h35 => ?_) (fun h35 => ?_)
              ·
               try simp only [decide_eq_true_eq, decide_eq_false_iff_not, Bool.not_eq_true', Bool.not_eq_false', beq_iff_eq, beq_eq_false_iff_ne, ne_eq] at h35
               refine Ry ?_
               refine Rq ?_
               refine Ry ?_
               refine Rq ?_
               refine Ry ?_
               refine Rq ?_
               refine Rq ?_
               refine Rq ?_
               refine Rp_split (fun h36 => ?_) (fun h36 => ?_)
               ·
                try simp only [decide_eq_true_eq, decide_eq_false_iff_not, Bool.not_eq_true', Bool.not_eq_false', beq_iff_eq, beq_eq_false_iff_ne, ne_eq] at h36
                first | omega | contradiction | exact absurd rfl (by assumption) | exact absurd trivial (by assumption)
               ·
                try simp only [decide_eq_true_eq, decide_eq_false_iff_not, Bool.not_eq_true', Bool.not_eq_false', beq_iff_eq, beq_eq_false_iff_ne, ne_eq] at h36
                refine Rn ?_
                refine Rn ?_
                refine Rn ?_
                refine Rn ?_
                refine Rq ?_
                refine Rq ?_
                refine Ry ?_
                refine Rq ?_
                refine Ry ?_
                refine Rq ?_
                refine Ry ?_
                refine Rq ?_
                refine Ry ?_
                refine Rq ?_
                refine Rp_split (fun h37 => ?_) (fun h37 => ?_)
                ·
                 try simp only [decide_eq_true_eq, decide_eq_false_iff_not, Bool.not_eq_true', Bool.not_eq_false', beq_iff_eq, beq_eq_false_iff_ne, ne_eq] at h37
                 refine Ry ?_
                 refine Rq ?_
                 refine Ry ?_
                 refine Rq ?_
                 refine Ry ?_
                 refine Rq ?_
                 refine Ry ?_
                 refine Rq ?_
                 refine Ry ?_
                 refine Rq ?_
                 refine Ry ?_
                 refine Rq ?_
                 refine Rp_split (fun h38 => ?_) (fun h38 => ?_)
                 ·
                  try simp only [decide_eq_true_eq, decide_eq_false_iff_not, Bool.not_eq_true', Bool.not_eq_false', beq_iff_eq, beq_eq_false_iff_ne, ne_eq] at h38
                  refine Ry ?_
                  refine Rq ?_
                  refine Ry ?_
                  refine Rq ?_
                  refine Ry ?_
                  refine Rq ?_
                  refine Ry ?_
                  refine Rq ?_
                  refine Rp_split (fun h39 => ?_) (fun h39 => ?_)
                  ·
                   try simp only [decide_eq_true_eq, decide_eq_false_iff_not, Bool.not_eq_true', Bool.not_eq_false', beq_iff_eq, beq_eq_false_iff_ne, ne_eq] at h39
                   refine Ry ?_
                   refine Rq ?_
                   refine Ry ?_
                   refine Rq ?_
                   refine Ry ?_
                   refine Rq ?_
                   refine Rq ?_
                   refine Rq ?_
                   refine Rp_split (fun h40 => ?_) (fun h40 => ?_)
                   ·
                    try simp only [decide_eq_true_eq, decide_eq_false_iff_not, Bool.not_eq_true', Bool.not_eq_false', beq_iff_eq, beq_eq_false_iff_ne, ne_eq] at h40
                    refine Rn ?_
                    refine Rn ?_
                    refine Rn ?_
                    refine Rn ?_
                    refine Rn ?_
                    refine Ru ?_
                    refine Ru ?_
                    refine Rn ?_
                    refine Rn ?_
                    refine Ru ?_
                    refine Ru ?_
                    refine Rn ?_
                    refine Rn ?_
                    refine Ru ?_
                    refine Ru ?_
                    refine Rn ?_
                    refine Rn ?_
                    refine Ru ?_
                    refine Ru ?_
                    refine Rn ?_
                    refine Rq ?_
                    refine Rq ?_
                    have tr : ∀ a b c d e f g h i j k m n o p q r s t u v w x y z A B C D E F G H I J K L M N O P Q R S T U V W X Y Z a1 b1 c1 d1 e1 f1 g1 h1 i1 j1 k1 m1 n1 o1 p1 q1 r1 s1 t1 u1 v1 w1 x1 y1 z1 A1 B1 C1 D1 E1 : AV, let l := lc_cdates_ok a b c d e f g h i j k m n o p q r s t u v w x y z; trim ((21,E1)::(205,D1)::(204,C1)::(203,B1)::(202,A1)::(201,z1)::(200,y1)::(199,x1)::(198,w1)::(197,v1)::(196,u1)::(195,t1)::(194,s1)::(193,r1)::(192,q1)::(191,p1)::(190,o1)::(189,n1)::(188,m1)::(187,k1)::(186,j1)::(185,i1)::(184,h1)::(183,g1)::(182,f1)::(181,e1)::(180,d1)::(179,c1)::(178,b1)::(177,a1)::(176,Z)::(175,Y)::(174,X)::(173,W)::(172,V)::(171,U)::(170,T)::(169,S)::(168,R)::(167,Q)::(166,P)::(165,O)::(164,N)::(163,M)::(162,L)::(161,K)::(160,J)::(159,I)::(158,H)::(157,G)::(156,F)::(155,E)::(154,D)::(153,C)::(152,B)::(151,A)::l) l = [(0,a),(2,b),(3,c),(4,d),(5,e),(6,f),(7,g),(8,h),(9,i),(10,j),(11,k),(12,m),(13,n),(14,o),(15,p),(16,q),(17,r),(18,s),(19,t),(20,u),(21,E1),(23,w),(46,x),(124,y),(126,z)] := by intros; rfl
                    refine R_nil (tr ..) ?_; clear tr
                    refine then_n ?_
                    refine at_seq rfl ?_
                    refine rg rfl ?_
                    refine Rq ?_
                    refine Rq ?_
                    refine Rq ?_
                    refine Rp_split (fun h41 => ?_) (fun h41 => ?_)
                    ·
                     try simp only [decide_eq_true_eq, decide_eq_false_iff_not, Bool.not_eq_true', Bool.not_eq_false', beq_iff_eq, beq_eq_false_iff_ne, ne_eq] at h41
                     refine Ry ?_
                     refine Rq ?_
                     refine Ry ?_
                     refine Rq ?_
                     refine Rq ?_
                     refine Rq ?_
                     refine Rp_split (fun h42 => ?_) (fun h42 => ?_)
                     ·
                      try simp only [decide_eq_true_eq, decide_eq_false_iff_not, Bool.not_eq_true', Bool.not_eq_false', beq_iff_eq, beq_eq_false_iff_ne, ne_eq] at h42
                      refine Ry ?_
                      refine Rq ?_
                      refine Ry ?_
                      refine Rq ?_
                      refine Ry ?_
                      refine Rq ?_
                      refine Ry ?_
                      refine Rq ?_
                      refine Ry ?_
                      refine Rq ?_
                      refine Rq ?_
                      refine Rq ?_
                      refine Rp_split (fun h43 => ?_) (fun h43 => ?_)
                      ·
                       try simp only [decide_eq_true_eq, decide_eq_false_iff_not, Bool.not_eq_true', Bool.not_eq_false', beq_iff_eq, beq_eq_false_iff_ne, ne_eq] at h43
                       refine Ry ?_
                       refine Rq ?_
                       refine Rq ?_
                       refine Rq ?_
                       have tr : ∀ a b c d e f g h i j k m n o p q r s t u v w x y z A B C D E F G H I J K L M N O P Q : AV, let l := lc_cdates_ok a b c d e f g h i j k m n o p q r s t u v w x y z; trim ((2,Q)::(221,P)::(220,O)::(219,N)::(218,M)::(217,L)::(216,K)::(215,J)::(214,I)::(213,H)::(212,G)::(211,F)::(210,E)::(209,D)::(208,C)::(207,B)::(206,A)::l) l = [(0,a),(2,Q),(3,c),(4,d),(5,e),(6,f),(7,g),(8,h),(9,i),(10,j),(11,k),(12,m),(13,n),(14,o),(15,p),(16,q),(17,r),(18,s),(19,t),(20,u),(21,v),(23,w),(46,x),(124,y),(126,z)] := by intros; rfl
                       refine R_nil (tr ..) ?_; clear tr
                       refine then_n ?_
                       refine at_ret rfl ?_
                       refine fpure ?_
                       first | rfl | (exfalso; omega) | (refine congrArg (fun b => AV.v (.bool b)) ?_; first | (exact decide_eq_true (by omega)) | (simp; omega)) | (simp; done)
                      ·
                       try simp only [decide_eq_true_eq, decide_eq_false_iff_not, Bool.not_eq_true', Bool.not_eq_false', beq_iff_eq, beq_eq_false_iff_ne, ne_eq] at h43
                       first | omega | contradiction | exact absurd rfl (by assumption) | exact absurd trivial (by assumption)
                     ·
                      try simp only [decide_eq_true_eq, decide_eq_false_iff_not, Bool.not_eq_true', Bool.not_eq_false', beq_iff_eq, beq_eq_false_iff_ne, ne_eq] at h42
                      first | omega | contradiction | exact absurd rfl (by assumption) | exact absurd trivial (by assumption)
                    ·
                     try simp only [decide_eq_true_eq, decide_eq_false_iff_not, Bool.not_eq_true', Bool.not_eq_false', beq_iff_eq, beq_eq_false_iff_ne, ne_eq] at h41
                     first | omega | contradiction | exact absurd rfl (by assumption) | exact absurd trivial (by assumption)
                   ·
                    try simp only [decide_eq_true_eq, decide_eq_false_iff_not, Bool.not_eq_true', Bool.not_eq_false', beq_iff_eq, beq_eq_false_iff_ne, ne_eq] at h40
                    first | omega | contradiction | exact absurd rfl (by assumption) | exact absurd trivial (by assumption)
                  ·
                   try simp only [decide_eq_true_eq, decide_eq_false_iff_not, Bool.not_eq_true', Bool.not_eq_false', beq_iff_eq, beq_eq_false_iff_ne, ne_eq] at h39
                   first | omega | contradiction | exact absurd rfl (by assumption) | exact absurd trivial (by assumption)
                 ·
                  try simp only [decide_eq_true_eq, decide_eq_false_iff_not, Bool.not_eq_true', Bool.not_eq_false', beq_iff_eq, beq_eq_false_iff_ne, ne_eq] at h38
                  first | omega | contradiction | exact absurd rfl (by assumption) | exact absurd trivial (by assumption)
                ·
                 try simp only [decide_eq_true_eq, decide_eq_false_iff_not, Bool.not_eq_true', Bool.not_eq_false', beq_iff_eq, beq_eq_false_iff_ne, ne_eq] at h37
                 first | omega | contradiction | exact absurd rfl (by assumption) | exact absurd trivial (by assumption)
              ·
               try simp only [decide_eq_true_eq, decide_eq_false_iff_not, Bool.not_eq_true', Bool.not_eq_false', beq_iff_eq, beq_eq_false_iff_ne, ne_eq] at h35
               first | omega | contradiction | exact absurd rfl (by assumption) | exact absurd trivial (by assumption)
             ·
              refine rg rfl ?_
              refine Rq ?_
              refine Rq ?_
              refine Rq ?_
              refine Rq ?_
              refine Rp_split (fun h44 => ?_) (fun h44 => ?_)
              ·
               try simp only [decide_eq_true_eq, decide_eq_false_iff_not, Bool.not_eq_true', Bool.not_eq_false', beq_iff_eq, beq_eq_false_iff_ne, ne_eq] at h44
               first | omega | contradiction | exact absurd rfl (by assumption) | exact absurd trivial (by assumption)
              ·
               try simp only [decide_eq_true_eq, decide_eq_false_iff_not, Bool.not_eq_true', Bool.not_eq_false', beq_iff_eq, beq_eq_false_iff_ne, ne_eq] at h44
               refine Rn ?_
               refine Rn ?_
               refine Rn ?_
               refine Rq ?_
               refine Rq ?_
               refine Rn ?_
               refine Rn ?_
               refine Rn ?_
               refine Rn ?_
               refine Rq ?_
               refine Rq ?_
               refine Ry ?_
               refine Rq ?_
               refine Ry ?_
               refine Rq ?_
               refine Ry ?_
               refine Rq ?_
               refine Ry ?_
               refine Rq ?_
               refine Rp_split (fun h45 => ?_) (fun h45 => ?_)
               ·
                try simp only [decide_eq_true_eq, decide_eq_false_iff_not, Bool.not_eq_true', Bool.not_eq_false', beq_iff_eq, beq_eq_false_iff_ne, ne_eq] at h45
                first | omega | contradiction | exact absurd rfl (by assumption) | exact absurd trivial (by assumption)
               ·
                try simp only [decide_eq_true_eq, decide_eq_false_iff_not, Bool.not_eq_true', Bool.not_eq_false', beq_iff_eq, beq_eq_false_iff_ne, ne_eq] at h45
                refine Rn ?_
                refine Rn ?_
                refine Rn ?_
                refine Rn ?_
                refine Ry ?_
                refine Rq ?_
                refine Ry ?_
                refine Rq ?_
                refine Rn ?_
                refine Rn ?_
                refine Ry ?_
                refine Rq ?_
                refine Ry ?_
                refine Rq ?_
                refine Rn ?_
                refine Rn ?_
                refine Ry ?_
                refine Rq ?_
                refine Rq ?_
                refine Rq ?_
                refine Ry ?_
                refine Rq ?_
                refine Ry ?_
                refine Rq ?_
                refine Ry ?_
                refine Rq ?_
                refine Ry ?_
                refine Rq ?_
                refine Ry ?_
                refine Rq ?_
                refine Rp_split (fun h46 => ?_) (fun h46 => ?_)
                ·
                 try simp only [decide_eq_true_eq, decide_eq_false_iff_not, Bool.not_eq_true', Bool.not_eq_false', beq_iff_eq, beq_eq_false_iff_ne, ne_eq] at h46
                 refine Ry ?_
                 refine Rq ?_
                 refine Ry ?_
                 refine Rq ?_
                 refine Ry ?_
                 refine Rq ?_
                 refine Ry ?_
                 refine Rq ?_
                 refine Rp_split (fun h47 => ?_) (fun h47 => ?_)
                 ·
                  try simp only [decide_eq_true_eq, decide_eq_false_iff_not, Bool.not_eq_true', Bool.not_eq_false', beq_iff_eq, beq_eq_false_iff_ne, ne_eq] at h47
                  refine Ry ?_
                  refine Rq ?_
                  refine Ry ?_
                  refine Rq ?_
                  refine Ry ?_
                  refine Rq ?_
                  refine Ry ?_
                  refine Rq ?_
                  refine Rp_split (fun h48 => ?_) (fun h48 => ?_)
                  ·
                   try simp only [decide_eq_true_eq, decide_eq_false_iff_not, Bool.not_eq_true', Bool.not_eq_false', beq_iff_eq, beq_eq_false_iff_ne, ne_eq] at h48
                   refine Ry ?_
                   refine Rq ?_
                   refine Ry ?_
                   refine Rq ?_
                   refine Ry ?_
                   refine Rq ?_
                   refine Ry ?_
                   refine Rq ?_
                   refine Rp_split (fun h49 => ?_) (fun h49 => ?_)
                   ·
                    try simp only [decide_eq_true_eq, decide_eq_false_iff_not, Bool.not_eq_true', Bool.not_eq_false', beq_iff_eq, beq_eq_false_iff_ne, ne_eq] at h49
                    refine Ry ?_
                    refine Rq ?_
                    refine Ry ?_
                    refine Rq ?_
                    refine Ry ?_
                    refine Rq ?_
                    refine Rq ?_
                    refine Rq ?_
                    have tr : ∀ a b c d e f g h i j k m n o p q r s t u v w x y z A B C D E F G H I J K L M N O P Q R S T U V W X Y Z a1 b1 c1 d1 e1 f1 g1 h1 i1 j1 k1 m1 n1 o1 p1 q1 r1 s1 t1 u1 v1 w1 x1 y1 z1 A1 B1 C1 D1 E1 : AV, let l := lc_cdates_ok a b c d e f g h i j k m n o p q r s t u v w x y z; trim ((21,E1)::(205,D1)::(204,C1)::(203,B1)::(202,A1)::(201,z1)::(200,y1)::(199,x1)::(198,w1)::(197,v1)::(196,u1)::(195,t1)::(194,s1)::(193,r1)::(192,q1)::(191,p1)::(190,o1)::(189,n1)::(188,m1)::(187,k1)::(186,j1)::(185,i1)::(184,h1)::(183,g1)::(182,f1)::(181,e1)::(180,d1)::(179,c1)::(178,b1)::(177,a1)::(176,Z)::(175,Y)::(174,X)::(173,W)::(172,V)::(171,U)::(170,T)::(169,S)::(168,R)::(167,Q)::(166,P)::(165,O)::(164,N)::(163,M)::(162,L)::(161,K)::(160,J)::(159,I)::(158,H)::(157,G)::(156,F)::(155,E)::(154,D)::(153,C)::(152,B)::(151,A)::l) l = [(0,a),(2,b),(3,c),(4,d),(5,e),(6,f),(7,g),(8,h),(9,i),(10,j),(11,k),(12,m),(13,n),(14,o),(15,p),(16,q),(17,r),(18,s),(19,t),(20,u),(21,E1),(23,w),(46,x),(124,y),(126,z)] := by intros; rfl
                    refine R_nil (tr ..) ?_; clear tr
                    refine then_n ?_
                    refine at_seq rfl ?_
                    refine rg rfl ?_
                    refine Rq ?_
                    refine Rq ?_
                    refine Rq ?_
                    refine Rp_split (fun h50 => ?_) (fun h50 => ?_)
                    ·
                     try simp only [decide_eq_true_eq, decide_eq_false_iff_not, Bool.not_eq_true', Bool.not_eq_false', beq_iff_eq, beq_eq_false_iff_ne, ne_eq] at h50
                     refine Ry ?_
                     refine Rq ?_
                     refine Ry ?_
                     refine Rq ?_
                     refine Rq ?_
                     refine Rq ?_
                     refine Rp_split (fun h51 => ?_) (fun h51 => ?_)
                     ·
                      try simp only [decide_eq_true_eq, decide_eq_false_iff_not, Bool.not_eq_true', Bool.not_eq_false', beq_iff_eq, beq_eq_false_iff_ne, ne_eq] at h51
                      refine Ry ?_
                      refine Rq ?_
                      refine Ry ?_
                      refine Rq ?_
                      refine Ry ?_
                      refine Rq ?_
                      refine Ry ?_
                      refine Rq ?_
                      refine Ry ?_
                      refine Rq ?_
                      refine Rq ?_
                      refine Rq ?_
                      refine Rp_split (fun h52 => ?_) (fun h52 => ?_)
                      ·
                       try simp only [decide_eq_true_eq, decide_eq_false_iff_not, Bool.not_eq_true', Bool.not_eq_false', beq_iff_eq, beq_eq_false_iff_ne, ne_eq] at h52
                       refine Ry ?_
                       refine Rq ?_
                       refine Rq ?_
                       refine Rq ?_
                       have tr : ∀ a b c d e f g h i j k m n o p q r s t u v w x y z A B C D E F G H I J K L M N O P Q : AV, let l := lc_cdates_ok a b c d e f g h i j k m n o p q r s t u v w x y z; trim ((2,Q)::(221,P)::(220,O)::(219,N)::(218,M)::(217,L)::(216,K)::(215,J)::(214,I)::(213,H)::(212,G)::(211,F)::(210,E)::(209,D)::(208,C)::(207,B)::(206,A)::l) l = [(0,a),(2,Q),(3,c),(4,d),(5,e),(6,f),(7,g),(8,h),(9,i),(10,j),(11,k),(12,m),(13,n),(14,o),(15,p),(16,q),(17,r),(18,s),(19,t),(20,u),(21,v),(23,w),(46,x),(124,y),(126,z)] := by intros; rfl
                       refine R_nil (tr ..) ?_; clear tr
                       refine then_n ?_
                       refine at_ret rfl ?_
                       refine fpure ?_
                       first | rfl | (exfalso; omega) | (refine congrArg (fun b => AV.v (.bool b)) ?_; first | (exact decide_eq_true (by omega)) | (simp; omega)) | (simp; done)
                      ·
                       try simp only [decide_eq_true_eq, decide_eq_false_iff_not, Bool.not_eq_true', Bool.not_eq_false', beq_iff_eq, beq_eq_false_iff_ne, ne_eq] at h52
                       first | omega | contradiction | exact absurd rfl (by assumption) | exact absurd trivial (by assumption)
                     ·
                      try simp only [decide_eq_true_eq, decide_eq_false_iff_not, Bool.not_eq_true', Bool.not_eq_false', beq_iff_eq, beq_eq_false_iff_ne, ne_eq] at h51
                      first | omega | contradiction | exact absurd rfl (by assumption) | exact absurd trivial (by assumption)
                    ·
                     try simp only [decide_eq_true_eq, decide_eq_false_iff_not, Bool.not_eq_true', Bool.not_eq_false', beq_iff_eq, beq_eq_false_iff_ne, ne_eq] at h50
                     first | omega | contradiction | exact absurd rfl (by assumption) | exact absurd trivial (by assumption)
                   ·
                    try simp only [decide_eq_true_eq, decide_eq_false_iff_not, Bool.not_eq_true', Bool.not_eq_false', beq_iff_eq, beq_eq_false_iff_ne, ne_eq] at h49
                    first | omega | contradiction | exact absurd rfl (by assumption) | exact absurd trivial (by assumption)
                  ·
                   try simp only [decide_eq_true_eq, decide_eq_false_iff_not, Bool.not_eq_true', Bool.not_eq_false', beq_iff_eq, beq_eq_false_iff_ne, ne_eq] at h48
                   first | omega | contradiction | exact absurd rfl (by assumption) | exact absurd trivial (by assumption)
                 ·
                  try simp only [decide_eq_true_eq, decide_eq_false_iff_not, Bool.not_eq_true', Bool.not_eq_false', beq_iff_eq, beq_eq_false_iff_ne, ne_eq] at h47
                  first | omega | contradiction | exact absurd rfl (by assumption) | exact absurd trivial (by assumption)
                ·
                 try simp only [decide_eq_true_eq, decide_eq_false_iff_not, Bool.not_eq_true', Bool.not_eq_false', beq_iff_eq, beq_eq_false_iff_ne, ne_eq] at h46
                 first | omega | contradiction | exact absurd rfl (by assumption) | exact absurd trivial (by assumption)

end Go.Proofs.YtocmcdejkoejhaaDoor
