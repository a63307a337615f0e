/-
  Walks of chapters 37, 39 and 40. The steps are written by program (walk.py).
-/
import Derived.Test.YtaoondlakhocnaaRH
set_option linter.unusedSimpArgs false
set_option linter.unusedVariables false
set_option maxHeartbeats 40000000
set_option maxRecDepth 4000
namespace Go.Proofs.Ytaoondlakhocnaa
open Go Go.Am

abbrev lc_rat_ok (a b c d e f g h i j k m n o p q : AV) : Env := [(0,a),(1,b),(2,c),(3,d),(4,e),(8,f),(9,g),(10,h),(11,i),(12,j),(13,k),(14,m),(18,n),(48,o),(52,p),(72,q)]
theorem rat_ok (lim : Nat) (H : Heap) (rows : Tb) (per balls w : Int) :
    ACall sig lim 54 [.agg [rowsAV rows], AV.i per, AV.i balls, AV.i w] H fun r H' => r = .tup [AV.i (atS rows per balls w).1, AV.i (atS rows per balls w).2] ∧ H' = H := by
 refine ACall_pure (fa := fa54) rfl rfl rfl rfl ?_
 have tr : ∀ a0 a1 a2 a3 : AV, env0 fa54.keep [a0, a1, a2, a3] = [(0,a0),(1,a1),(2,a2),(3,a3),(4,.any),(8,.any),(9,.any),(10,.any),(11,.any),(12,.any),(13,.any),(14,.any),(18,.any),(48,.any),(52,.any),(72,.any)] := fun a0 a1 a2 a3 => rfl
 refine W_to (tr _ _ _ _) ?_; clear tr
 refine at_seq rfl ?_
 refine rg rfl ?_
 refine R_box rfl (by simp (disch := first | omega | (simp only [List.length_map, List.length_append, List.length_set, List.length_cons, List.length_nil]; omega)) only [go_sem, ↓reduceIte, Nat.reduceEqDiff, reduceCtorEq]; rfl) rfl rfl ?_
 refine Rq ?_
 refine Rq ?_
 have tr : ∀ a b c d e f g h i j k m n o p q r s t : AV, let l := lc_rat_ok a b c d e f g h i j k m n o p q; trim ((9,t)::(8,s)::(4,r)::l) l = [(0,a),(1,b),(2,c),(3,d),(4,r),(8,s),(9,t),(10,h),(11,i),(12,j),(13,k),(14,m),(18,n),(48,o),(52,p),(72,q)] := by intros; rfl
 refine R_nil (tr ..) ?_; clear tr
 refine then_n ?_
 refine at_seq rfl ?_
 refine at_seq rfl ?_
 refine rg rfl ?_
 refine Rq ?_
 refine Rcall ?_
 refine ACall_eq (rcheck_ok _ _ _) ?_
 refine Rq ?_
 have tr : ∀ a b c d e f g h i j k m n o p q r s t : AV, let l := lc_rat_ok a b c d e f g h i j k m n o p q; trim ((10,t)::(16,s)::(15,r)::l) l = [(0,a),(1,b),(2,c),(3,d),(4,e),(8,f),(9,g),(10,t),(11,i),(12,j),(13,k),(14,m),(18,n),(48,o),(52,p),(72,q)] := by intros; rfl
 refine R_nil (tr ..) ?_; clear tr
 refine then_n ?_
 refine at_seq rfl ?_
 refine rg rfl ?_
 refine Rq ?_
 refine Rq ?_
 have tr : ∀ a b c d e f g h i j k m n o p q r s : AV, let l := lc_rat_ok a b c d e f g h i j k m n o p q; trim ((18,s)::(17,r)::l) l = [(0,a),(1,b),(2,c),(3,d),(4,e),(8,f),(9,g),(10,h),(11,i),(12,j),(13,k),(14,m),(18,s),(48,o),(52,p),(72,q)] := by intros; rfl
 refine R_nil (tr ..) ?_; clear tr
 refine then_n ?_
 refine cdd (fun h1 => ?_) (fun h1 => ?_)
 ·
  try simp only [decide_eq_true_eq, decide_eq_false_iff_not, Bool.not_eq_true', Bool.not_eq_false', beq_iff_eq, beq_eq_false_iff_ne, ne_eq] at h1
  refine at_seq rfl ?_
  refine rg rfl ?_
  refine Rq ?_
  refine Rq ?_
  refine Rq ?_
  have tr : ∀ a b c d e f g h i j k m n o p q r s t : AV, let l := lc_rat_ok a b c d e f g h i j k m n o p q; trim ((9,t)::(8,s)::(19,r)::l) l = [(0,a),(1,b),(2,c),(3,d),(4,e),(8,s),(9,t),(10,h),(11,i),(12,j),(13,k),(14,m),(18,n),(48,o),(52,p),(72,q)] := by intros; rfl
  refine R_nil (tr ..) ?_; clear tr
  refine then_n ?_
  refine at_ret rfl ?_
  refine then_r ?_
  refine fpure ?_
  refine ⟨?_, rfl⟩
  rw [atS, if_pos (by assumption)]
 ·
  try simp only [decide_eq_true_eq, decide_eq_false_iff_not, Bool.not_eq_true', Bool.not_eq_false', beq_iff_eq, beq_eq_false_iff_ne, ne_eq] at h1
  refine at_skip rfl ?_
  refine then_n ?_
  refine at_seq rfl ?_
  refine rg rfl ?_
  refine Rq ?_
  refine Rq ?_
  have tr : ∀ a b c d e f g h i j k m n o p q r s : AV, let l := lc_rat_ok a b c d e f g h i j k m n o p q; trim ((11,s)::(20,r)::l) l = [(0,a),(1,b),(2,c),(3,d),(4,e),(8,f),(9,g),(10,h),(11,s),(12,j),(13,k),(14,m),(18,n),(48,o),(52,p),(72,q)] := by intros; rfl
  refine R_nil (tr ..) ?_; clear tr
  refine then_n ?_
  refine at_seq rfl ?_
  refine at_seq rfl ?_
  refine rg rfl ?_
  refine Rq ?_
  refine Rq ?_
  refine Rq ?_
  refine Rp_split (fun h2 => ?_) (fun h2 => ?_)
  ·
   try simp only [decide_eq_true_eq, decide_eq_false_iff_not, Bool.not_eq_true', Bool.not_eq_false', beq_iff_eq, beq_eq_false_iff_ne, ne_eq] at h2
   refine Rn ?_
   refine Rn ?_
   refine Rq ?_
   refine Rq ?_
   refine Rn ?_
   refine Rn ?_
   refine Rq ?_
   refine Rq ?_
   refine Rn ?_
   refine Rn ?_
   refine Rn ?_
   refine Rn ?_
   refine Rn ?_
   refine Rn ?_
   refine Rq ?_
   refine Rq ?_
   refine Rn ?_
   refine Rn ?_
   refine Rq ?_
   refine Rq ?_
   refine Rn ?_
   refine Rn ?_
   refine Rn ?_
   refine Rn ?_
   refine Rq ?_
   have tr : ∀ a b c d e f g h i j k m n o p q r s t u v w x y z A B C D E F G H I J K L M N O P Q R S : AV, let l := lc_rat_ok a b c d e f g h i j k m n o p q; trim ((48,S)::(47,R)::(46,Q)::(45,P)::(44,O)::(43,N)::(42,M)::(41,L)::(40,K)::(39,J)::(38,I)::(37,H)::(36,G)::(35,F)::(34,E)::(33,D)::(32,C)::(31,B)::(30,A)::(29,z)::(28,y)::(27,x)::(26,w)::(25,v)::(24,u)::(23,t)::(22,s)::(21,r)::l) l = [(0,a),(1,b),(2,c),(3,d),(4,e),(8,f),(9,g),(10,h),(11,i),(12,j),(13,k),(14,m),(18,n),(48,S),(52,p),(72,q)] := by intros; rfl
   refine R_nil (tr ..) ?_; clear tr
   refine then_n ?_
   refine cdt ?_
   refine at_seq rfl ?_
   refine rg rfl ?_
   refine Rq ?_
   refine Rq ?_
   have tr : ∀ a b c d e f g h i j k m n o p q r s : AV, let l := lc_rat_ok a b c d e f g h i j k m n o p q; trim ((9,s)::(8,r)::l) l = [(0,a),(1,b),(2,c),(3,d),(4,e),(8,r),(9,s),(10,h),(11,i),(12,j),(13,k),(14,m),(18,n),(48,o),(52,p),(72,q)] := by intros; rfl
   refine R_nil (tr ..) ?_; clear tr
   refine then_n ?_
   refine at_ret rfl ?_
   refine then_r ?_
   refine fpure ?_
   refine ⟨?_, rfl⟩
   rw [atS, if_neg (by omega), if_pos (by unfold atBad; omega)]
  ·
   try simp only [decide_eq_true_eq, decide_eq_false_iff_not, Bool.not_eq_true', Bool.not_eq_false', beq_iff_eq, beq_eq_false_iff_ne, ne_eq] at h2
   refine Ry ?_
   refine Rq ?_
   refine Ry ?_
   refine Rq ?_
   refine Rq ?_
   refine Rq ?_
   refine Rp_split (fun h3 => ?_) (fun h3 => ?_)
   ·
    try simp only [decide_eq_true_eq, decide_eq_false_iff_not, Bool.not_eq_true', Bool.not_eq_false', beq_iff_eq, beq_eq_false_iff_ne, ne_eq] at h3
    refine Rn ?_
    refine Rn ?_
    refine Rq ?_
    refine Rq ?_
    refine Rn ?_
    refine Rn ?_
    refine Rn ?_
    refine Rn ?_
    refine Rn ?_
    refine Rn ?_
    refine Rq ?_
    refine Rq ?_
    refine Rn ?_
    refine Rn ?_
    refine Rq ?_
    refine Rq ?_
    refine Rn ?_
    refine Rn ?_
    refine Rn ?_
    refine Rn ?_
    refine Rq ?_
    have tr : ∀ a b c d e f g h i j k m n o p q r s t u v w x y z A B C D E F G H I J K L M N O P Q R S : AV, let l := lc_rat_ok a b c d e f g h i j k m n o p q; trim ((48,S)::(47,R)::(46,Q)::(45,P)::(44,O)::(43,N)::(42,M)::(41,L)::(40,K)::(39,J)::(38,I)::(37,H)::(36,G)::(35,F)::(34,E)::(33,D)::(32,C)::(31,B)::(30,A)::(29,z)::(28,y)::(27,x)::(26,w)::(25,v)::(24,u)::(23,t)::(22,s)::(21,r)::l) l = [(0,a),(1,b),(2,c),(3,d),(4,e),(8,f),(9,g),(10,h),(11,i),(12,j),(13,k),(14,m),(18,n),(48,S),(52,p),(72,q)] := by intros; rfl
    refine R_nil (tr ..) ?_; clear tr
    refine then_n ?_
    refine cdt ?_
    refine at_seq rfl ?_
    refine rg rfl ?_
    refine Rq ?_
    refine Rq ?_
    have tr : ∀ a b c d e f g h i j k m n o p q r s : AV, let l := lc_rat_ok a b c d e f g h i j k m n o p q; trim ((9,s)::(8,r)::l) l = [(0,a),(1,b),(2,c),(3,d),(4,e),(8,r),(9,s),(10,h),(11,i),(12,j),(13,k),(14,m),(18,n),(48,o),(52,p),(72,q)] := by intros; rfl
    refine R_nil (tr ..) ?_; clear tr
    refine then_n ?_
    refine at_ret rfl ?_
    refine then_r ?_
    refine fpure ?_
    refine ⟨?_, rfl⟩
    rw [atS, if_neg (by omega), if_pos (by unfold atBad; omega)]
   ·
    try simp only [decide_eq_true_eq, decide_eq_false_iff_not, Bool.not_eq_true', Bool.not_eq_false', beq_iff_eq, beq_eq_false_iff_ne, ne_eq] at h3
    refine Ry ?_
    refine Rq ?_
    refine Ry ?_
    refine Rq ?_
    refine Rq ?_
    refine Rq ?_
    refine Rp_split (fun h4 => ?_) (fun h4 => ?_)
    ·
     try simp only [decide_eq_true_eq, decide_eq_false_iff_not, Bool.not_eq_true', Bool.not_eq_false', beq_iff_eq, beq_eq_false_iff_ne, ne_eq] at h4
     refine Rn ?_
     refine Rn ?_
     refine Rn ?_
     refine Rn ?_
     refine Rn ?_
     refine Rn ?_
     refine Rq ?_
     refine Rq ?_
     refine Rn ?_
     refine Rn ?_
     refine Rq ?_
     refine Rq ?_
     refine Rn ?_
     refine Rn ?_
     refine Rn ?_
     refine Rn ?_
     refine Rq ?_
     have tr : ∀ a b c d e f g h i j k m n o p q r s t u v w x y z A B C D E F G H I J K L M N O P Q R S : AV, let l := lc_rat_ok a b c d e f g h i j k m n o p q; trim ((48,S)::(47,R)::(46,Q)::(45,P)::(44,O)::(43,N)::(42,M)::(41,L)::(40,K)::(39,J)::(38,I)::(37,H)::(36,G)::(35,F)::(34,E)::(33,D)::(32,C)::(31,B)::(30,A)::(29,z)::(28,y)::(27,x)::(26,w)::(25,v)::(24,u)::(23,t)::(22,s)::(21,r)::l) l = [(0,a),(1,b),(2,c),(3,d),(4,e),(8,f),(9,g),(10,h),(11,i),(12,j),(13,k),(14,m),(18,n),(48,S),(52,p),(72,q)] := by intros; rfl
     refine R_nil (tr ..) ?_; clear tr
     refine then_n ?_
     refine cdt ?_
     refine at_seq rfl ?_
     refine rg rfl ?_
     refine Rq ?_
     refine Rq ?_
     have tr : ∀ a b c d e f g h i j k m n o p q r s : AV, let l := lc_rat_ok a b c d e f g h i j k m n o p q; trim ((9,s)::(8,r)::l) l = [(0,a),(1,b),(2,c),(3,d),(4,e),(8,r),(9,s),(10,h),(11,i),(12,j),(13,k),(14,m),(18,n),(48,o),(52,p),(72,q)] := by intros; rfl
     refine R_nil (tr ..) ?_; clear tr
     refine then_n ?_
     refine at_ret rfl ?_
     refine then_r ?_
     refine fpure ?_
     refine ⟨?_, rfl⟩
     rw [atS, if_neg (by omega), if_pos (by unfold atBad; omega)]
    ·
     try simp only [decide_eq_true_eq, decide_eq_false_iff_not, Bool.not_eq_true', Bool.not_eq_false', beq_iff_eq, beq_eq_false_iff_ne, ne_eq] at h4
     refine Ry ?_
     refine Rq ?_
     refine Ry ?_
     refine Rq ?_
     refine Ry ?_
     refine Rcall ?_
     have s := check_shaped (by assumption : checkS rows = 0)
     have g2 := s.two
     have g91 := s.most
     refine ACall_eq (rovers_ok _ _ rows g91 g2) ?_
     have hpm := mul_box (a := (rows.length : Int) - 1) (b := per) (A := 90) (B := 8) (by omega) (by omega) (by omega) (by omega)
     refine Ry ?_
     refine Rq ?_
     refine Ry ?_
     refine Rq ?_
     refine Ry ?_
     refine Rq ?_
     refine Rq ?_
     refine Rq ?_
     refine Rp_split (fun h5 => ?_) (fun h5 => ?_)
     ·
      try simp only [decide_eq_true_eq, decide_eq_false_iff_not, Bool.not_eq_true', Bool.not_eq_false', beq_iff_eq, beq_eq_false_iff_ne, ne_eq] at h5
      refine Rn ?_
      refine Rn ?_
      refine Rq ?_
      refine Rq ?_
      refine Rn ?_
      refine Rn ?_
      refine Rn ?_
      refine Rn ?_
      refine Rq ?_
      have tr : ∀ a b c d e f g h i j k m n o p q r s t u v w x y z A B C D E F G H I J K L M N O P Q R S : AV, let l := lc_rat_ok a b c d e f g h i j k m n o p q; trim ((48,S)::(47,R)::(46,Q)::(45,P)::(44,O)::(43,N)::(42,M)::(41,L)::(40,K)::(39,J)::(38,I)::(37,H)::(36,G)::(35,F)::(34,E)::(33,D)::(32,C)::(31,B)::(30,A)::(29,z)::(28,y)::(27,x)::(26,w)::(25,v)::(24,u)::(23,t)::(22,s)::(21,r)::l) l = [(0,a),(1,b),(2,c),(3,d),(4,e),(8,f),(9,g),(10,h),(11,i),(12,j),(13,k),(14,m),(18,n),(48,S),(52,p),(72,q)] := by intros; rfl
      refine R_nil (tr ..) ?_; clear tr
      refine then_n ?_
      refine cdt ?_
      refine at_seq rfl ?_
      refine rg rfl ?_
      refine Rq ?_
      refine Rq ?_
      have tr : ∀ a b c d e f g h i j k m n o p q r s : AV, let l := lc_rat_ok a b c d e f g h i j k m n o p q; trim ((9,s)::(8,r)::l) l = [(0,a),(1,b),(2,c),(3,d),(4,e),(8,r),(9,s),(10,h),(11,i),(12,j),(13,k),(14,m),(18,n),(48,o),(52,p),(72,q)] := by intros; rfl
      refine R_nil (tr ..) ?_; clear tr
      refine then_n ?_
      refine at_ret rfl ?_
      refine then_r ?_
      refine fpure ?_
      refine ⟨?_, rfl⟩
      rw [atS, if_neg (by omega), if_pos (by unfold atBad; omega)]
     ·
      try simp only [decide_eq_true_eq, decide_eq_false_iff_not, Bool.not_eq_true', Bool.not_eq_false', beq_iff_eq, beq_eq_false_iff_ne, ne_eq] at h5
      refine Ry ?_
      refine Rq ?_
      refine Ry ?_
      refine Rq ?_
      refine Rq ?_
      refine Rq ?_
      refine Rp_split (fun h6 => ?_) (fun h6 => ?_)
      ·
       try simp only [decide_eq_true_eq, decide_eq_false_iff_not, Bool.not_eq_true', Bool.not_eq_false', beq_iff_eq, beq_eq_false_iff_ne, ne_eq] at h6
       refine Rn ?_
       refine Rn ?_
       refine Rn ?_
       refine Rn ?_
       refine Rq ?_
       have tr : ∀ a b c d e f g h i j k m n o p q r s t u v w x y z A B C D E F G H I J K L M N O P Q R S : AV, let l := lc_rat_ok a b c d e f g h i j k m n o p q; trim ((48,S)::(47,R)::(46,Q)::(45,P)::(44,O)::(43,N)::(42,M)::(41,L)::(40,K)::(39,J)::(38,I)::(37,H)::(36,G)::(35,F)::(34,E)::(33,D)::(32,C)::(31,B)::(30,A)::(29,z)::(28,y)::(27,x)::(26,w)::(25,v)::(24,u)::(23,t)::(22,s)::(21,r)::l) l = [(0,a),(1,b),(2,c),(3,d),(4,e),(8,f),(9,g),(10,h),(11,i),(12,j),(13,k),(14,m),(18,n),(48,S),(52,p),(72,q)] := by intros; rfl
       refine R_nil (tr ..) ?_; clear tr
       refine then_n ?_
       refine cdt ?_
       refine at_seq rfl ?_
       refine rg rfl ?_
       refine Rq ?_
       refine Rq ?_
       have tr : ∀ a b c d e f g h i j k m n o p q r s : AV, let l := lc_rat_ok a b c d e f g h i j k m n o p q; trim ((9,s)::(8,r)::l) l = [(0,a),(1,b),(2,c),(3,d),(4,e),(8,r),(9,s),(10,h),(11,i),(12,j),(13,k),(14,m),(18,n),(48,o),(52,p),(72,q)] := by intros; rfl
       refine R_nil (tr ..) ?_; clear tr
       refine then_n ?_
       refine at_ret rfl ?_
       refine then_r ?_
       refine fpure ?_
       refine ⟨?_, rfl⟩
       rw [atS, if_neg (by omega), if_pos (by unfold atBad; omega)]
      ·
       try simp only [decide_eq_true_eq, decide_eq_false_iff_not, Bool.not_eq_true', Bool.not_eq_false', beq_iff_eq, beq_eq_false_iff_ne, ne_eq] at h6
       refine Ry ?_
       refine Rq ?_
       refine Ry ?_
       refine Rq ?_
       refine Ry ?_
       refine Rcall ?_
       refine ACall_eq (rwickets_ok _ _ rows g2) ?_
       refine Ry ?_
       refine Rq ?_
       refine Rq ?_
       have tr : ∀ a b c d e f g h i j k m n o p q r s t u v w x y z A B C D E F G H I J K L M N O P Q R S : AV, let l := lc_rat_ok a b c d e f g h i j k m n o p q; trim ((48,S)::(47,R)::(46,Q)::(45,P)::(44,O)::(43,N)::(42,M)::(41,L)::(40,K)::(39,J)::(38,I)::(37,H)::(36,G)::(35,F)::(34,E)::(33,D)::(32,C)::(31,B)::(30,A)::(29,z)::(28,y)::(27,x)::(26,w)::(25,v)::(24,u)::(23,t)::(22,s)::(21,r)::l) l = [(0,a),(1,b),(2,c),(3,d),(4,e),(8,f),(9,g),(10,h),(11,i),(12,j),(13,k),(14,m),(18,n),(48,S),(52,p),(72,q)] := by intros; rfl
       refine R_nil (tr ..) ?_; clear tr
       refine then_n ?_
       refine cdd (fun h7 => ?_) (fun h7 => ?_)
       ·
        try simp only [decide_eq_true_eq, decide_eq_false_iff_not, Bool.not_eq_true', Bool.not_eq_false', beq_iff_eq, beq_eq_false_iff_ne, ne_eq] at h7
        refine at_seq rfl ?_
        refine rg rfl ?_
        refine Rq ?_
        refine Rq ?_
        have tr : ∀ a b c d e f g h i j k m n o p q r s : AV, let l := lc_rat_ok a b c d e f g h i j k m n o p q; trim ((9,s)::(8,r)::l) l = [(0,a),(1,b),(2,c),(3,d),(4,e),(8,r),(9,s),(10,h),(11,i),(12,j),(13,k),(14,m),(18,n),(48,o),(52,p),(72,q)] := by intros; rfl
        refine R_nil (tr ..) ?_; clear tr
        refine then_n ?_
        refine at_ret rfl ?_
        refine then_r ?_
        refine fpure ?_
        refine ⟨?_, rfl⟩
        rw [atS, if_neg (by omega), if_pos (by unfold atBad; omega)]
       ·
        try simp only [decide_eq_true_eq, decide_eq_false_iff_not, Bool.not_eq_true', Bool.not_eq_false', beq_iff_eq, beq_eq_false_iff_ne, ne_eq] at h7
        refine at_skip rfl ?_
        refine then_n ?_
        refine at_seq rfl ?_
        refine at_seq rfl ?_
        refine rg rfl ?_
        refine Rq ?_
        refine Rq ?_
        refine Rcall ?_
        refine ACall_eq (rwickets_ok _ _ rows g2) ?_
        refine Rq ?_
        have tr : ∀ a b c d e f g h i j k m n o p q r s t u : AV, let l := lc_rat_ok a b c d e f g h i j k m n o p q; trim ((52,u)::(51,t)::(50,s)::(49,r)::l) l = [(0,a),(1,b),(2,c),(3,d),(4,e),(8,f),(9,g),(10,h),(11,i),(12,j),(13,k),(14,m),(18,n),(48,o),(52,u),(72,q)] := by intros; rfl
        refine R_nil (tr ..) ?_; clear tr
        refine then_n ?_
        refine cdd (fun h8 => ?_) (fun h8 => ?_)
        ·
         try simp only [decide_eq_true_eq, decide_eq_false_iff_not, Bool.not_eq_true', Bool.not_eq_false', beq_iff_eq, beq_eq_false_iff_ne, ne_eq] at h8
         refine at_seq rfl ?_
         refine rg rfl ?_
         refine Rq ?_
         refine Rq ?_
         have tr : ∀ a b c d e f g h i j k m n o p q r s : AV, let l := lc_rat_ok a b c d e f g h i j k m n o p q; trim ((9,s)::(8,r)::l) l = [(0,a),(1,b),(2,c),(3,d),(4,e),(8,r),(9,s),(10,h),(11,i),(12,j),(13,k),(14,m),(18,n),(48,o),(52,p),(72,q)] := by intros; rfl
         refine R_nil (tr ..) ?_; clear tr
         refine then_n ?_
         refine at_ret rfl ?_
         refine then_r ?_
         refine fpure ?_
         refine ⟨?_, rfl⟩
         rw [atS, if_neg (by omega), if_neg (by unfold atBad; omega), if_pos (by omega)]
        ·
         try simp only [decide_eq_true_eq, decide_eq_false_iff_not, Bool.not_eq_true', Bool.not_eq_false', beq_iff_eq, beq_eq_false_iff_ne, ne_eq] at h8
         refine at_skip rfl ?_
         refine then_n ?_
         refine at_seq rfl ?_
         refine rd rfl rfl ?_
         have hat := at_place (n := (rows.length : Int) - 1) (per := per) (balls := balls) (by omega) (by omega) (by omega)
         obtain ⟨q0, q1, r0, r1, q2⟩ := hat
         have gl := s.len
         have gr := s.rng
         have hl1 := gl (balls / per).toNat (by omega)
         have k1 : 0 ≤ gt (gt rows (balls / per).toNat) w.toNat ∧ gt (gt rows (balls / per).toNat) w.toNat ≤ 10000 := gr _ (by omega) _ (by omega)
         have k2 := mul_box (b := per - balls % per) (B := 8) k1.1 k1.2 (by omega) (by omega)
         refine Qq ?_
         refine Qq ?_
         refine Qq ?_
         refine Qq ?_
         refine Qq ?_
         refine Qq ?_
         refine Qq ?_
         refine Qq ?_
         refine Q_nil ?_
         have tr : ∀ a b c d e f g h i j k m n o p q r s t u v w x y : AV, let l := lc_rat_ok a b c d e f g h i j k m n o p q; trim ((13,y)::(12,x)::(58,w)::(57,v)::(56,u)::(55,t)::(54,s)::(53,r)::l) l = [(0,a),(1,b),(2,c),(3,d),(4,e),(8,f),(9,g),(10,h),(11,i),(12,x),(13,y),(14,m),(18,n),(48,o),(52,p),(72,q)] := by intros; rfl
         refine R_nil (tr ..) ?_; clear tr
         refine then_n ?_
         refine at_seq rfl ?_
         refine rg rfl ?_
         refine Rq ?_
         refine Rq ?_
         refine Rq ?_
         refine Rq ?_
         refine Rq ?_
         refine Rq ?_
         refine Rq ?_
         refine Rq ?_
         refine Rq ?_
         refine Rq ?_
         refine Rq ?_
         refine Rq ?_
         refine Rq ?_
         have tr : ∀ a b c d e f g h i j k m n o p q r s t u v w x y z A B C D : AV, let l := lc_rat_ok a b c d e f g h i j k m n o p q; trim ((14,D)::(70,C)::(69,B)::(68,A)::(67,z)::(66,y)::(65,x)::(64,w)::(63,v)::(62,u)::(61,t)::(60,s)::(59,r)::l) l = [(0,a),(1,b),(2,c),(3,d),(4,e),(8,f),(9,g),(10,h),(11,i),(12,j),(13,k),(14,D),(18,n),(48,o),(52,p),(72,q)] := by intros; rfl
         refine R_nil (tr ..) ?_; clear tr
         refine then_n ?_
         refine at_seq rfl ?_
         refine at_seq rfl ?_
         refine rg rfl ?_
         refine Rq ?_
         refine Rq ?_
         have tr : ∀ a b c d e f g h i j k m n o p q r s : AV, let l := lc_rat_ok a b c d e f g h i j k m n o p q; trim ((72,s)::(71,r)::l) l = [(0,a),(1,b),(2,c),(3,d),(4,e),(8,f),(9,g),(10,h),(11,i),(12,j),(13,k),(14,m),(18,n),(48,o),(52,p),(72,s)] := by intros; rfl
         refine R_nil (tr ..) ?_; clear tr
         refine then_n ?_
         refine cdd (fun h9 => ?_) (fun h9 => ?_)
         ·
          try simp only [decide_eq_true_eq, decide_eq_false_iff_not, Bool.not_eq_true', Bool.not_eq_false', beq_iff_eq, beq_eq_false_iff_ne, ne_eq] at h9
          refine rg rfl ?_
          have q3 := q2 (by assumption)
          have hl2 := gl (balls / per + 1).toNat (by omega)
          have k3 : 0 ≤ gt (gt rows (balls / per + 1).toNat) w.toNat ∧ gt (gt rows (balls / per + 1).toNat) w.toNat ≤ 10000 := gr _ (by omega) _ (by omega)
          have k4 := mul_box (b := balls % per) (B := 8) k3.1 k3.2 (by omega) (by omega)
          refine Rq ?_
          refine Rq ?_
          refine Rq ?_
          refine Rq ?_
          refine Rq ?_
          refine Rq ?_
          refine Rq ?_
          refine Rq ?_
          refine Rq ?_
          refine Rq ?_
          refine Rq ?_
          refine Rq ?_
          refine Rq ?_
          refine Rq ?_
          have tr : ∀ a b c d e f g h i j k m n o p q r s t u v w x y z A B C D E : AV, let l := lc_rat_ok a b c d e f g h i j k m n o p q; trim ((14,E)::(85,D)::(84,C)::(83,B)::(82,A)::(81,z)::(80,y)::(79,x)::(78,w)::(77,v)::(76,u)::(75,t)::(74,s)::(73,r)::l) l = [(0,a),(1,b),(2,c),(3,d),(4,e),(8,f),(9,g),(10,h),(11,i),(12,j),(13,k),(14,E),(18,n),(48,o),(52,p),(72,q)] := by intros; rfl
          refine R_nil (tr ..) ?_; clear tr
          refine then_n ?_
          refine at_seq rfl ?_
          refine rg rfl ?_
          refine Rq ?_
          refine Rq ?_
          refine Rq ?_
          have tr : ∀ a b c d e f g h i j k m n o p q r s t : AV, let l := lc_rat_ok a b c d e f g h i j k m n o p q; trim ((9,t)::(8,s)::(86,r)::l) l = [(0,a),(1,b),(2,c),(3,d),(4,e),(8,s),(9,t),(10,h),(11,i),(12,j),(13,k),(14,m),(18,n),(48,o),(52,p),(72,q)] := by intros; rfl
          refine R_nil (tr ..) ?_; clear tr
          refine then_n ?_
          refine at_ret rfl ?_
          refine fpure ?_
          refine ⟨?_, rfl⟩
          rw [atS, if_neg (by omega), if_neg (by unfold atBad; omega), if_neg (by omega), atV, cellI, cellI, if_pos (by omega)]
         ·
          try simp only [decide_eq_true_eq, decide_eq_false_iff_not, Bool.not_eq_true', Bool.not_eq_false', beq_iff_eq, beq_eq_false_iff_ne, ne_eq] at h9
          refine at_skip rfl ?_
          refine then_n ?_
          refine at_seq rfl ?_
          refine rg rfl ?_
          refine Rq ?_
          refine Rq ?_
          refine Rq ?_
          have tr : ∀ a b c d e f g h i j k m n o p q r s t : AV, let l := lc_rat_ok a b c d e f g h i j k m n o p q; trim ((9,t)::(8,s)::(86,r)::l) l = [(0,a),(1,b),(2,c),(3,d),(4,e),(8,s),(9,t),(10,h),(11,i),(12,j),(13,k),(14,m),(18,n),(48,o),(52,p),(72,q)] := by intros; rfl
          refine R_nil (tr ..) ?_; clear tr
          refine then_n ?_
          refine at_ret rfl ?_
          refine fpure ?_
          refine ⟨?_, rfl⟩
          rw [atS, if_neg (by omega), if_neg (by unfold atBad; omega), if_neg (by omega), atV, cellI, cellI, if_neg (by omega), Int.add_zero]

end Go.Proofs.Ytaoondlakhocnaa
